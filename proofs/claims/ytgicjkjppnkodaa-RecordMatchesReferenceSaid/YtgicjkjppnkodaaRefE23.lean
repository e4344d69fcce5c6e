/-
  Records (chapter 23): the reference s bytes: flag, blank, number, pixels.
-/
import Derived.Test.YtgicjkjppnkodaaRefV23
namespace Go.Proofs.Ytgicjkjppnkodaa
open Go Go.RowKit
set_option linter.unusedVariables false
set_option linter.unusedSimpArgs false
set_option maxHeartbeats 2000000
set_option maxRecDepth 4000
attribute [local irreducible] mix

theorem refFlag23 (s : Bool) (n : Int) (w : World) :
    Calls Try.prog 29 #[.bool s, .int .i64 n] w fun e w' => e = .returned (.int .i64 (if s then n else 0)) ∧ Sat w [] [] w' := by
  cases s
  · refine enter Try.func29 rfl rfl rfl ?_
    refine r_seq ?_
    refine r_region ?_
    refine r_assign rfl rfl ?_
    refine r_nil ?_
    refine r_tn ?_
    refine r_seq ?_
    refine r_seq ?_
    refine r_region ?_
    refine r_move rfl rfl ?_
    refine r_nil ?_
    refine r_tn ?_
    refine r_cond_f rfl ?_
    refine r_skip ?_
    refine r_tn ?_
    refine r_seq ?_
    refine r_region ?_
    refine r_assign rfl rfl ?_
    refine r_nil ?_
    refine r_tn ?_
    refine r_ret ?_
    exact r_done1 (.inl rfl) rfl (res_tmp rfl) fun w hw => ⟨rfl, hw.clear⟩
  · refine enter Try.func29 rfl rfl rfl ?_
    refine r_seq ?_
    refine r_region ?_
    refine r_assign rfl rfl ?_
    refine r_nil ?_
    refine r_tn ?_
    refine r_seq ?_
    refine r_seq ?_
    refine r_region ?_
    refine r_move rfl rfl ?_
    refine r_nil ?_
    refine r_tn ?_
    refine r_cond_t rfl ?_
    refine r_seq ?_
    refine r_region ?_
    refine r_move rfl rfl ?_
    refine r_assign rfl rfl ?_
    refine r_nil ?_
    refine r_tn ?_
    refine r_ret ?_
    refine r_tr ?_
    exact r_done1 (.inl rfl) rfl (res_tmp rfl) fun w hw => ⟨rfl, hw.clear⟩

theorem blank_no {P : Nat → Nat → Bool} {k : Nat} (hk : k < 8192) (h : flatP P k = true) : eqQ P noneQ = false := by
  cases he : eqQ P noneQ with
  | false => rfl
  | true =>
    have h2 := (eqQ_iff _ _).1 he (k / 128) (by omega) (k % 128) (by omega)
    have h3 : P (k / 128) (k % 128) = true := h
    rw [h2] at h3; cases h3
theorem blank_yes {P : Nat → Nat → Bool} (h : ∀ z, z < 8192 → flatP P z = false) : eqQ P noneQ = true := (eqQ_iff _ _).2 fun y hy x hx => by
  have h2 := h (128 * y + x) (by omega)
  unfold flatP at h2
  rw [show (128 * y + x) / 128 = y by omega, show (128 * y + x) % 128 = x by omega] at h2
  exact h2


theorem refBlank23 (P : Nat → Nat → Bool) (a ca : Nat) (w : World) (ha : Rd w (some ⟨a, 0, none⟩) (boolsN 8192 (flatP P))) :
    Calls Try.prog 30 #[.slice (some ⟨a, 0, none⟩) 8192 ca] w fun e w' => e = .returned (.bool (eqQ P noneQ)) ∧ Sat w [] [] w' := by
  refine enter Try.func30 rfl rfl rfl ?_
  refine r_seq ?_
  refine r_region ?_
  refine r_assign rfl rfl ?_
  refine r_nil ?_
  refine r_tn ?_
  refine r_seq ?_
  refine r_seq ?_
  refine r_region ?_
  refine r_assign rfl rfl ?_
  refine r_nil ?_
  refine r_tn ?_
  refine r_block ?_
  refine r_loopN (fun k => [(0, .slice (some ⟨a, 0, none⟩) 8192 ca), (3, .int .i64 (k : Int))]) (fun k => []) (fun k => k ≤ 8192 ∧ ∀ z, z < k → flatP P z = false) 8192 0 ⟨by omega, fun z hz => by omega⟩ ⟨rfl, rfl, trivial⟩ (fun w hw => hw) fun k hk => ?_
  obtain ⟨hk, hz⟩ := hk
  refine r_seq ?_
  refine r_seq ?_
  refine r_region ?_
  refine r_move rfl rfl ?_
  refine r_move rfl rfl ?_
  refine r_len rfl rfl rfl ?_
  refine r_lss rfl rfl rfl rfl ?_
  refine r_nil ?_
  refine r_tn ?_
  refine r_cond rfl (fun hc => ?_) (fun hc => ?_)
  · refine r_skip ?_
    refine r_tn ?_
    refine r_seq ?_
    refine r_block ?_
    refine r_seq ?_
    refine r_region ?_
    have hk2 : k < 8192 := by have h := of_decide_eq_true hc; omega
    clear hc
    refine r_move rfl rfl ?_
    refine r_move rfl rfl ?_
    refine r_indexSl (sz := 1) (o' := 0 + k) rfl rfl rfl rfl rfl (by omega) (by omega) (by omega) ?_
    refine r_loadC (p := ⟨a, 0 + k, none⟩) (v := .bool (flatP P k)) rfl rfl rfl (fun w hw => (ha.keep hw).cell (boolsN_at (flatP P) (show k < 8192 by omega)) rfl) ?_
    refine r_nil ?_
    refine r_tn ?_
    refine r_cond rfl (fun hc => ?_) (fun hc => ?_)
    · refine r_seq ?_
      refine r_region ?_
      refine r_assign rfl rfl ?_
      refine r_nil ?_
      refine r_tn ?_
      refine r_ret ?_
      refine r_br ?_
      refine r_tr ?_
      refine r_tr ?_
      refine r_br ?_
      refine r_tr ?_
      exact r_done1 (.inl rfl) rfl (res_tmp rfl) fun w hw => ⟨by rw [blank_no hk2 hc], hw⟩
    · refine r_skip ?_
      refine r_bn ?_
      refine r_tn ?_
      refine r_region ?_
      refine r_move rfl rfl ?_
      refine r_add rfl rfl rfl (w64 (by omega)) ?_
      refine r_assign rfl rfl ?_
      refine r_nil ?_
      refine r_tn ?_
      exact r_againN (k + 1) ⟨by omega, fun z h1 => if e : z = k then by rw [e]; exact hc else hz z (by omega)⟩ (by omega) ⟨rfl, rfl, trivial⟩ (fun w hw => hw)
  · refine r_exit ?_
    refine r_te ?_
    refine r_te ?_
    refine r_be ?_
    refine r_tn ?_
    refine r_seq ?_
    refine r_region ?_
    refine r_assign rfl rfl ?_
    refine r_nil ?_
    refine r_tn ?_
    refine r_ret ?_
    have hk3 : k = 8192 := by have h := of_decide_eq_false hc; omega
    rw [hk3] at hz
    exact r_done1 (.inl rfl) rfl (res_tmp rfl) fun w hw => ⟨by rw [blank_yes hz], hw⟩

def numL (size n k : Nat) : List Int := List.replicate (size - k) 0 ++ (be size n).drop (size - k)
theorem numL_zero (size n : Nat) : (numL size n 0).map (Value.int .u8) = List.replicate size (Value.int .u8 0) := by
  unfold numL
  rw [Nat.sub_zero, List.drop_of_length_le (by rw [be_len]; omega), List.append_nil, List.map_replicate]
theorem numL_all (size n : Nat) : numL size n size = be size n := by
  unfold numL
  rw [Nat.sub_self, List.drop_zero]; rfl
theorem numL_step {size n k x : Nat} (hk : k < size) (hx : n / 256 ^ k = x) : (numL size n k).set (size - 1 - k) (((x % 256 : Nat) : Int)) = numL size n (k + 1) := by
  have e1 : List.replicate (size - k) (0 : Int) = List.replicate (size - (k + 1)) 0 ++ [0] := by rw [show size - k = (size - (k + 1)) + 1 by omega, List.replicate_succ']
  have hl : size - (k + 1) < (be size n).length := by rw [be_len]; omega
  have e2 : (be size n)[size - (k + 1)] = ((x % 256 : Nat) : Int) := by
    have h9 : (be size n)[size - (k + 1)]? = some ((((n >>> (8 * (size - 1 - (size - (k + 1))))) % 256 : Nat) : Int)) := by
      unfold be
      rw [List.getElem?_map, List.getElem?_range (by omega)]; rfl
    rw [List.getElem?_eq_getElem hl] at h9
    injection h9 with h9
    rw [h9, show 8 * (size - 1 - (size - (k + 1))) = 8 * k by omega, Nat.shiftRight_eq_div_pow, Nat.pow_mul, ← hx]
  unfold numL
  rw [List.drop_eq_getElem_cons hl, e2, show size - (k + 1) + 1 = size - k by omega, e1, List.append_assoc, List.set_append_right _ _ (by rw [List.length_replicate]; omega), List.length_replicate, show size - 1 - k - (size - (k + 1)) = 0 by omega]
  rfl


theorem refNumber23 (z : Int) (size : Nat) (hz : 0 ≤ z ∧ z ≤ 9223372036854775807) (hs : size ≤ 8) (hs0 : 0 < size) (w : World) :
    Calls Try.prog 28 #[.int .i64 z, .int .i64 (size : Int)] w fun e w' => ∃ i : Nat, e = .returned (.slice (some ⟨i, 0, none⟩) size size) ∧ True ∧ Sat w [] [.own 5 1 (.slice (some ⟨i, 0, none⟩) (size) size) (size) ((be size z.toNat).map (Value.int .u8))] w' := by
  obtain ⟨n, rfl⟩ : ∃ n : Nat, z = n := ⟨z.toNat, by omega⟩
  rw [Int.toNat_natCast]
  refine enter Try.func28 rfl rfl rfl ?_
  refine r_seq ?_
  refine r_region ?_
  refine r_assign rfl rfl ?_
  refine r_nil ?_
  refine r_tn ?_
  refine r_seq ?_
  refine r_region ?_
  refine r_move rfl rfl ?_
  refine r_makeSlice (m := size) (sz := 1) (bytes := 1) rfl rfl rfl rfl rfl rfl rfl (by omega) (by unfold maxLen; omega) (made_bytes size) (fun b8 => ?_)
  refine r_assign rfl rfl ?_
  refine r_nil ?_
  refine r_tn ?_
  refine r_seq ?_
  refine r_seq ?_
  refine r_region ?_
  refine r_move rfl rfl ?_
  refine r_sub (r := (size : Int) - 1 - ((0 : Nat) : Int)) rfl rfl rfl ((w64 (by omega)).trans (by omega)) ?_
  refine r_assign rfl rfl ?_
  refine r_nil ?_
  refine r_tn ?_
  refine r_block ?_
  refine r_loopN (fun k => [(0, .int .i64 ((n / 256 ^ k : Nat) : Int)), (5, .slice (some ⟨b8, 0, none⟩) size size), (6, .int .i64 ((size : Int) - 1 - (k : Int)))]) (fun k => [.own 5 1 (.slice (some ⟨b8, 0, none⟩) size size) size ((numL size n k).map (Value.int .u8))]) (fun k => k ≤ size) size 0 (by omega) ⟨by rw [Nat.pow_zero, Nat.div_one]; rfl, rfl, rfl, trivial⟩ (fun w hw => by rw [numL_zero]; exact hw.sub) fun k hk => ?_
  obtain ⟨x, hx⟩ : ∃ x, n / 256 ^ k = x := ⟨_, rfl⟩
  have hxn : x ≤ n := by rw [← hx]; exact Nat.div_le_self _ _
  rw [hx]
  refine r_seq ?_
  refine r_seq ?_
  refine r_region ?_
  refine r_move rfl rfl ?_
  refine r_geq (p := decide (k < size)) rfl rfl rfl (decide_eq_decide.2 ⟨fun _ => by omega, fun _ => by omega⟩) ?_
  refine r_nil ?_
  refine r_tn ?_
  refine r_cond rfl (fun hc => ?_) (fun hc => ?_)
  · refine r_skip ?_
    refine r_tn ?_
    refine r_seq ?_
    refine r_block ?_
    refine r_seq ?_
    refine r_region ?_
    have hk2 : k < size := of_decide_eq_true hc
    clear hc
    refine r_move rfl rfl ?_
    refine r_move rfl rfl ?_
    refine r_move rfl rfl ?_
    refine r_rem (r := ((x % 256 : Nat) : Int)) rfl rfl rfl (by decide) rfl ?_
    refine r_convert (r := ((x % 256 : Nat) : Int)) rfl rfl rfl rfl (IntWalk.u8_in _ ⟨by omega, by omega⟩) ?_
    refine r_indexSl (sz := 1) (o' := size - 1 - k) rfl rfl rfl rfl rfl (by omega) (by omega) (by omega) ?_
    refine r_storeOwn (m := size) (c := size) rfl rfl rfl rfl rfl (by omega) ?_
    rw [← List.map_set]
    refine r_nil ?_
    refine r_tn ?_
    refine r_region ?_
    refine r_move rfl rfl ?_
    refine r_quo (r := ((x / 256 : Nat) : Int)) rfl rfl rfl (by decide) (w64 (show -9223372036854775808 ≤ ((x / 256 : Nat) : Int) ∧ ((x / 256 : Nat) : Int) ≤ 9223372036854775807 by omega)) ?_
    refine r_assign rfl rfl ?_
    refine r_nil ?_
    refine r_bn ?_
    refine r_tn ?_
    refine r_region ?_
    refine r_move rfl rfl ?_
    refine r_sub (r := (size : Int) - 1 - ((k + 1 : Nat) : Int)) rfl rfl rfl ((w64 (by omega)).trans (by omega)) ?_
    refine r_assign rfl rfl ?_
    refine r_nil ?_
    refine r_tn ?_
    exact r_againN (k + 1) (by omega) (by omega) ⟨congrArg (fun z : Nat => some (Value.int .i64 (z : Int))) (by rw [← hx, Nat.div_div_eq_div_mul, ← Nat.pow_succ]), rfl, rfl, trivial⟩ (fun w hw => by rw [← numL_step hk2 hx]; exact hw.sub)
  · refine r_exit ?_
    refine r_te ?_
    refine r_te ?_
    refine r_be ?_
    refine r_tn ?_
    refine r_seq ?_
    refine r_region ?_
    refine r_move rfl rfl ?_
    refine r_assign rfl rfl ?_
    refine r_nil ?_
    refine r_tn ?_
    refine r_ret ?_
    have hk3 : k = size := by have h := of_decide_eq_false hc; omega
    subst hk3
    exact r_done1 (.inl rfl) rfl (res_tmp rfl) fun w hw => ⟨b8, rfl, trivial, by rw [numL_all] at hw; exact hw.sub⟩

/-- a byte of pixels -/
def pixB (P : Nat → Nat → Bool) (k : Nat) : Nat := num (fun t => flatP P (8 * k + (8 - 1 - t))) 8
def pixL (P : Nat → Nat → Bool) (k : Nat) : List Int := (List.range k).map fun q => ((pixB P q : Nat) : Int)
theorem pixL_succ (P : Nat → Nat → Bool) (k : Nat) : pixL P (k + 1) = pixL P k ++ [((pixB P k : Nat) : Int)] := by
  unfold pixL
  rw [List.range_succ, List.map_append]; rfl
theorem num_push (b : Nat → Bool) (j : Nat) {v : Bool} (h : b j = v) : 2 * num (fun t => b (j - 1 - t)) j + (cond v 1 0) = num (fun t => b ((j + 1) - 1 - t)) (j + 1) := by
  rw [num_low]
  have e1 : num (fun t => (fun t => b ((j + 1) - 1 - t)) (t + 1)) j = num (fun t => b (j - 1 - t)) j := num_congr fun i hi => by
    show b ((j + 1) - 1 - (i + 1)) = b (j - 1 - i)
    rw [show (j + 1) - 1 - (i + 1) = j - 1 - i by omega]
  rw [e1, ← h]
  show _ = _ + (b ((j + 1) - 1 - 0)).toNat
  rw [show (j + 1) - 1 - 0 = j by omega]
  cases b j <;> rfl
theorem word_byte {f : Nat → Bool} {P : Nat → Nat → Bool} {q i : Nat} (hi : i < 8) (h : ∀ t, t < 8 → f (8 * (7 - i) + t) = flatP P (8 * q + (8 - 1 - t))) : (num f 64 >>> (8 * (8 - 1 - i))) % 256 = pixB P q := by
  unfold pixB
  refine num_ext (show _ % 256 < 2 ^ 8 from Nat.mod_lt _ (by decide)) fun t ht => ?_
  rw [show (256 : Nat) = 2 ^ 8 from rfl, Nat.testBit_mod_two_pow, Nat.testBit_shiftRight, num_bit, decide_eq_true ht, decide_eq_true (by omega), Bool.true_and, Bool.true_and]
  exact h t ht
theorem pixL_rowsN (P : Nat → Nat → Bool) : ∀ y, pixL P (16 * y) = rowsB P y
  | 0 => rfl
  | y + 1 => by
    rw [rowsB_succ, ← pixL_rowsN P y, List.append_assoc]
    unfold pixL
    rw [show 16 * (y + 1) = 16 * y + 16 by omega, List.range_add, List.map_append]
    congr 1
    rw [show (16 : Nat) = 8 + 8 from rfl, List.range_add, List.map_append, List.map_append]
    congr 1
    · rw [List.map_map]
      apply List.map_congr_left
      intro i hi
      have hi := List.mem_range.1 hi
      show ((pixB P ((8 + 8) * y + i) : Nat) : Int) = _
      rw [← word_byte (f := fun t => P y (63 - t)) (q := (8 + 8) * y + i) (i := i) hi (fun t ht => by
        unfold flatP
        rw [show (8 * ((8 + 8) * y + i) + (8 - 1 - t)) / 128 = y by omega, show (8 * ((8 + 8) * y + i) + (8 - 1 - t)) % 128 = 63 - (8 * (7 - i) + t) by omega])]
      rfl
    · rw [List.map_map, List.map_map]
      apply List.map_congr_left
      intro i hi
      have hi := List.mem_range.1 hi
      show ((pixB P ((8 + 8) * y + (8 + i)) : Nat) : Int) = _
      rw [← word_byte (f := fun t => P y (127 - t)) (q := (8 + 8) * y + (8 + i)) (i := i) hi (fun t ht => by
        unfold flatP
        rw [show (8 * ((8 + 8) * y + (8 + i)) + (8 - 1 - t)) / 128 = y by omega, show (8 * ((8 + 8) * y + (8 + i)) + (8 - 1 - t)) % 128 = 127 - (8 * (7 - i) + t) by omega])]
      rfl
theorem pixL_rows (P : Nat → Nat → Bool) : pixL P 1024 = rowsB P 64 := pixL_rowsN P 64


theorem refPixels23 (P : Nat → Nat → Bool) (a ca : Nat) (w : World) (ha : Rd w (some ⟨a, 0, none⟩) (boolsN 8192 (flatP P))) :
    Calls Try.prog 31 #[.slice (some ⟨a, 0, none⟩) 8192 ca] w fun e w' => ∃ i : Option Addr × Nat, e = .returned (.slice i.1 1024 i.2) ∧ True ∧ Sat w [] [.own 5 1 (.slice i.1 (1024) i.2) (1024) ((rowsB P 64).map (Value.int .u8))] w' := by
  refine enter Try.func31 rfl rfl rfl ?_
  refine r_seq ?_
  refine r_region ?_
  refine r_assign rfl rfl ?_
  refine r_nil ?_
  refine r_tn ?_
  refine r_seq ?_
  refine r_region ?_
  refine r_assign rfl rfl ?_
  refine r_nil ?_
  refine r_tn ?_
  refine r_seq ?_
  refine r_seq ?_
  refine r_region ?_
  refine r_assign rfl rfl ?_
  refine r_nil ?_
  refine r_tn ?_
  refine r_block ?_
  refine Run.ownNil 5 1 ?_
  refine r_loop2 (fun k A2 c2 => [(0, .slice (some ⟨a, 0, none⟩) 8192 ca), (3, .slice A2 k c2), (4, .int .i64 ((8 * k : Nat) : Int))]) (fun k A2 c2 => [.own 5 1 (.slice A2 (k) c2) (k) ((pixL P k).map (Value.int .u8))]) (fun k A2 c2 => k ≤ 1024) 1024 0 none 0 (by omega) ⟨rfl, rfl, rfl, trivial⟩ (fun w hw => by have h2 : Sat _ _ [.own 5 1 (.slice none 0 0) 0 []] w := hw.sub; exact h2) fun k A2 c2 hk => ?_
  refine r_seq ?_
  refine r_seq ?_
  refine r_region ?_
  refine r_move rfl rfl ?_
  refine r_move rfl rfl ?_
  refine r_len rfl rfl rfl ?_
  refine r_lss (p := decide (k < 1024)) rfl rfl rfl (decide_eq_decide.2 ⟨fun _ => by omega, fun _ => by omega⟩) ?_
  refine r_nil ?_
  refine r_tn ?_
  refine r_cond rfl (fun hc => ?_) (fun hc => ?_)
  · refine r_skip ?_
    refine r_tn ?_
    refine r_seq ?_
    refine r_block ?_
    refine r_seq ?_
    refine r_region ?_
    first
      | (have hk2 : k < 1024 := of_decide_eq_true hc
         clear hc
         refine r_assign rfl rfl ?_)
      | refine r_assign rfl rfl ?_
    refine r_nil ?_
    refine r_tn ?_
    refine r_seq ?_
    refine r_seq ?_
    refine r_region ?_
    refine r_assign rfl rfl ?_
    refine r_nil ?_
    refine r_tn ?_
    refine r_block ?_
    refine r_loopN (fun j => [(0, .slice (some ⟨a, 0, none⟩) 8192 ca), (3, .slice A2 k c2), (4, .int .i64 ((8 * k : Nat) : Int)), (5, .int .i64 ((num (fun t => flatP P (8 * k + (j - 1 - t))) j : Nat) : Int)), (6, .int .i64 (j : Int))]) (fun j => [.own 5 1 (.slice A2 (k) c2) (k) ((pixL P k).map (Value.int .u8))]) (fun j => j ≤ 8) 8 0 (by omega) ⟨rfl, rfl, rfl, rfl, rfl, trivial⟩ (fun w hw => hw.sub) fun j hj => ?_
    obtain ⟨x, hx⟩ : ∃ x, num (fun t => flatP P (8 * k + (j - 1 - t))) j = x := ⟨_, rfl⟩
    rw [hx]
    refine r_seq ?_
    refine r_seq ?_
    refine r_region ?_
    refine r_move rfl rfl ?_
    refine r_lss rfl rfl rfl rfl ?_
    refine r_nil ?_
    refine r_tn ?_
    refine r_cond rfl (fun hc => ?_) (fun hc => ?_)
    · refine r_skip ?_
      refine r_tn ?_
      refine r_seq ?_
      refine r_block ?_
      refine r_seq ?_
      refine r_region ?_
      have hj2 : j < 8 := by have h := of_decide_eq_true hc; omega
      clear hc
      have hxl : x < 128 := by
        rw [← hx]
        exact Nat.lt_of_lt_of_le (num_lt _ j) (Nat.le_trans (Nat.pow_le_pow_right (by decide) (show j ≤ 7 by omega)) (by decide))
      refine r_move rfl rfl ?_
      refine r_mul (r := ((2 * x : Nat) : Int)) rfl rfl rfl ((w64 (by omega)).trans (by omega)) ?_
      first
        | (have hk2 : k < 1024 := of_decide_eq_true hc
           clear hc
           refine r_assign rfl rfl ?_)
        | refine r_assign rfl rfl ?_
      refine r_nil ?_
      refine r_tn ?_
      refine r_seq ?_
      refine r_region ?_
      refine r_move rfl rfl ?_
      refine r_move rfl rfl ?_
      refine r_move rfl rfl ?_
      refine r_add (r := ((8 * k + j : Nat) : Int)) rfl rfl rfl ((w64 (by omega)).trans (by omega)) ?_
      refine r_indexSl (sz := 1) (o' := 0 + (8 * k + j)) rfl rfl rfl rfl rfl (by omega) (by omega) (by omega) ?_
      refine r_loadC (p := ⟨a, 0 + (8 * k + j), none⟩) (v := .bool (flatP P (8 * k + j))) rfl rfl rfl (fun w hw => (ha.keep hw).cell (boolsN_at (flatP P) (show 8 * k + j < 8192 by omega)) rfl) ?_
      refine r_nil ?_
      refine r_tn ?_
      refine r_cond rfl (fun hc => ?_) (fun hc => ?_)
      · refine r_region ?_
        refine r_move rfl rfl ?_
        refine r_add (r := ((2 * x + 1 : Nat) : Int)) rfl rfl rfl ((w64 (by omega)).trans (by omega)) ?_
        first
          | (have hk2 : k < 1024 := of_decide_eq_true hc
             clear hc
             refine r_assign rfl rfl ?_)
          | refine r_assign rfl rfl ?_
        refine r_nil ?_
        refine r_bn ?_
        refine r_tn ?_
        refine r_region ?_
        refine r_move rfl rfl ?_
        refine r_add rfl rfl rfl (w64 (by omega)) ?_
        refine r_assign rfl rfl ?_
        refine r_nil ?_
        refine r_tn ?_
        exact r_againN (j + 1) (by omega) (by omega) ⟨rfl, rfl, rfl, congrArg (fun z : Nat => some (Value.int .i64 (z : Int))) (by rw [← hx]; exact num_push (fun z => flatP P (8 * k + z)) j hc), rfl, trivial⟩ (fun w hw => hw.sub)
      · refine r_skip ?_
        refine r_bn ?_
        refine r_tn ?_
        refine r_region ?_
        refine r_move rfl rfl ?_
        refine r_add rfl rfl rfl (w64 (by omega)) ?_
        refine r_assign rfl rfl ?_
        refine r_nil ?_
        refine r_tn ?_
        exact r_againN (j + 1) (by omega) (by omega) ⟨rfl, rfl, rfl, congrArg (fun z : Nat => some (Value.int .i64 (z : Int))) (by rw [← hx]; exact num_push (fun z => flatP P (8 * k + z)) j hc), rfl, trivial⟩ (fun w hw => hw.sub)
    · refine r_exit ?_
      refine r_te ?_
      refine r_te ?_
      refine r_be ?_
      refine r_tn ?_
      refine r_region ?_
      have hj8 : j = 8 := by have h := of_decide_eq_false hc; omega
      subst hj8
      have hx8 : x = pixB P k := hx.symm
      subst hx8
      have hpl : pixB P k < 256 := num_lt _ 8
      refine r_move rfl rfl ?_
      refine r_move rfl rfl ?_
      refine r_convert (r := ((pixB P k : Nat) : Int)) rfl rfl rfl rfl (IntWalk.u8_in _ ⟨by omega, by omega⟩) ?_
      refine r_lit (sz := 1) (pv := [(0, .int .u8 ((pixB P k : Nat) : Int))]) (cells := #[.int .u8 ((pixB P k : Nat) : Int)]) rfl rfl rfl rfl rfl rfl (by kernel_rfl) rfl (fun b30 => ?_) (by decide)
      refine r_append (k := 1) (news := ([((pixB P k : Nat) : Int)].map (Value.int .u8))) (sz := 1) (bytes := 1) rfl rfl rfl rfl rfl rfl (by decide) (fun w hw => own_rd (A := some ⟨b30, 0, none⟩) (m := 1) (c := 1) hw) (by first | (simp; done) | (simp; omega)) (fun u hu => by simp at hu; first | (obtain ⟨x, _, rfl⟩ := hu; rfl) | (subst hu; rfl)) (by omega) (by unfold maxLen; omega) fun A31 c31 => ?_
      refine r_assign rfl rfl ?_
      refine r_nil ?_
      refine r_bn ?_
      refine r_tn ?_
      refine r_region ?_
      refine r_move rfl rfl ?_
      refine r_add (r := ((8 * (k + 1) : Nat) : Int)) rfl rfl rfl ((w64 (by omega)).trans (by omega)) ?_
      refine r_assign rfl rfl ?_
      refine r_nil ?_
      refine r_tn ?_
      exact r_again2 (k + 1) A31 c31 (by omega) (by omega) ⟨rfl, rfl, rfl, trivial⟩ (fun w hw => by rw [pixL_succ, List.map_append]; exact hw.sub)
  · refine r_exit ?_
    refine r_te ?_
    refine r_te ?_
    refine r_be ?_
    refine r_tn ?_
    refine r_seq ?_
    refine r_region ?_
    have hk3 : k = 1024 := by have h := of_decide_eq_false hc; omega
    subst hk3
    refine r_move rfl rfl ?_
    refine r_assign rfl rfl ?_
    refine r_nil ?_
    refine r_tn ?_
    refine r_ret ?_
    exact r_done1 (.inl rfl) rfl (res_tmp rfl) fun w hw => ⟨(A2, c2), rfl, trivial, by rw [pixL_rows] at hw; exact hw.sub⟩
end Go.Proofs.Ytgicjkjppnkodaa
