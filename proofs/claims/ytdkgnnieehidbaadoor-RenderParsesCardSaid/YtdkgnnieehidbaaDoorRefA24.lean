/-
  Rendering (chapter 24): the reference s Texts, Lines, Samples, Wave.
-/
import Derived.Test.YtdkgnnieehidbaaDoorInv24
namespace Go.Proofs.YtdkgnnieehidbaaDoor
open Go Go.RowKit
set_option linter.unusedVariables false
set_option linter.unusedSimpArgs false
set_option maxHeartbeats 2000000
set_option maxRecDepth 4000
attribute [local irreducible] mix

def bI (l : List UInt8) : List Int := l.map fun z => ((z.toNat : Nat) : Int)
theorem bI_len (l : List UInt8) : (bI l).length = l.length := by simp [bI]
theorem bI_snoc (l : List UInt8) (z : UInt8) : bI (l ++ [z]) = bI l ++ [((z.toNat : Nat) : Int)] := by simp [bI]
theorem strOf_bI (l : List UInt8) : strOf (bI l) = tx l := by
  rw [strOf_tx]
  congr 1
  unfold bI
  rw [List.map_map]
  conv => rhs; rw [← List.map_id l]
  apply List.map_congr_left
  intro z _
  show UInt8.ofNat z.toNat = z
  exact UInt8.ofNat_toNat
theorem txs_at {xs : List (List UInt8)} {k : Nat} (h : k < xs.length) : (xs.map txV)[k]? = some (txV xs[k]) := by simp [h]
theorem rd_some {w : World} {A : Option Addr} {xs : List Value} (h : Rd w A xs) {k : Nat} {u : Value} (hk : xs[k]? = some u) : ∃ b o, A = some ⟨b, o, none⟩ := by
  obtain ⟨b, o, e, _⟩ := h k u hk
  exact ⟨b, o, e⟩
theorem chars_at : ∀ n, n < 16 → (ByteArray.mk #[46, 49, 50, 51, 52, 53, 54, 55, 56, 57, 65, 66, 67, 68, 69, 70])[n]? = some (UInt8.ofNat (chN n)) := by decide
def lineX (P : Nat → Nat → Nat → Bool) (y x : Nat) : List UInt8 := (List.range x).map fun x => UInt8.ofNat (chN (colN P x y))
theorem lineX_succ (P : Nat → Nat → Nat → Bool) (y x : Nat) : lineX P y (x + 1) = lineX P y x ++ [UInt8.ofNat (chN (colN P x y))] := by
  unfold lineX
  rw [List.range_succ, List.map_append]
  rfl
theorem lineX_all (P : Nat → Nat → Nat → Bool) (hires : Bool) (y : Nat) : lineX P y (wd hires) = lineB P hires y := rfl
theorem num_yes {f : Nat → Bool} {k : Nat} (h : f k = true) : num f k + 2 ^ k = num f (k + 1) := by simp only [num]; rw [h]; rfl
theorem num_no {f : Nat → Bool} {k : Nat} (h : f k = false) : num f k = num f (k + 1) := by simp only [num]; rw [h]; rfl
theorem two_pow (k : Nat) : 2 * 2 ^ k = 2 ^ (k + 1) := by rw [Nat.pow_succ]; omega
theorem add_rng {x y : Nat} (h : x < y) (h2 : y ≤ 2 ^ 4) : -9223372036854775808 ≤ (x : Int) + (y : Int) ∧ (x : Int) + (y : Int) ≤ 9223372036854775807 := by omega
theorem mul_rng {y : Nat} (h2 : y ≤ 2 ^ 4) : -9223372036854775808 ≤ 2 * (y : Int) ∧ 2 * (y : Int) ≤ 9223372036854775807 := by omega
theorem quo_rng {z y : Nat} (h2 : z < 256) : -9223372036854775808 ≤ ((z / y : Nat) : Int) ∧ ((z / y : Nat) : Int) ≤ 9223372036854775807 := by
  have h := Nat.div_le_self z y
  generalize z / y = q at *
  omega
theorem half_rng {y : Nat} (h2 : y ≤ 128) : -9223372036854775808 ≤ ((y / 2 : Nat) : Int) ∧ ((y / 2 : Nat) : Int) ≤ 9223372036854775807 := by
  have h := Nat.div_le_self y 2
  generalize y / 2 = q at *
  omega
theorem pixQ_yes (P : Nat → Nat → Nat → Bool) {x y i : Nat} {b : Bool} (hx : x < 128) (hy : y < 64) (h : P i ((y : Int)).toNat ((x : Int)).toNat = b) : (fun i => pixQ (P i) (x : Int) (y : Int)) i = b := (pixQ_nat (P i) hx hy).trans h
theorem pat_at {pat : List Int} (h : pat.length = 16) {i : Nat} (hi : i < 16) : (pat.map (Value.int .u8))[i]? = some (.int .u8 (pat.getD i 0)) := by
  simp [List.getD, h, hi]
def sampZ (z k : Nat) : Bool := z.testBit (7 - k)
theorem sampB_at (pat : List Int) {i k z : Nat} (hk : k < 8) (hz : pat.getD i 0 = (z : Int)) : sampZ z k = sampB pat (8 * i + k) := by
  unfold sampB sampZ
  rw [show (8 * i + k) / 8 = i by omega, show (8 * i + k) % 8 = k by omega, hz]
  rfl
theorem pow_pos8 : ∀ k, k < 8 → 0 < 128 / 2 ^ k := by decide
theorem samp_dec (z : Nat) : ∀ k, k < 8 → decide (((z / (128 / 2 ^ k) % 2 : Nat) : Int) = 1) = sampZ z k := by
  intro k hk
  have e : ∀ k, k < 8 → 128 / 2 ^ k = 2 ^ (7 - k) := by decide
  unfold sampZ
  rw [e k hk, ← bit_dec, Nat.shiftRight_eq_div_pow]
theorem boolsN_zero (f : Nat → Bool) : boolsN 0 f = [] := rfl
theorem boolsN_snoc (n : Nat) (f : Nat → Bool) : boolsN (n + 1) f = boolsN n f ++ [.bool (f n)] := by
  unfold boolsN
  rw [List.range_succ, List.map_append]
  rfl
def waveX (pat : List Int) (k : Nat) : List UInt8 := (List.range k).map fun i => bif sampB pat i then 35 else 46
theorem waveX_yes {pat : List Int} {k : Nat} (h : sampB pat k = true) : waveX pat (k + 1) = waveX pat k ++ [35] := by
  unfold waveX
  rw [List.range_succ, List.map_append, List.map_cons, h]
  rfl
theorem waveX_no {pat : List Int} {k : Nat} (h : sampB pat k = false) : waveX pat (k + 1) = waveX pat k ++ [46] := by
  unfold waveX
  rw [List.range_succ, List.map_append, List.map_cons, h]
  rfl
attribute [local irreducible] lineB sampB sampZ boolsN


theorem characters24  (w : World) :
    Calls Tryd.prog 36 #[] w fun e w' => e = .returned (.string (ByteArray.mk #[46, 49, 50, 51, 52, 53, 54, 55, 56, 57, 65, 66, 67, 68, 69, 70])) ∧ Sat w [] [] w' := by
  refine enter Tryd.func36 rfl rfl rfl ?_
  refine r_seq ?_
  refine r_region ?_
  refine r_assign rfl rfl ?_
  refine r_nil ?_
  refine r_tn ?_
  refine r_seq ?_
  refine r_region ?_
  refine r_assign rfl rfl ?_
  refine r_nil ?_
  refine r_tn ?_
  refine r_ret ?_
  exact r_done1 (.inl rfl) rfl (res_tmp rfl) fun w hw => ⟨rfl, hw.clear⟩

theorem refTexts24 (xs : List (List UInt8)) (hlen : xs.length ≤ 1000000000) (A1 A2 : Option Addr) (c1 c2 : Nat) (w : World) (h1 : Rd w A1 (xs.map txV)) (h2 : Rd w A2 (xs.map txV)) :
    Calls Tryd.prog 9 #[.slice A1 xs.length c1, .slice A2 xs.length c2] w fun e w' => e = .returned (.bool true) ∧ Sat w [] [] w' := by
  refine enter Tryd.func9 rfl rfl rfl ?_
  refine r_seq ?_
  refine r_region ?_
  refine r_assign rfl rfl ?_
  refine r_nil ?_
  refine r_tn ?_
  refine r_seq ?_
  refine r_seq ?_
  refine r_region ?_
  refine r_move rfl rfl ?_
  refine r_len rfl rfl rfl ?_
  refine r_move rfl rfl ?_
  refine r_len rfl rfl rfl ?_
  refine r_neq (p := false) rfl rfl rfl (decide_eq_false (by simp)) ?_
  refine r_nil ?_
  refine r_tn ?_
  refine r_cond_f rfl ?_
  refine r_skip ?_
  refine r_tn ?_
  refine r_seq ?_
  refine r_seq ?_
  refine r_region ?_
  refine r_assign rfl rfl ?_
  refine r_nil ?_
  refine r_tn ?_
  refine r_block ?_
  refine r_loopN (fun k => [(0, .slice A1 xs.length c1), (1, .slice A2 xs.length c2), (5, .int .i64 (k : Int))]) (fun _ => []) (fun k => k ≤ xs.length) xs.length 0 (by omega) ⟨rfl, rfl, rfl, trivial⟩ (fun w hw => hw.clear) fun k hk => ?_
  refine r_seq ?_
  refine r_seq ?_
  refine r_region ?_
  refine r_move rfl rfl ?_
  refine r_move rfl rfl ?_
  refine r_len rfl rfl rfl ?_
  refine r_lss rfl rfl rfl rfl ?_
  refine r_nil ?_
  refine r_tn ?_
  refine r_cond rfl (fun hc => ?_) (fun hc => ?_)
  · refine r_skip ?_
    refine r_tn ?_
    refine r_seq ?_
    refine r_block ?_
    refine r_seq ?_
    refine r_mixed (by kernel_rfl) (by kernel_rfl) ?_
    have hk2 : k < xs.length := by have h := of_decide_eq_true hc; omega
    clear hc
    have e1 := txs_at hk2
    obtain ⟨b1, o1, rfl⟩ := rd_some h1 e1
    obtain ⟨b2, o2, rfl⟩ := rd_some h2 e1
    refine r_move rfl rfl ?_
    refine r_move rfl rfl ?_
    refine r_indexSl (sz := 1) (o' := o1 + k) rfl rfl rfl rfl rfl (by omega) (by omega) (by omega) ?_
    refine r_loadC (p := ⟨b1, o1 + k, none⟩) (v := txV xs[k]) rfl rfl rfl (fun w hw => (h1.keep hw).cell e1 rfl) ?_
    refine r_move rfl rfl ?_
    refine r_move rfl rfl ?_
    refine r_indexSl (sz := 1) (o' := o2 + k) rfl rfl rfl rfl rfl (by omega) (by omega) (by omega) ?_
    refine r_loadC (p := ⟨b2, o2 + k, none⟩) (v := txV xs[k]) rfl rfl rfl (fun w hw => (h2.keep hw).cell e1 rfl) ?_
    refine r_neq_string (a := tx xs[k]) (b := tx xs[k]) (p := false) rfl rfl rfl (by rw [beq_self_eq_true]; rfl) ?_
    refine r_nil ?_
    refine r_tn ?_
    refine r_cond_f rfl ?_
    refine r_skip ?_
    refine r_bn ?_
    refine r_tn ?_
    refine r_region ?_
    refine r_move rfl rfl ?_
    refine r_add rfl rfl rfl (w64 (by omega)) ?_
    refine r_assign rfl rfl ?_
    refine r_nil ?_
    refine r_tn ?_
    exact r_againN (k + 1) (by omega) (by omega) ⟨rfl, rfl, rfl, trivial⟩ (fun w hw => hw.clear)
  · refine r_exit ?_
    refine r_te ?_
    refine r_te ?_
    refine r_be ?_
    refine r_tn ?_
    refine r_seq ?_
    refine r_region ?_
    refine r_assign rfl rfl ?_
    refine r_nil ?_
    refine r_tn ?_
    refine r_ret ?_
    exact r_done1 (.inl rfl) rfl (res_tmp rfl) fun w hw => ⟨rfl, hw.clear⟩

theorem refLines24 (P : Nat → Nat → Nat → Bool) (hires : Bool) (a c : Nat) (f : Nat → Nat) (w : World) (hA : Rd w (some ⟨a, 0, none⟩) (plS4 f 4)) (hP : ∀ j, j < 4 → Rd w (some ⟨f j, 0, none⟩) (boolsN 8192 (flatP (P j)))) :
    Calls Tryd.prog 12 #[.slice (some ⟨a, 0, none⟩) 4 c, .bool hires] w fun e w' => ∃ i : Option Addr × Nat, e = .returned (.slice i.1 (ht hires) i.2) ∧ True ∧ Sat w [] [.own 9 1 (.slice i.1 (ht hires) i.2) (ht hires) ((List.range (ht hires)).map fun y => .string (tx (lineB P hires y)))] w' := by
  refine enter Tryd.func12 rfl rfl rfl ?_
  refine r_seq ?_
  refine r_region ?_
  refine r_assign rfl rfl ?_
  refine r_nil ?_
  refine r_tn ?_
  refine r_seq ?_
  refine r_region ?_
  refine r_assign rfl rfl ?_
  refine r_nil ?_
  refine r_tn ?_
  refine r_seq ?_
  refine r_seq ?_
  refine r_region ?_
  refine r_assign rfl rfl ?_
  refine r_nil ?_
  refine r_tn ?_
  refine r_block ?_
  refine Run.ownNil 9 1 ?_
  refine r_loop2 (fun y A5 c5 => [(0, .slice (some ⟨a, 0, none⟩) 4 c), (1, .bool hires), (5, .slice A5 y c5), (6, .int .i64 (y : Int))]) (fun y A5 c5 => [.own 9 1 (.slice A5 y c5) y ((List.range y).map fun y => .string (tx (lineB P hires y)))]) (fun y A5 c5 => y ≤ ht hires) (ht hires) 0 none 0 (by omega) ⟨rfl, rfl, rfl, rfl, trivial⟩ (fun w hw => by have h2 : Sat _ _ [.own 9 1 (.slice none 0 0) 0 []] w := hw.sub; exact h2) fun y A5 c5 hy => ?_
  have hht : ht hires ≤ 64 := by cases hires <;> decide
  refine r_seq ?_
  refine r_seq ?_
  refine r_region ?_
  refine r_move rfl rfl ?_
  refine r_move rfl rfl ?_
  refine r_call rfl rfl rfl (by kernel_rfl) rfl (fun w hw => by exact refHeight07 hires w) ?_
  refine r_lss (p := decide (y < ht hires)) rfl rfl rfl (decide_eq_decide.2 ⟨fun _ => by omega, fun _ => by omega⟩) ?_
  refine r_nil ?_
  refine r_tn ?_
  refine r_cond rfl (fun hc => ?_) (fun hc => ?_)
  · refine r_skip ?_
    refine r_tn ?_
    refine r_seq ?_
    refine r_block ?_
    refine r_seq ?_
    refine r_region ?_
    first
      | (have hy2 : y < ht hires := of_decide_eq_true hc
         clear hc
         refine r_assign rfl rfl ?_)
      | refine r_assign rfl rfl ?_
    refine r_nil ?_
    refine r_tn ?_
    refine r_seq ?_
    refine r_seq ?_
    refine r_region ?_
    refine r_assign rfl rfl ?_
    refine r_nil ?_
    refine r_tn ?_
    refine r_block ?_
    refine Run.ownNil 5 1 ?_
    refine r_loop2 (fun x A7 c7 => [(0, .slice (some ⟨a, 0, none⟩) 4 c), (1, .bool hires), (5, .slice A5 y c5), (6, .int .i64 (y : Int)), (7, .slice A7 x c7), (8, .int .i64 (x : Int))]) (fun x A7 c7 => [.own 5 1 (.slice A7 x c7) x ((bI (lineX P y x)).map (Value.int .u8)), .own 9 1 (.slice A5 y c5) y ((List.range y).map fun y => .string (tx (lineB P hires y)))]) (fun x A7 c7 => x ≤ wd hires) (wd hires) 0 none 0 (by omega) ⟨rfl, rfl, rfl, rfl, rfl, rfl, trivial⟩ (fun w hw => by have h2 : Sat _ _ [.own 5 1 (.slice none 0 0) 0 [], .own 9 1 (.slice A5 y c5) y ((List.range y).map fun y => .string (tx (lineB P hires y)))] w := hw.sub; exact h2) fun x A7 c7 hx => ?_
    have hwd : wd hires ≤ 128 := by cases hires <;> decide
    refine r_seq ?_
    refine r_seq ?_
    refine r_region ?_
    refine r_move rfl rfl ?_
    refine r_move rfl rfl ?_
    refine r_call rfl rfl rfl (by kernel_rfl) rfl (fun w hw => by exact width06 hires w) ?_
    refine r_lss (p := decide (x < wd hires)) rfl rfl rfl (decide_eq_decide.2 ⟨fun _ => by omega, fun _ => by omega⟩) ?_
    refine r_nil ?_
    refine r_tn ?_
    refine r_cond rfl (fun hc => ?_) (fun hc => ?_)
    · refine r_skip ?_
      refine r_tn ?_
      refine r_seq ?_
      refine r_block ?_
      refine r_seq ?_
      refine r_region ?_
      first
        | (have hx2 : x < wd hires := of_decide_eq_true hc
           clear hc
           refine r_assign rfl rfl ?_)
        | refine r_assign rfl rfl ?_
      refine r_nil ?_
      refine r_tn ?_
      refine r_seq ?_
      refine r_region ?_
      refine r_assign rfl rfl ?_
      refine r_nil ?_
      refine r_tn ?_
      refine r_seq ?_
      refine r_seq ?_
      refine r_region ?_
      refine r_assign rfl rfl ?_
      refine r_nil ?_
      refine r_tn ?_
      refine r_block ?_
      refine r_loopN (fun i => [(0, .slice (some ⟨a, 0, none⟩) 4 c), (1, .bool hires), (5, .slice A5 y c5), (6, .int .i64 (y : Int)), (7, .slice A7 x c7), (8, .int .i64 (x : Int)), (9, .int .i64 ((num (fun i => pixQ (P i) (x : Int) (y : Int)) i : Nat) : Int)), (10, .int .i64 ((2 ^ i : Nat) : Int)), (11, .int .i64 (i : Int))]) (fun i => [.own 5 1 (.slice A7 x c7) x ((bI (lineX P y x)).map (Value.int .u8)), .own 9 1 (.slice A5 y c5) y ((List.range y).map fun y => .string (tx (lineB P hires y)))]) (fun i => i ≤ 4) 4 0 (by omega) ⟨rfl, rfl, rfl, rfl, rfl, rfl, rfl, rfl, rfl, trivial⟩ (fun w hw => hw.sub) fun i hi => ?_
      have hnk := num_lt (fun i => pixQ (P i) (x : Int) (y : Int)) i
      have hpk : 2 ^ i ≤ 2 ^ 4 := Nat.pow_le_pow_right (by decide) hi
      refine r_seq ?_
      refine r_seq ?_
      refine r_region ?_
      refine r_move rfl rfl ?_
      refine r_lss rfl rfl rfl rfl ?_
      refine r_nil ?_
      refine r_tn ?_
      refine r_cond rfl (fun hc => ?_) (fun hc => ?_)
      · refine r_skip ?_
        refine r_tn ?_
        refine r_seq ?_
        refine r_block ?_
        refine r_seq ?_
        refine r_seq ?_
        refine r_region ?_
        have hi2 : i < 4 := by have h := of_decide_eq_true hc; omega
        clear hc
        refine r_move rfl rfl ?_
        refine r_move rfl rfl ?_
        refine r_indexSl (sz := 1) (o' := 0 + i) rfl rfl rfl rfl rfl (by omega) (by omega) (by omega) ?_
        refine r_loadC (p := ⟨a, 0 + i, none⟩) (v := .slice (some ⟨f i, 0, none⟩) 8192 8192) rfl rfl rfl (fun w hw => (hA.keep hw).cell (plS4_at f hi2) rfl) ?_
        refine r_move rfl rfl ?_
        refine r_move rfl rfl ?_
        refine r_call rfl rfl rfl (by kernel_rfl) rfl (fun w hw => by exact refGet07 (P i) (x : Int) (y : Int) (f i) 8192 w ((hP i hi2).keep hw) ⟨by omega, by omega⟩ ⟨by omega, by omega⟩) ?_
        refine r_nil ?_
        refine r_tn ?_
        refine r_cond rfl (fun hc => ?_) (fun hc => ?_)
        · refine r_region ?_
          refine r_move rfl rfl ?_
          refine r_move rfl rfl ?_
          refine r_add (r := ((num (fun i => pixQ (P i) (x : Int) (y : Int)) i + 2 ^ i : Nat) : Int)) rfl rfl rfl ((w64 (add_rng hnk hpk)).trans (Int.natCast_add _ _).symm) ?_
          first
            | (have hx2 : x < wd hires := of_decide_eq_true hc
               clear hc
               refine r_assign rfl rfl ?_)
            | refine r_assign rfl rfl ?_
          refine r_nil ?_
          refine r_tn ?_
          refine r_region ?_
          refine r_move rfl rfl ?_
          refine r_mul (r := ((2 * 2 ^ i : Nat) : Int)) rfl rfl rfl ((w64 (mul_rng hpk)).trans (Int.natCast_mul 2 _).symm) ?_
          refine r_assign rfl rfl ?_
          refine r_nil ?_
          refine r_bn ?_
          refine r_tn ?_
          refine r_region ?_
          refine r_move rfl rfl ?_
          refine r_add rfl rfl rfl (w64 (by omega)) ?_
          refine r_assign rfl rfl ?_
          refine r_nil ?_
          refine r_tn ?_
          first
            | exact r_againN (i + 1) (by omega) (by omega) ⟨rfl, rfl, rfl, rfl, rfl, rfl, congrArg (fun z : Nat => some (Value.int .i64 (z : Int))) (num_yes (pixQ_yes P (show x < 128 by omega) (show y < 64 by omega) hc)), congrArg (fun z : Nat => some (Value.int .i64 (z : Int))) (two_pow i), rfl, trivial⟩ (fun w hw => hw.sub)
            | exact r_againN (i + 1) (by omega) (by omega) ⟨rfl, rfl, rfl, rfl, rfl, rfl, congrArg (fun z : Nat => some (Value.int .i64 (z : Int))) (num_no (pixQ_yes P (show x < 128 by omega) (show y < 64 by omega) hc)), congrArg (fun z : Nat => some (Value.int .i64 (z : Int))) (two_pow i), rfl, trivial⟩ (fun w hw => hw.sub)
        · refine r_skip ?_
          refine r_tn ?_
          refine r_region ?_
          refine r_move rfl rfl ?_
          refine r_mul (r := ((2 * 2 ^ i : Nat) : Int)) rfl rfl rfl ((w64 (mul_rng hpk)).trans (Int.natCast_mul 2 _).symm) ?_
          refine r_assign rfl rfl ?_
          refine r_nil ?_
          refine r_bn ?_
          refine r_tn ?_
          refine r_region ?_
          refine r_move rfl rfl ?_
          refine r_add rfl rfl rfl (w64 (by omega)) ?_
          refine r_assign rfl rfl ?_
          refine r_nil ?_
          refine r_tn ?_
          first
            | exact r_againN (i + 1) (by omega) (by omega) ⟨rfl, rfl, rfl, rfl, rfl, rfl, congrArg (fun z : Nat => some (Value.int .i64 (z : Int))) (num_yes (pixQ_yes P (show x < 128 by omega) (show y < 64 by omega) hc)), congrArg (fun z : Nat => some (Value.int .i64 (z : Int))) (two_pow i), rfl, trivial⟩ (fun w hw => hw.sub)
            | exact r_againN (i + 1) (by omega) (by omega) ⟨rfl, rfl, rfl, rfl, rfl, rfl, congrArg (fun z : Nat => some (Value.int .i64 (z : Int))) (num_no (pixQ_yes P (show x < 128 by omega) (show y < 64 by omega) hc)), congrArg (fun z : Nat => some (Value.int .i64 (z : Int))) (two_pow i), rfl, trivial⟩ (fun w hw => hw.sub)
      · refine r_exit ?_
        refine r_te ?_
        refine r_te ?_
        refine r_be ?_
        refine r_tn ?_
        refine r_region ?_
        have hi4 : i = 4 := by have h := of_decide_eq_false hc; omega
        subst hi4
        have hcl := colN_lt P x y
        refine r_move rfl rfl ?_
        refine r_call rfl rfl rfl (by kernel_rfl) rfl (fun w hw => by exact characters24 w) ?_
        refine r_move rfl rfl ?_
        refine r_idxStr (i' := colN P x y) (z := UInt8.ofNat (chN (colN P x y))) rfl rfl rfl rfl rfl (chars_at _ hcl) ?_
        refine r_lit (sz := 1) (pv := [(0, .int .u8 ((UInt8.ofNat (chN (colN P x y))).toNat : Int))]) (cells := #[.int .u8 ((UInt8.ofNat (chN (colN P x y))).toNat : Int)]) rfl rfl rfl rfl rfl rfl (by kernel_rfl) rfl (fun b44 => ?_) (by decide)
        refine r_append (k := 1) (news := ([((UInt8.ofNat (chN (colN P x y))).toNat : Int)].map (Value.int .u8))) (sz := 1) (bytes := 1) rfl rfl rfl rfl rfl rfl (by decide) (fun w hw => own_rd (A := some ⟨b44, 0, none⟩) (m := 1) (c := 1) hw) (by first | (simp; done) | (simp; omega)) (fun u hu => by simp at hu; first | (obtain ⟨x, _, rfl⟩ := hu; rfl) | (subst hu; rfl)) (by omega) (by unfold maxLen; omega) fun A45 c45 => ?_
        first
          | (have hy2 : y < ht hires := of_decide_eq_true hc
             clear hc
             refine r_assign rfl rfl ?_)
          | refine r_assign rfl rfl ?_
        refine r_nil ?_
        refine r_bn ?_
        refine r_tn ?_
        refine r_region ?_
        refine r_move rfl rfl ?_
        refine r_add rfl rfl rfl (w64 (by omega)) ?_
        refine r_assign rfl rfl ?_
        refine r_nil ?_
        refine r_tn ?_
        exact r_again2 (x + 1) A45 c45 (by omega) (by omega) ⟨rfl, rfl, rfl, rfl, rfl, rfl, trivial⟩ (fun w hw => by rw [lineX_succ, bI_snoc, List.map_append]; exact hw.sub)
    · refine r_exit ?_
      refine r_te ?_
      refine r_te ?_
      refine r_be ?_
      refine r_tn ?_
      refine r_region ?_
      have hx3 : x = wd hires := by have h := of_decide_eq_false hc; omega
      subst hx3
      refine r_have (fun w hw => own_some (A := A7) (m := wd hires) (c := c7) hw (by cases hires <;> decide)) fun hg => ?_
      obtain ⟨g, rfl⟩ := hg
      refine r_move rfl rfl ?_
      refine r_move rfl rfl ?_
      refine r_bytesStr (l := bI (lineX P y (wd hires))) rfl rfl rfl rfl rfl (by simp [bI, lineX]) (fun w hw => own_rd (A := some ⟨g, 0, none⟩) (m := wd hires) (c := c7) hw) ?_
      rw [strOf_bI, lineX_all]
      refine r_lit (sz := 1) (pv := [(0, .string (tx (lineB P hires y)))]) (cells := #[.string (tx (lineB P hires y))]) rfl rfl rfl rfl rfl rfl (by kernel_rfl) rfl (fun b49 => ?_) (by decide)
      refine r_append (k := 1) (news := [.string (tx (lineB P hires y))]) (sz := 1) (bytes := 16) rfl rfl rfl rfl rfl rfl (by decide) (fun w hw => own_rd (A := some ⟨b49, 0, none⟩) (m := 1) (c := 1) hw) (by first | (simp; done) | (simp; omega)) (fun u hu => by simp at hu; first | (obtain ⟨x, _, rfl⟩ := hu; rfl) | (subst hu; rfl)) (by omega) (by unfold maxLen; omega) fun A50 c50 => ?_
      refine r_assign rfl rfl ?_
      refine r_nil ?_
      refine r_bn ?_
      refine r_tn ?_
      refine r_region ?_
      refine r_move rfl rfl ?_
      refine r_add rfl rfl rfl (w64 (by omega)) ?_
      refine r_assign rfl rfl ?_
      refine r_nil ?_
      refine r_tn ?_
      exact r_again2 (y + 1) A50 c50 (by omega) (by omega) ⟨rfl, rfl, rfl, rfl, trivial⟩ (fun w hw => by rw [List.range_succ, List.map_append, List.map_cons, List.map_nil]; exact hw.sub)
  · refine r_exit ?_
    refine r_te ?_
    refine r_te ?_
    refine r_be ?_
    refine r_tn ?_
    refine r_seq ?_
    refine r_region ?_
    have hy3 : y = ht hires := by have h := of_decide_eq_false hc; omega
    subst hy3
    refine r_move rfl rfl ?_
    refine r_assign rfl rfl ?_
    refine r_nil ?_
    refine r_tn ?_
    refine r_ret ?_
    exact r_done1 (.inl rfl) rfl (res_tmp rfl) fun w hw => ⟨(A5, c5), rfl, trivial, hw.sub⟩

theorem refSamples24 (pat : List Int) (A : Option Addr) (c : Nat) (hp : pat.length = 16) (hb : ∀ z ∈ pat, 0 ≤ z ∧ z ≤ 255) (w : World) (hR : Rd w A (pat.map (Value.int .u8))) :
    Calls Tryd.prog 39 #[.slice A 16 c] w fun e w' => ∃ i : Option Addr × Nat, e = .returned (.slice i.1 128 i.2) ∧ True ∧ Sat w [] [.own 4 1 (.slice i.1 128 i.2) 128 (boolsN 128 (sampB pat))] w' := by
  refine enter Tryd.func39 rfl rfl rfl ?_
  refine r_seq ?_
  refine r_region ?_
  refine r_assign rfl rfl ?_
  refine r_nil ?_
  refine r_tn ?_
  refine r_seq ?_
  refine r_region ?_
  refine r_assign rfl rfl ?_
  refine r_nil ?_
  refine r_tn ?_
  refine r_seq ?_
  refine r_seq ?_
  refine r_region ?_
  refine r_assign rfl rfl ?_
  refine r_nil ?_
  refine r_tn ?_
  refine r_block ?_
  refine Run.ownNil 4 1 ?_
  refine r_loop2 (fun i A3 c3 => [(0, .slice A 16 c), (3, .slice A3 (8 * i) c3), (4, .int .i64 (i : Int))]) (fun i A3 c3 => [.own 4 1 (.slice A3 (8 * i) c3) (8 * i) (boolsN (8 * i) (sampB pat))]) (fun i A3 c3 => i ≤ 16) 16 0 none 0 (by omega) ⟨rfl, rfl, rfl, trivial⟩ (fun w hw => by have h2 : Sat _ _ [.own 4 1 (.slice none 0 0) 0 []] w := hw.sub; rw [Nat.mul_zero, boolsN_zero]; exact h2) fun i A3 c3 hi => ?_
  refine r_seq ?_
  refine r_seq ?_
  refine r_region ?_
  refine r_move rfl rfl ?_
  refine r_lss rfl rfl rfl rfl ?_
  refine r_nil ?_
  refine r_tn ?_
  refine r_cond rfl (fun hc => ?_) (fun hc => ?_)
  · refine r_skip ?_
    refine r_tn ?_
    refine r_seq ?_
    refine r_block ?_
    refine r_seq ?_
    refine r_region ?_
    have hi2 : i < 16 := by have h := of_decide_eq_true hc; omega
    clear hc
    have hbi := pat_byte hb hp hi2
    obtain ⟨z, hz⟩ : ∃ z : Nat, pat.getD i 0 = z := ⟨(pat.getD i 0).toNat, by omega⟩
    have hz8 : z < 256 := by omega
    obtain ⟨ba, oa, rfl⟩ := rd_some hR (pat_at hp hi2)
    refine r_move rfl rfl ?_
    refine r_move rfl rfl ?_
    refine r_indexSl (sz := 1) (o' := oa + i) rfl rfl rfl rfl rfl (by omega) (by omega) (by omega) ?_
    refine r_loadC (p := ⟨ba, oa + i, none⟩) (v := .int .u8 (z : Int)) rfl rfl rfl (fun w hw => by rw [← hz]; exact (hR.keep hw).cell (pat_at hp hi2) rfl) ?_
    refine r_convert (r := (z : Int)) rfl rfl rfl rfl (w64 (by omega)) ?_
    refine r_assign rfl rfl ?_
    refine r_nil ?_
    refine r_tn ?_
    refine r_seq ?_
    refine r_region ?_
    refine r_assign rfl rfl ?_
    refine r_nil ?_
    refine r_tn ?_
    refine r_seq ?_
    refine r_region ?_
    refine r_assign rfl rfl ?_
    refine r_nil ?_
    refine r_tn ?_
    refine r_block ?_
    refine r_loop2 (fun k A3k c3k => [(0, .slice (some ⟨ba, oa, none⟩) 16 c), (3, .slice A3k (8 * i + k) c3k), (4, .int .i64 (i : Int)), (5, .int .i64 (z : Int)), (6, .int .i64 ((128 / 2 ^ k : Nat) : Int)), (7, .int .i64 (k : Int))]) (fun k A3k c3k => [.own 4 1 (.slice A3k (8 * i + k) c3k) (8 * i + k) (boolsN (8 * i + k) (sampB pat))]) (fun k A3k c3k => k ≤ 8) 8 0 A3 c3 (by omega) ⟨rfl, rfl, rfl, rfl, rfl, rfl, trivial⟩ (fun w hw => hw.sub) fun k A3k c3k hk => ?_
    refine r_seq ?_
    refine r_seq ?_
    refine r_region ?_
    refine r_move rfl rfl ?_
    refine r_lss rfl rfl rfl rfl ?_
    refine r_nil ?_
    refine r_tn ?_
    refine r_cond rfl (fun hc => ?_) (fun hc => ?_)
    · refine r_skip ?_
      refine r_tn ?_
      refine r_seq ?_
      refine r_block ?_
      refine r_seq ?_
      refine r_region ?_
      have hk2 : k < 8 := by have h := of_decide_eq_true hc; omega
      clear hc
      refine r_move rfl rfl ?_
      refine r_move rfl rfl ?_
      refine r_move rfl rfl ?_
      have hvk : 0 < 128 / 2 ^ k := pow_pos8 k hk2
      refine r_quo (r := ((z / (128 / 2 ^ k) : Nat) : Int)) rfl rfl rfl (by omega) (w64 (quo_rng hz8)) ?_
      refine r_rem (r := ((z / (128 / 2 ^ k) % 2 : Nat) : Int)) rfl rfl rfl (by decide) rfl ?_
      refine r_eql (p := sampZ z k) rfl rfl rfl (samp_dec z k hk2) ?_
      refine r_lit (sz := 1) (pv := [(0, .bool (sampZ z k))]) (cells := #[.bool (sampZ z k)]) rfl rfl rfl rfl rfl rfl (by kernel_rfl) rfl (fun b27 => ?_) (by decide)
      refine r_append (k := 1) (news := [.bool (sampZ z k)]) (sz := 1) (bytes := 1) rfl rfl rfl rfl rfl rfl (by decide) (fun w hw => own_rd (A := some ⟨b27, 0, none⟩) (m := 1) (c := 1) hw) rfl (fun u hu => by simp at hu; first | (obtain ⟨x, _, rfl⟩ := hu; rfl) | (subst hu; rfl)) (by omega) (by unfold maxLen; omega) fun A28 c28 => ?_
      refine r_assign rfl rfl ?_
      refine r_nil ?_
      refine r_tn ?_
      refine r_region ?_
      refine r_move rfl rfl ?_
      have hvl : 128 / 2 ^ k ≤ 128 := Nat.div_le_self _ _
      refine r_quo (r := ((128 / 2 ^ k / 2 : Nat) : Int)) rfl rfl rfl (by decide) (w64 (half_rng hvl)) ?_
      refine r_assign rfl rfl ?_
      refine r_nil ?_
      refine r_bn ?_
      refine r_tn ?_
      refine r_region ?_
      refine r_move rfl rfl ?_
      refine r_add rfl rfl rfl (w64 (by omega)) ?_
      refine r_assign rfl rfl ?_
      refine r_nil ?_
      refine r_tn ?_
      exact r_again2 (k + 1) A28 c28 (by omega) (by omega) ⟨rfl, rfl, rfl, rfl, congrArg (fun z : Nat => some (Value.int .i64 (z : Int))) (by rw [Nat.pow_succ, Nat.div_div_eq_div_mul]), rfl, trivial⟩ (fun w hw => by have e := boolsN_snoc (8 * i + k) (sampB pat); rw [← sampB_at pat hk2 hz] at e; rw [← Nat.add_assoc, e]; exact hw.sub)
    · refine r_exit ?_
      refine r_te ?_
      refine r_te ?_
      refine r_be ?_
      refine r_bn ?_
      refine r_tn ?_
      refine r_region ?_
      have hk8 : k = 8 := by have h := of_decide_eq_false hc; omega
      subst hk8
      refine r_move rfl rfl ?_
      refine r_add rfl rfl rfl (w64 (by omega)) ?_
      refine r_assign rfl rfl ?_
      refine r_nil ?_
      refine r_tn ?_
      exact r_again2 (i + 1) A3k c3k (by omega) (by omega) ⟨rfl, rfl, rfl, trivial⟩ (fun w hw => hw.sub)
  · refine r_exit ?_
    refine r_te ?_
    refine r_te ?_
    refine r_be ?_
    refine r_tn ?_
    refine r_seq ?_
    refine r_region ?_
    have hi3 : i = 16 := by have h := of_decide_eq_false hc; omega
    subst hi3
    refine r_move rfl rfl ?_
    refine r_assign rfl rfl ?_
    refine r_nil ?_
    refine r_tn ?_
    refine r_ret ?_
    exact r_done1 (.inl rfl) rfl (res_tmp rfl) fun w hw => ⟨(A3, c3), rfl, trivial, hw.sub⟩

theorem refWave24 (pat : List Int) (A : Option Addr) (c : Nat) (hp : pat.length = 16) (hb : ∀ z ∈ pat, 0 ≤ z ∧ z ≤ 255) (w : World) (hR : Rd w A (pat.map (Value.int .u8))) :
    Calls Tryd.prog 14 #[.slice A 16 c] w fun e w' => e = .returned (.string (tx (waveB pat))) ∧ Sat w [] [] w' := by
  refine enter Tryd.func14 rfl rfl rfl ?_
  refine r_seq ?_
  refine r_region ?_
  refine r_assign rfl rfl ?_
  refine r_nil ?_
  refine r_tn ?_
  refine r_seq ?_
  refine r_region ?_
  refine r_move rfl rfl ?_
  refine r_callx rfl rfl rfl (by kernel_rfl) rfl (fun w hw => by exact refSamples24 pat A c hp hb w (hR.keep hw)) ?_
  rintro ⟨A3, c3⟩ _
  refine r_assign rfl rfl ?_
  refine r_nil ?_
  refine r_tn ?_
  refine r_seq ?_
  refine r_region ?_
  refine r_assign rfl rfl ?_
  refine r_nil ?_
  refine r_tn ?_
  refine r_seq ?_
  refine r_seq ?_
  refine r_region ?_
  refine r_assign rfl rfl ?_
  refine r_nil ?_
  refine r_tn ?_
  refine r_block ?_
  refine Run.ownNil 5 1 ?_
  refine r_loop2 (fun i A4 c4 => [(0, .slice A 16 c), (3, .slice A3 128 c3), (4, .slice A4 i c4), (5, .int .i64 (i : Int))]) (fun i A4 c4 => [.own 5 1 (.slice A4 i c4) i ((bI (waveX pat i)).map (Value.int .u8)), .own 4 1 (.slice A3 128 c3) 128 (boolsN 128 (sampB pat))]) (fun i A4 c4 => i ≤ 128) 128 0 none 0 (by omega) ⟨rfl, rfl, rfl, rfl, trivial⟩ (fun w hw => by have h2 : Sat _ _ [.own 5 1 (.slice none 0 0) 0 [], .own 4 1 (.slice A3 128 c3) 128 (boolsN 128 (sampB pat))] w := hw.sub; exact h2) fun i A4 c4 hi => ?_
  refine r_seq ?_
  refine r_seq ?_
  refine r_region ?_
  refine r_move rfl rfl ?_
  refine r_lss rfl rfl rfl rfl ?_
  refine r_nil ?_
  refine r_tn ?_
  refine r_cond rfl (fun hc => ?_) (fun hc => ?_)
  · refine r_skip ?_
    refine r_tn ?_
    refine r_seq ?_
    refine r_block ?_
    refine r_seq ?_
    refine r_region ?_
    have hi2 : i < 128 := by have h := of_decide_eq_true hc; omega
    clear hc
    refine r_have (fun w hw => own_some (A := A3) (m := 128) (c := c3) hw (by decide)) fun hg => ?_
    obtain ⟨g, rfl⟩ := hg
    refine r_move rfl rfl ?_
    refine r_move rfl rfl ?_
    refine r_indexSl (sz := 1) (o' := 0 + i) rfl rfl rfl rfl rfl (by omega) (by omega) (by omega) ?_
    refine r_loadC (p := ⟨g, 0 + i, none⟩) (v := .bool (sampB pat i)) rfl rfl rfl (fun w hw => (own_rd (A := some ⟨g, 0, none⟩) (m := 128) (c := c3) hw).cell (boolsN_at _ hi2) rfl) ?_
    refine r_nil ?_
    refine r_tn ?_
    refine r_cond rfl (fun hc => ?_) (fun hc => ?_)
    · refine r_region ?_
      have hs : sampB pat i = true := hc
      refine r_move rfl rfl ?_
      refine r_lit (sz := 1) (pv := [(0, .int .u8 (35))]) (cells := #[.int .u8 (35)]) rfl rfl rfl rfl rfl rfl (by kernel_rfl) rfl (fun b17 => ?_) (by decide)
      refine r_append (k := 1) (news := ([(((35 : UInt8).toNat : Nat) : Int)].map (Value.int .u8))) (sz := 1) (bytes := 1) rfl rfl rfl rfl rfl rfl (by decide) (fun w hw => own_rd (A := some ⟨b17, 0, none⟩) (m := 1) (c := 1) hw) rfl (ints_one _ _) (by omega) (by unfold maxLen; omega) fun A18 c18 => ?_
      refine r_assign rfl rfl ?_
      refine r_nil ?_
      refine r_bn ?_
      refine r_tn ?_
      refine r_region ?_
      refine r_move rfl rfl ?_
      refine r_add rfl rfl rfl (w64 (by omega)) ?_
      refine r_assign rfl rfl ?_
      refine r_nil ?_
      refine r_tn ?_
      first
        | exact r_again2 (i + 1) A18 c18 (by omega) (by omega) ⟨rfl, rfl, rfl, rfl, trivial⟩ (fun w hw => by rw [waveX_yes hs, bI_snoc, List.map_append]; exact hw.sub)
        | exact r_again2 (i + 1) A21 c21 (by omega) (by omega) ⟨rfl, rfl, rfl, rfl, trivial⟩ (fun w hw => by rw [waveX_no hs, bI_snoc, List.map_append]; exact hw.sub)
    · refine r_region ?_
      have hs : sampB pat i = false := hc
      refine r_move rfl rfl ?_
      refine r_lit (sz := 1) (pv := [(0, .int .u8 (46))]) (cells := #[.int .u8 (46)]) rfl rfl rfl rfl rfl rfl (by kernel_rfl) rfl (fun b20 => ?_) (by decide)
      refine r_append (k := 1) (news := ([(((46 : UInt8).toNat : Nat) : Int)].map (Value.int .u8))) (sz := 1) (bytes := 1) rfl rfl rfl rfl rfl rfl (by decide) (fun w hw => own_rd (A := some ⟨b20, 0, none⟩) (m := 1) (c := 1) hw) rfl (ints_one _ _) (by omega) (by unfold maxLen; omega) fun A21 c21 => ?_
      refine r_assign rfl rfl ?_
      refine r_nil ?_
      refine r_bn ?_
      refine r_tn ?_
      refine r_region ?_
      refine r_move rfl rfl ?_
      refine r_add rfl rfl rfl (w64 (by omega)) ?_
      refine r_assign rfl rfl ?_
      refine r_nil ?_
      refine r_tn ?_
      first
        | exact r_again2 (i + 1) A18 c18 (by omega) (by omega) ⟨rfl, rfl, rfl, rfl, trivial⟩ (fun w hw => by rw [waveX_yes hs, bI_snoc, List.map_append]; exact hw.sub)
        | exact r_again2 (i + 1) A21 c21 (by omega) (by omega) ⟨rfl, rfl, rfl, rfl, trivial⟩ (fun w hw => by rw [waveX_no hs, bI_snoc, List.map_append]; exact hw.sub)
  · refine r_exit ?_
    refine r_te ?_
    refine r_te ?_
    refine r_be ?_
    refine r_tn ?_
    refine r_seq ?_
    refine r_region ?_
    have hi3 : i = 128 := by have h := of_decide_eq_false hc; omega
    subst hi3
    refine r_have (fun w hw => own_some (A := A4) (m := 128) (c := c4) hw (by decide)) fun hg => ?_
    obtain ⟨g, rfl⟩ := hg
    refine r_move rfl rfl ?_
    refine r_bytesStr (l := bI (waveX pat 128)) rfl rfl rfl rfl rfl (by simp [bI, waveX]) (fun w hw => own_rd (A := some ⟨g, 0, none⟩) (m := 128) (c := c4) hw) ?_
    rw [strOf_bI]
    refine r_assign rfl rfl ?_
    refine r_nil ?_
    refine r_tn ?_
    refine r_ret ?_
    exact r_done1 (.inl rfl) rfl (res_tmp rfl) fun w hw => ⟨rfl, hw.clear⟩
end Go.Proofs.YtdkgnnieehidbaaDoor
