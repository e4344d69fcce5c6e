/-
  Records (chapter 23): the reader s take.
-/
import Derived.Test.YtgicjkjppnkodaaRecB
namespace Go.Proofs.Ytgicjkjppnkodaa
section
open Go Go.RowKit
set_option linter.unusedVariables false
set_option linter.unusedSimpArgs false
set_option maxHeartbeats 2000000
set_option maxRecDepth 4000
attribute [local irreducible] mix

theorem made_bytes (n : Nat) : (madeCells #[Value.int .u8 0] (n * 1)).toList = List.replicate n (.int .u8 0) := by
  unfold madeCells
  rw [Array.toList_map, Array.toList_range, Nat.mul_one]
  apply List.ext_getElem?
  intro i
  rw [List.getElem?_map, List.getElem?_replicate]
  by_cases h : i < n
  · rw [List.getElem?_range h, if_pos h]
    show some (#[Value.int .u8 0][i % 1]!) = _
    rw [Nat.mod_one]; rfl
  · rw [if_neg h, List.getElem?_eq_none (by simp; omega)]; rfl
def nextA (A : Option Addr) (n c : Nat) : Option Addr := if c = n then A else A.map (·.add (n * 1))
theorem take23 (b : Nat) (A : Option Addr) (m c n : Nat) (bad : Bool) (hn : n ≤ m) (hm : m ≤ c) (hc : m ≤ 140737488355328) (w : World) (hS : Sat w [b] [.blk b (.cells #[.slice A (m) (c), .bool bad] 80 (0, 0))] w) :
    Calls Try.prog 32 #[.pointer (some ⟨b, 0, none⟩), .int .i64 (n : Int)] w fun e w' => e = .returned (.slice A n c) ∧ Sat w [b] [.blk b (.cells #[.slice (nextA A n c) (m - n) (c - n), .bool bad] 80 (0, 0))] w' := by
  refine enterS Try.func32 rfl rfl rfl hS ?_
  refine r_seq ?_
  refine r_region ?_
  refine r_assign rfl rfl ?_
  refine r_nil ?_
  refine r_tn ?_
  refine r_seq ?_
  refine r_seq ?_
  refine r_region ?_
  refine r_move rfl rfl ?_
  refine r_nilCheck rfl rfl ?_
  refine r_fieldAddr (off := 0) (o' := 0) rfl rfl rfl rfl ?_
  refine r_load1 rfl rfl rfl (by rfl) ?_
  refine r_len rfl rfl rfl ?_
  refine r_move rfl rfl ?_
  refine r_lss rfl rfl rfl (decide_eq_false (by omega)) ?_
  refine r_nil ?_
  refine r_tn ?_
  refine r_cond_f rfl ?_
  refine r_skip ?_
  refine r_tn ?_
  refine r_seq ?_
  refine r_region ?_
  refine r_move rfl rfl ?_
  refine r_nilCheck rfl rfl ?_
  refine r_fieldAddr (off := 0) (o' := 0) rfl rfl rfl rfl ?_
  refine r_load1 rfl rfl rfl (by rfl) ?_
  refine r_move rfl rfl ?_
  refine r_sliceHi (h' := n) rfl rfl rfl rfl rfl rfl (by omega) ?_
  refine r_assign rfl rfl ?_
  refine r_nil ?_
  refine r_tn ?_
  refine r_seq ?_
  refine r_region ?_
  refine r_move rfl rfl ?_
  refine r_move rfl rfl ?_
  refine r_nilCheck rfl rfl ?_
  refine r_fieldAddr (off := 0) (o' := 0) rfl rfl rfl rfl ?_
  refine r_load1 rfl rfl rfl (by rfl) ?_
  refine r_move rfl rfl ?_
  refine r_sliceLo (sz := 1) (h' := n) rfl rfl rfl rfl rfl rfl (by omega) ?_
  refine r_nilCheck rfl rfl ?_
  refine r_fieldAddr (off := 0) (o' := 0) rfl rfl rfl rfl ?_
  refine r_store1 rfl rfl rfl rfl rfl (Nat.le_of_ble_eq_true rfl) ?_
  refine r_nil ?_
  refine r_tn ?_
  refine r_seq ?_
  refine r_region ?_
  refine r_move rfl rfl ?_
  refine r_assign rfl rfl ?_
  refine r_nil ?_
  refine r_tn ?_
  refine r_ret ?_
  exact r_done1 (.inl rfl) rfl (res_tmp rfl) fun w hw => ⟨rfl, (hw.sub : Sat _ _ [.blk b (.cells (#[Value.slice A m c, .bool bad].setIfInBounds 0 (.slice (if c = n then A else A.map (·.add (n * 1))) (m - n) (c - n))) 80 (0, 0))] w)⟩

theorem take23_no (b : Nat) (A : Option Addr) (m c n : Nat) (bad : Bool) (hn : m < n) (hn2 : n ≤ 16) (w : World) (hS : Sat w [b] [.blk b (.cells #[.slice A (m) (c), .bool bad] 80 (0, 0))] w) :
    Calls Try.prog 32 #[.pointer (some ⟨b, 0, none⟩), .int .i64 (n : Int)] w fun e w' => ∃ g : Nat, e = .returned (.slice (some ⟨g, 0, none⟩) n n) ∧ True ∧ Sat w [b] [.own 5 1 (.slice (some ⟨g, 0, none⟩) n n) n (List.replicate n (.int .u8 0)), .blk b (.cells #[.slice none (0) (0), .bool true] 80 (0, 0))] w' := by
  refine enterS Try.func32 rfl rfl rfl hS ?_
  refine r_seq ?_
  refine r_region ?_
  refine r_assign rfl rfl ?_
  refine r_nil ?_
  refine r_tn ?_
  refine r_seq ?_
  refine r_seq ?_
  refine r_region ?_
  refine r_move rfl rfl ?_
  refine r_nilCheck rfl rfl ?_
  refine r_fieldAddr (off := 0) (o' := 0) rfl rfl rfl rfl ?_
  refine r_load1 rfl rfl rfl (by rfl) ?_
  refine r_len rfl rfl rfl ?_
  refine r_move rfl rfl ?_
  refine r_lss rfl rfl rfl (decide_eq_true (by omega)) ?_
  refine r_nil ?_
  refine r_tn ?_
  refine r_cond_t rfl ?_
  refine r_seq ?_
  refine r_region ?_
  refine r_move rfl rfl ?_
  refine r_move rfl rfl ?_
  refine r_nilCheck rfl rfl ?_
  refine r_fieldAddr (off := 0) (o' := 0) rfl rfl rfl rfl ?_
  refine r_store1 rfl rfl rfl rfl rfl (Nat.le_of_ble_eq_true rfl) ?_
  refine r_nilCheck rfl rfl ?_
  refine r_fieldAddr (off := 1) (o' := 1) rfl rfl rfl rfl ?_
  refine r_store1 rfl rfl rfl rfl rfl (Nat.le_of_ble_eq_true rfl) ?_
  refine r_nil ?_
  refine r_tn ?_
  refine r_seq ?_
  refine r_region ?_
  refine r_move rfl rfl ?_
  refine r_makeSlice (m := n) (sz := 1) (bytes := 1) (xs := List.replicate n (.int .u8 0)) rfl rfl rfl rfl rfl rfl rfl (by omega) (by unfold maxLen; omega) (made_bytes n) (fun b20 => ?_)
  refine r_assign rfl rfl ?_
  refine r_nil ?_
  refine r_tn ?_
  refine r_ret ?_
  refine r_tr ?_
  exact r_done1 (.inl rfl) rfl (res_tmp rfl) fun w hw => ⟨b20, rfl, trivial, hw⟩
end
section
open Go Go.RowKit
set_option linter.unusedVariables false
set_option linter.unusedSimpArgs false
set_option maxHeartbeats 2000000
set_option maxRecDepth 4000
attribute [local irreducible] mix

/-- a number of bytes, the most significant first -/
def beN (l : List Int) : Nat := l.foldl (fun n z => 256 * n + z.toNat) 0
theorem beN_snoc (l : List Int) (z : Int) : beN (l ++ [z]) = 256 * beN l + z.toNat := by unfold beN; rw [List.foldl_append]; rfl
theorem beN_step {l : List Int} {k : Nat} (hk : k < l.length) : beN (l.take (k + 1)) = 256 * beN (l.take k) + l[k].toNat := by
  rw [List.take_add_one, List.getElem?_eq_getElem hk]
  exact beN_snoc _ _
def bytesB (l : List Int) : Prop := ∀ z ∈ l, 0 ≤ z ∧ z ≤ 255
theorem byte_rng {l : List Int} (h : bytesB l) {k : Nat} (hk : k < l.length) : 0 ≤ l[k] ∧ l[k] ≤ 255 := h _ (List.getElem_mem hk)
theorem bytes_get {l : List Int} {k : Nat} (hk : k < l.length) : (l.map (Value.int .u8))[k]? = some (.int .u8 l[k]) := by simp [hk]
theorem beN_lt {l : List Int} (h : bytesB l) : ∀ k, beN (l.take k) < 256 ^ k
  | 0 => by simp [beN]
  | k + 1 => by
    by_cases hk : k < l.length
    · have h1 := beN_lt h k
      have h2 := byte_rng h hk
      rw [beN_step hk, Nat.pow_succ]
      omega
    · have h1 := beN_lt h k
      rw [List.take_of_length_le (by omega)] at h1 ⊢
      rw [Nat.pow_succ]; omega
theorem shl8U {x : Nat} (h : 256 * x < 18446744073709551616) : IntKind.u64.wrap (((x : Nat) : Int) * 2 ^ (min (8 : Int).toNat IntKind.u64.bits)) = ((256 * x : Nat) : Int) := by
  rw [show (2 : Int) ^ (min (8 : Int).toNat IntKind.u64.bits) = 256 by decide]
  exact (IntWalk.u64_in _ ⟨by omega, by omega⟩).trans (by omega)
theorem or_byte {x z : Nat} (h : z < 256) : 256 * x ||| z = 256 * x + z := (Nat.two_pow_add_eq_or_of_lt (i := 8) h x).symm
/-- what lay ahead of a call lies as it lay -/
def Keeps (W w : World) : Prop := W.heap.size ≤ w.heap.size ∧ ∀ k, k < W.heap.size → w.heap[k]? = W.heap[k]?
theorem keep_cell {W w w1 : World} {b : Nat} {H : List Res} (hK : Keeps W w) (hw : Sat w [b] H w1) (hb : W.heap.size ≤ b) {p : Addr} {v : Value} (h : W.cell? p = some v) : w1.cell? p = some v := by
  have hlt := World.block_lt_of_cell? W _ h
  have h1 := hK.2 p.block hlt
  have h2 := hw.keep p.block (by have := hK.1; omega) (by simp; omega)
  rw [World.cell?_of_block (w := W) (h2.trans h1)]
  exact h
theorem number23_ok (W : World) (b : Nat) (A : Option Addr) (m c size : Nat) (l : List Int) (bad : Bool) (hlm : l.length = m) (hsz : size ≤ m) (hmc : m ≤ c) (hm48 : m ≤ 140737488355328) (hs8 : size ≤ 8) (hl8 : bytesB l) (hb : W.heap.size ≤ b) (hR : Rd W A (l.map (Value.int .u8))) (w : World) (hK : Keeps W w) (hS : Sat w [b] [.blk b (.cells #[.slice A (m) (c), .bool bad] 80 (0, 0))] w) :
    Calls Try.prog 33 #[.pointer (some ⟨b, 0, none⟩), .int .i64 (size : Int)] w fun e w' => e = .returned (.int .u64 ((beN (l.take size) : Nat) : Int)) ∧ Sat w [b] [.blk b (.cells #[.slice (nextA A size c) (m - size) (c - size), .bool bad] 80 (0, 0))] w' := by
  refine enterS Try.func33 rfl rfl rfl hS ?_
  refine r_seq ?_
  refine r_region ?_
  refine r_assign rfl rfl ?_
  refine r_nil ?_
  refine r_tn ?_
  refine r_seq ?_
  refine r_region ?_
  refine r_assign rfl rfl ?_
  refine r_nil ?_
  refine r_tn ?_
  refine r_seq ?_
  refine r_seq ?_
  refine r_region ?_
  refine r_move rfl rfl ?_
  refine r_move rfl rfl ?_
  refine r_callb0 (b := b) rfl rfl rfl (by kernel_rfl) rfl (fun w hw => by exact take23 b A m c size bad hsz hmc hm48 w hw) ?_
  refine r_len rfl rfl rfl ?_
  refine r_move rfl rfl ?_
  refine r_nil ?_
  refine r_tn ?_
  refine r_block ?_
  refine r_loopN (fun k => [(5, .int .u64 ((beN (l.take k) : Nat) : Int)), (10, .slice A size c), (11, .int .i64 (size : Int)), (12, .int .i64 (k : Int))]) (fun k => [.blk b (.cells #[.slice (nextA A size c) (m - size) (c - size), .bool bad] 80 (0, 0))]) (fun k => k ≤ size) size 0 (by omega) ⟨rfl, rfl, rfl, rfl, trivial⟩ (fun w hw => hw.sub) fun k hk => ?_
  refine r_seq ?_
  refine r_region ?_
  refine r_lss rfl rfl rfl rfl ?_
  refine r_nil ?_
  refine r_tn ?_
  refine r_seq ?_
  refine r_cond rfl (fun hc => ?_) (fun hc => ?_)
  · refine r_skip ?_
    refine r_tn ?_
    refine r_seq ?_
    refine r_block ?_
    refine r_seq ?_
    refine r_region ?_
    have hk2 : k < size := by have h := of_decide_eq_true hc; omega
    have hkl : k < l.length := by omega
    obtain ⟨ba, oa, rfl, hca⟩ := hR k _ (bytes_get hkl)
    have hby := byte_rng hl8 hkl
    have hlt := beN_lt (l := l) hl8 k
    have hp8 : (256 : Nat) ^ (k + 1) ≤ 256 ^ 8 := Nat.pow_le_pow_right (by decide) (by omega)
    have hlt2 := beN_lt (l := l) hl8 (k + 1)
    refine r_indexSl (sz := 1) (o' := oa + k) rfl rfl rfl rfl rfl (by omega) (by omega) (by simp) ?_
    refine r_loadC (p := ⟨ba, oa + k, none⟩) rfl rfl rfl (fun w1 hw => (keep_cell hK hw hb hca)) ?_
    refine r_assign rfl rfl ?_
    refine r_nil ?_
    refine r_tn ?_
    refine r_region ?_
    refine r_move rfl rfl ?_
    refine r_shl (r := ((256 * beN (l.take k) : Nat) : Int)) rfl rfl rfl (by decide) (shl8U (by rw [beN_step hkl] at hlt2; omega)) ?_
    refine r_move rfl rfl ?_
    refine r_convert (r := ((l[k].toNat : Nat) : Int)) rfl rfl rfl rfl ((IntWalk.u64_in _ ⟨by omega, by omega⟩).trans (by omega)) ?_
    refine r_or (r := ((beN (l.take (k + 1)) : Nat) : Int)) rfl rfl rfl (((u64_bits (by rw [beN_step hkl] at hlt2; omega) (by omega)).2.1).trans (congrArg (fun z : Nat => (z : Int)) (by rw [or_byte (by omega), beN_step hkl]))) ?_
    refine r_assign rfl rfl ?_
    refine r_nil ?_
    refine r_bn ?_
    refine r_tn ?_
    refine r_region ?_
    refine r_add rfl rfl rfl (w64 (by omega)) ?_
    refine r_move rfl rfl ?_
    refine r_nil ?_
    refine r_tn ?_
    exact r_againN (k + 1) (by omega) (by omega) ⟨rfl, rfl, rfl, rfl, trivial⟩ (fun w hw => hw.sub)
  · refine r_exit ?_
    refine r_te ?_
    refine r_te ?_
    refine r_be ?_
    refine r_tn ?_
    refine r_seq ?_
    refine r_region ?_
    refine r_move rfl rfl ?_
    refine r_assign rfl rfl ?_
    refine r_nil ?_
    refine r_tn ?_
    refine r_ret ?_
    have hk3 : k = size := by have h := of_decide_eq_false hc; omega
    subst hk3
    exact r_done1 (.inl rfl) rfl (res_tmp rfl) fun w hw => ⟨rfl, hw.sub⟩

theorem number23_no (b : Nat) (A : Option Addr) (m c size : Nat) (bad : Bool) (hsz : m < size) (hs16 : size ≤ 16) (w : World) (hS : Sat w [b] [.blk b (.cells #[.slice A (m) (c), .bool bad] 80 (0, 0))] w) :
    Calls Try.prog 33 #[.pointer (some ⟨b, 0, none⟩), .int .i64 (size : Int)] w fun e w' => e = .returned (.int .u64 0) ∧ Sat w [b] [.blk b (.cells #[.slice none (0) (0), .bool true] 80 (0, 0))] w' := by
  refine enterS Try.func33 rfl rfl rfl hS ?_
  refine r_seq ?_
  refine r_region ?_
  refine r_assign rfl rfl ?_
  refine r_nil ?_
  refine r_tn ?_
  refine r_seq ?_
  refine r_region ?_
  refine r_assign rfl rfl ?_
  refine r_nil ?_
  refine r_tn ?_
  refine r_seq ?_
  refine r_seq ?_
  refine r_region ?_
  refine r_move rfl rfl ?_
  refine r_move rfl rfl ?_
  refine r_callb (b := b) rfl rfl rfl (by kernel_rfl) rfl (fun w hw => by exact take23_no b A m c size bad hsz hs16 w hw) ?_
  rintro g10 _
  refine r_len rfl rfl rfl ?_
  refine r_move rfl rfl ?_
  refine r_nil ?_
  refine r_tn ?_
  refine r_block ?_
  refine r_loopN (fun k => [(5, .int .u64 ((0 : Nat) : Int)), (10, .slice (some ⟨g10, 0, none⟩) size size), (11, .int .i64 (size : Int)), (12, .int .i64 (k : Int))]) (fun k => [.own 5 1 (.slice (some ⟨g10, 0, none⟩) size size) size (List.replicate size (.int .u8 0)), .blk b (.cells #[.slice none (0) (0), .bool true] 80 (0, 0))]) (fun k => k ≤ size) size 0 (by omega) ⟨rfl, rfl, rfl, rfl, trivial⟩ (fun w hw => hw.sub) fun k hk => ?_
  refine r_seq ?_
  refine r_region ?_
  refine r_lss rfl rfl rfl rfl ?_
  refine r_nil ?_
  refine r_tn ?_
  refine r_seq ?_
  refine r_cond rfl (fun hc => ?_) (fun hc => ?_)
  · refine r_skip ?_
    refine r_tn ?_
    refine r_seq ?_
    refine r_block ?_
    refine r_seq ?_
    refine r_region ?_
    have hk2 : k < size := by have h := of_decide_eq_true hc; omega
    refine r_indexSl (sz := 1) (o' := k) rfl rfl rfl rfl rfl (by omega) (by omega) (by first | (simp; done) | (simp; omega) | omega) ?_
    refine r_loadC (p := ⟨g10, k, none⟩) rfl rfl rfl (fun w hw => ((own_rd (A := some ⟨g10, 0, none⟩) (m := size) (c := size) hw).cell (j := k) (u := .int .u8 0) (by simp [hk2]) rfl) |> fun h => by simpa using h) ?_
    refine r_assign rfl rfl ?_
    refine r_nil ?_
    refine r_tn ?_
    refine r_region ?_
    refine r_move rfl rfl ?_
    refine r_shl (r := ((0 : Nat) : Int)) rfl rfl rfl (by decide) (by decide) ?_
    refine r_move rfl rfl ?_
    refine r_convert (r := 0) rfl rfl rfl rfl (by decide) ?_
    refine r_or (r := ((0 : Nat) : Int)) rfl rfl rfl (by decide) ?_
    refine r_assign rfl rfl ?_
    refine r_nil ?_
    refine r_bn ?_
    refine r_tn ?_
    refine r_region ?_
    refine r_add rfl rfl rfl (w64 (by omega)) ?_
    refine r_move rfl rfl ?_
    refine r_nil ?_
    refine r_tn ?_
    exact r_againN (k + 1) (by omega) (by omega) ⟨rfl, rfl, rfl, rfl, trivial⟩ (fun w hw => hw.sub)
  · refine r_exit ?_
    refine r_te ?_
    refine r_te ?_
    refine r_be ?_
    refine r_tn ?_
    refine r_seq ?_
    refine r_region ?_
    refine r_move rfl rfl ?_
    refine r_assign rfl rfl ?_
    refine r_nil ?_
    refine r_tn ?_
    refine r_ret ?_
    exact r_done1 (.inl rfl) rfl (res_tmp rfl) fun w hw => ⟨rfl, hw.sub⟩
end
section
open Go Go.RowKit
set_option linter.unusedVariables false
set_option linter.unusedSimpArgs false
set_option maxHeartbeats 2000000
set_option maxRecDepth 4000
attribute [local irreducible] mix

def rdL (l : List Int) (size : Nat) : List Int := if size ≤ l.length then l.drop size else []
def rdB (l : List Int) (size : Nat) (bad : Bool) : Bool := if size ≤ l.length then bad else true
def rdV (l : List Int) (size : Nat) : Nat := if size ≤ l.length then beN (l.take size) else 0
theorem rdL_bytes {l : List Int} (h : bytesB l) (size : Nat) : bytesB (rdL l size) := by
  unfold rdL
  split
  · exact fun z hz => h z (List.mem_of_mem_drop hz)
  · exact fun z hz => by cases hz
theorem rdL_le (l : List Int) (size : Nat) : (rdL l size).length ≤ l.length := by
  unfold rdL
  split
  · rw [List.length_drop]; omega
  · simp
theorem Keeps.step {W w0 w : World} {b : Nat} {H : List Res} (hK : Keeps W w0) (hw : Sat w0 [b] H w) (hb : W.heap.size ≤ b) : Keeps W w :=
  ⟨Nat.le_trans hK.1 hw.size, fun k hk => (hw.keep k (by have := hK.1; omega) (by simp; omega)).trans (hK.2 k hk)⟩
theorem number23 (W : World) (b : Nat) (A : Option Addr) (c size : Nat) (l : List Int) (bad : Bool) (hmc : l.length ≤ c) (hm48 : l.length ≤ 140737488355328) (hs8 : size ≤ 8) (hl8 : bytesB l) (hb : W.heap.size ≤ b) (hR : Rd W A (l.map (Value.int .u8))) (w : World) (hK : Keeps W w) (hS : Sat w [b] [.blk b (.cells #[.slice (A, c).1 (l).length (A, c).2, .bool (bad)] 80 (0, 0))] w) :
    Calls Try.prog 33 #[.pointer (some ⟨b, 0, none⟩), .int .i64 (size : Int)] w fun e w' => ∃ i : Option Addr × Nat, e = .returned (.int .u64 ((rdV l size : Nat) : Int)) ∧ (Rd W i.1 ((rdL l size).map (Value.int .u8)) ∧ (rdL l size).length ≤ i.2) ∧ Sat w [b] [.blk b (.cells #[.slice i.1 (rdL l size).length i.2, .bool (rdB l size bad)] 80 (0, 0))] w' := by
  unfold rdV rdL rdB
  by_cases h : size ≤ l.length
  · simp only [if_pos h]
    refine (number23_ok W b A l.length c size l bad rfl h hmc hm48 hs8 hl8 hb hR w hK hS).mono fun e w' ⟨he, hs⟩ => ⟨(nextA A size c, c - size), he, ⟨?_, by rw [List.length_drop]; omega⟩, ?_⟩
    · rw [List.map_drop]
      exact Rd.drop size hR (by rw [List.length_map]; omega) (Nat.mul_one size)
    · rw [List.length_drop]; exact hs
  · simp only [if_neg h]
    exact (number23_no b A l.length c size bad (by omega) (by omega) w hS).mono fun e w' ⟨he, hs⟩ => ⟨(none, 0), he, ⟨Rd.nil W none, Nat.le_refl _⟩, hs⟩
theorem take23a (W : World) (b : Nat) (A : Option Addr) (c : Nat) (l : List Int) (bad : Bool) (hmc : l.length ≤ c) (hm48 : l.length ≤ 140737488355328) (size : Nat) (h : size ≤ l.length) (hR : Rd W A (l.map (Value.int .u8))) (w : World) (hS : Sat w [b] [.blk b (.cells #[.slice (A, c).1 (l).length (A, c).2, .bool (bad)] 80 (0, 0))] w) :
    Calls Try.prog 32 #[.pointer (some ⟨b, 0, none⟩), .int .i64 (size : Int)] w fun e w' => ∃ i : Option Addr × Nat, e = .returned (.slice A size c) ∧ (Rd W i.1 ((rdL l size).map (Value.int .u8)) ∧ (rdL l size).length ≤ i.2) ∧ Sat w [b] [.blk b (.cells #[.slice i.1 (rdL l size).length i.2, .bool (rdB l size bad)] 80 (0, 0))] w' := by
  unfold rdL rdB
  simp only [if_pos h]
  refine (take23 b A l.length c size bad h hmc hm48 w hS).mono fun e w' ⟨he, hs⟩ => ⟨(nextA A size c, c - size), he, ⟨?_, by rw [List.length_drop]; omega⟩, ?_⟩
  · rw [List.map_drop]
    exact Rd.drop size hR (by rw [List.length_map]; omega) (Nat.mul_one size)
  · rw [List.length_drop]; exact hs
/-- a row of two words -/
def rowBits (hi lo : Nat) (x : Nat) : Bool := if x < 64 then hi.testBit (63 - x) else lo.testBit (127 - x)
theorem rowBits_hi {hi lo : Nat} (h : hi < 2 ^ 64) : hiN (rowBits hi lo) = hi := by
  symm
  refine num_ext h fun i hi2 => ?_
  have h2 : 63 - i < 64 := by omega
  simp only [rowBits, h2, if_true]; rw [show 63 - (63 - i) = i by omega]
theorem rowBits_lo {hi lo : Nat} (h : lo < 2 ^ 64) : loN (rowBits hi lo) = lo := by
  symm
  refine num_ext h fun i hi2 => ?_
  have h2 : ¬ 127 - i < 64 := by omega
  simp only [rowBits, h2, if_false]; rw [show 127 - (127 - i) = i by omega]
theorem rdV_lt {l : List Int} (h : bytesB l) {size : Nat} (hs : size ≤ 8) : rdV l size < 2 ^ 64 := by
  unfold rdV
  split
  · refine Nat.lt_of_lt_of_le (beN_lt h size) ?_
    exact Nat.le_trans (Nat.pow_le_pow_right (by decide) hs) (by decide)
  · decide
def rowsS (s : List Int × Bool) : Nat → List Int × Bool
  | 0 => s
  | y + 1 => (rdL (rdL (rowsS s y).1 8) 8, rdB (rdL (rowsS s y).1 8) 8 (rdB (rowsS s y).1 8 (rowsS s y).2))
def rowsP (s : List Int × Bool) (y : Nat) : Nat → Bool := rowBits (rdV (rowsS s y).1 8) (rdV (rdL (rowsS s y).1 8) 8)
theorem rowsS_bytes {s : List Int × Bool} (h : bytesB s.1) : ∀ y, bytesB (rowsS s y).1
  | 0 => h
  | y + 1 => rdL_bytes (rdL_bytes (rowsS_bytes h y) 8) 8
theorem rowsS_le (s : List Int × Bool) : ∀ y, (rowsS s y).1.length ≤ s.1.length
  | 0 => Nat.le_refl _
  | y + 1 => Nat.le_trans (rdL_le _ 8) (Nat.le_trans (rdL_le _ 8) (rowsS_le s y))
theorem rowsP_V {s : List Int × Bool} (h : bytesB s.1) (y : Nat) : rowV (rowsP s y) = #[.int .u64 ((rdV (rowsS s y).1 8 : Nat) : Int), .int .u64 ((rdV (rdL (rowsS s y).1 8) 8 : Nat) : Int)] := by
  unfold rowV rowsP
  rw [rowBits_hi (rdV_lt (rowsS_bytes h y) (by decide)), rowBits_lo (rdV_lt (rdL_bytes (rowsS_bytes h y) 8) (by decide))]


theorem rows23 (W : World) (b : Nat) (A : Option Addr) (c : Nat) (s : List Int × Bool) (hmc : s.1.length ≤ c) (hm48 : s.1.length ≤ 140737488355328) (hs8 : bytesB s.1) (hb : W.heap.size ≤ b) (hR : Rd W A (s.1.map (Value.int .u8))) (w : World) (hK : Keeps W w) (hS : Sat w [b] [.blk b (.cells #[.slice A s.1.length c, .bool s.2] 80 (0, 0))] w) :
    Calls Try.prog 39 #[.func (.func 33) #[.pointer (some ⟨b, 0, none⟩)] #[]] w fun e w' => ∃ i : Option Addr × Nat, e = .returned (.agg (planeV (partQ (rowsP s) 64))) ∧ (Rd W i.1 ((rowsS s 64).1.map (Value.int .u8)) ∧ (rowsS s 64).1.length ≤ i.2) ∧ Sat w [b] [.blk b (.cells #[.slice i.1 (rowsS s 64).1.length i.2, .bool (rowsS s 64).2] 80 (0, 0))] w' := by
  refine enterS Try.func39 rfl rfl rfl hS ?_
  refine r_seq ?_
  refine r_region ?_
  refine r_allocV (cs := planeV noneQ) (by kernel_rfl) rfl fun b2 => ?_
  refine r_nil ?_
  refine r_tn ?_
  refine r_seq ?_
  refine r_seq ?_
  refine r_region ?_
  refine r_move rfl rfl ?_
  refine r_nil ?_
  refine r_tn ?_
  refine r_block ?_
  refine r_loop2 (fun y A2 c2 => [(0, .func (.func 33) #[.pointer (some ⟨b, 0, none⟩)] #[]), (2, .pointer (some ⟨b2, 0, none⟩)), (5, .int .i64 (y : Int))]) (fun y A2 c2 => [.blk b (.cells #[.slice A2 (rowsS s y).1.length c2, .bool (rowsS s y).2] 80 (0, 0)), .blk b2 (.cells (planeV (partQ (rowsP s) y)) 45 (0, 0))]) (fun y A2 c2 => y ≤ 64 ∧ Rd W A2 ((rowsS s y).1.map (Value.int .u8)) ∧ (rowsS s y).1.length ≤ c2) 64 0 A c ⟨by omega, hR, hmc⟩ ⟨rfl, rfl, rfl, trivial⟩ (fun w hw => by rw [show partQ (rowsP s) 0 = noneQ from rfl, show rowsS s 0 = s from rfl]; exact hw.sub) fun y A2 c2 hy => ?_
  obtain ⟨hy, hR2, hc2⟩ := hy
  refine r_seq ?_
  refine r_region ?_
  refine r_lss rfl rfl rfl rfl ?_
  refine r_nil ?_
  refine r_tn ?_
  refine r_seq ?_
  refine r_cond rfl (fun hc => ?_) (fun hc => ?_)
  · refine r_skip ?_
    refine r_tn ?_
    refine r_seq ?_
    refine r_block ?_
    refine r_seq ?_
    refine r_region ?_
    have hy2 : y < 64 := by have h := of_decide_eq_true hc; omega
    have hle := rowsS_le s y
    have hle2 := rdL_le (rowsS s y).1 8
    refine r_move rfl rfl ?_
    refine r_assign rfl rfl ?_
    refine r_nil ?_
    refine r_tn ?_
    refine r_seq ?_
    refine r_region ?_
    refine r_move rfl rfl ?_
    refine r_callb1 (b := b) (fs := [.pointer (some ⟨b, 0, none⟩)]) (cs := []) rfl rfl rfl (by kernel_rfl) rfl (fun w hw hs => by exact number23 W b A2 c2 8 ((rowsS s y).1) ((rowsS s y).2) (by omega) (by omega) (by decide) (rowsS_bytes hs8 y) hb hR2 w (hK.step hw hb) hs) ?_
    rintro ⟨A9, c9⟩ ⟨hR9, hc9⟩
    refine r_assign rfl rfl ?_
    refine r_nil ?_
    refine r_tn ?_
    refine r_region ?_
    refine r_move rfl rfl ?_
    refine r_move rfl rfl ?_
    refine r_move rfl rfl ?_
    refine r_callb1 (b := b) (fs := [.pointer (some ⟨b, 0, none⟩)]) (cs := []) rfl rfl rfl (by kernel_rfl) rfl (fun w hw hs => by exact number23 W b A9 c9 8 (rdL (rowsS s y).1 8) (rdB (rowsS s y).1 8 (rowsS s y).2) (by omega) (by omega) (by decide) (rdL_bytes (rowsS_bytes hs8 y) 8) hb hR9 w (hK.step hw hb) hs) ?_
    rintro ⟨A13, c13⟩ ⟨hR13, hc13⟩
    refine r_build (cells := #[.int .u64 ((rdV (rowsS s y).1 8 : Nat) : Int), .int .u64 ((rdV (rdL (rowsS s y).1 8) 8 : Nat) : Int)]) rfl rfl (by kernel_rfl) ?_
    rw [← rowsP_V hs8 y]
    refine r_fieldAddr (off := 0) (o' := 0) rfl rfl rfl rfl ?_
    refine r_indexArr (sz := 2) (o' := 2 * (y)) rfl rfl rfl rfl rfl (by omega) (by omega) (by omega) ?_
    refine r_store (m := 2) (cs' := planeV (setRow (partQ (rowsP s) y) y (rowsP s y))) rfl rfl rfl rfl (by rw [planeV_size]; omega) rfl (planeV_set _ (by omega) _) ?_
    refine r_nil ?_
    refine r_bn ?_
    refine r_tn ?_
    refine r_region ?_
    refine r_add rfl rfl rfl (w64 (by omega)) ?_
    refine r_move rfl rfl ?_
    refine r_nil ?_
    refine r_tn ?_
    exact r_again2 (y + 1) A13 c13 ⟨by omega, hR13, hc13⟩ (by omega) ⟨rfl, rfl, rfl, trivial⟩ (fun w hw => by rw [← partQ_succ]; exact hw)
  · refine r_exit ?_
    refine r_te ?_
    refine r_te ?_
    refine r_be ?_
    refine r_tn ?_
    refine r_seq ?_
    refine r_region ?_
    refine r_loadV rfl rfl rfl rfl (planeV_size _) ?_
    refine r_storeV rfl rfl rfl (planeV_size _) (planeV_size _) (planeV_one _) ?_
    refine r_nil ?_
    refine r_tn ?_
    refine r_ret ?_
    have hy3 : y = 64 := by have h := of_decide_eq_false hc; omega
    subst hy3
    exact r_done1 (.inl rfl) rfl (res_cellV rfl rfl rfl (planeV_size _)) fun w hw => ⟨(A2, c2), rfl, ⟨hR2, hc2⟩, hw.sub⟩
end
section
open Go Go.RowKit
set_option linter.unusedVariables false
set_option linter.unusedSimpArgs false
set_option maxHeartbeats 2000000
set_option maxRecDepth 4000

theorem Keeps.rd {W w : World} (hK : Keeps W w) {A : Option Addr} {xs : List Value} (h : Rd W A xs) : Rd w A xs := fun j u hj => by
  obtain ⟨b, o, rfl, hc⟩ := h j u hj
  refine ⟨b, o, rfl, ?_⟩
  have hlt := World.block_lt_of_cell? W _ hc
  rw [World.cell?_of_block (w := W) (hK.2 _ hlt)]
  exact hc
theorem recV_set {r r2 : Rec} {i : Nat} {v : Value} (hP : r2.P = r.P) (ht : (tailL r).set i v = tailL r2) : (recV r).setIfInBounds (512 + i) v = recV r2 := by
  unfold recV recL
  rw [List.setIfInBounds_toArray, List.set_append_right _ _ (by rw [planesL_len]; omega), planesL_len, Nat.add_sub_cancel_left, ht, hP]
theorem tail_set {r : Rec} (h : r.pat.length = 16) (i : Nat) (v : Value) : (tailL r).set (18 + i) v = [Value.bool r.hires, .bool r.sound] ++ (r.pat.map (Value.int .u8) ++ ([Value.int .u8 r.pitch, .int .i64 r.kind, .int .i64 r.cause, .int .i64 r.pc, .int .i64 r.cycle]).set i v) := by
  unfold tailL
  rw [List.set_append_right _ _ (by simp; omega), show 18 + i - [Value.bool r.hires, Value.bool r.sound].length = 16 + i by simp; omega, List.set_append_right _ _ (by rw [List.length_map, h]; omega), List.length_map, h, Nat.add_sub_cancel_left]
theorem set_hires (r : Rec) (v : Bool) : (recV r).setIfInBounds 512 (.bool v) = recV { r with hires := v } := recV_set (i := 0) rfl rfl
theorem set_sound (r : Rec) (v : Bool) : (recV r).setIfInBounds 513 (.bool v) = recV { r with sound := v } := recV_set (i := 1) rfl rfl
theorem set_pitch {r : Rec} (h : r.pat.length = 16) (v : Int) : (recV r).setIfInBounds 530 (.int .u8 v) = recV { r with pitch := v } := recV_set (i := 18) rfl (tail_set h 0 _)
theorem set_kind {r : Rec} (h : r.pat.length = 16) (v : Int) : (recV r).setIfInBounds 531 (.int .i64 v) = recV { r with kind := v } := recV_set (i := 19) rfl (tail_set h 1 _)
theorem set_cause {r : Rec} (h : r.pat.length = 16) (v : Int) : (recV r).setIfInBounds 532 (.int .i64 v) = recV { r with cause := v } := recV_set (i := 20) rfl (tail_set h 2 _)
theorem set_pc {r : Rec} (h : r.pat.length = 16) (v : Int) : (recV r).setIfInBounds 533 (.int .i64 v) = recV { r with pc := v } := recV_set (i := 21) rfl (tail_set h 3 _)
theorem set_cycle {r : Rec} (h : r.pat.length = 16) (v : Int) : (recV r).setIfInBounds 534 (.int .i64 v) = recV { r with cycle := v } := recV_set (i := 22) rfl (tail_set h 4 _)
theorem copy_pat {r : Rec} (h : r.pat.length = 16) {l : List Int} (hl : l.length = 16) : ((recV r).toList.take 514 ++ (l.map (Value.int .u8)).take (Nat.min 16 16) ++ (recV r).toList.drop (514 + Nat.min 16 16)).toArray = recV { r with pat := l } := by
  have e1 : (recV r).toList = (planesL r.P ++ [Value.bool r.hires, .bool r.sound]) ++ (r.pat.map (Value.int .u8) ++ [.int .u8 r.pitch, .int .i64 r.kind, .int .i64 r.cause, .int .i64 r.pc, .int .i64 r.cycle]) := by
    show planesL r.P ++ tailL r = _
    unfold tailL
    rw [List.append_assoc]
  have hlen : (planesL r.P ++ [Value.bool r.hires, .bool r.sound]).length = 514 := by simp [planesL_len]
  have e2 : (recV r).toList.take 514 = planesL r.P ++ [Value.bool r.hires, .bool r.sound] := by rw [e1, ← hlen]; exact List.take_left
  have e3 : (recV r).toList.drop (514 + Nat.min 16 16) = [.int .u8 r.pitch, .int .i64 r.kind, .int .i64 r.cause, .int .i64 r.pc, .int .i64 r.cycle] := by
    rw [e1, show 514 + Nat.min 16 16 = (planesL r.P ++ [Value.bool r.hires, .bool r.sound]).length + (r.pat.map (Value.int .u8)).length by rw [hlen, List.length_map, h]; rfl, List.drop_append, List.drop_eq_nil_of_le (Nat.le_add_right _ _), List.nil_append, Nat.add_sub_cancel_left, List.drop_left]
  rw [e2, e3, List.take_of_length_le (by rw [List.length_map, hl]; decide)]
  show _ = (planesL r.P ++ tailL { r with pat := l }).toArray
  unfold tailL
  simp only [List.append_assoc]
def setPl (P : Nat → Nat → Nat → Bool) (k : Nat) (Q : Nat → Nat → Bool) (i : Nat) : Nat → Nat → Bool := if i = k then Q else P i
theorem splice_plane {r : Rec} (h : r.pat.length = 16) {k : Nat} (hk : k < 4) (Q : Nat → Nat → Bool) : splice (recV r) (128 * k) (planeV Q) = recV { r with P := setPl r.P k Q } := by
  unfold splice
  apply Array.ext_getElem?
  intro j
  have hs := recV_size h
  have hl : (recV r).toList.length = 535 := by rw [Array.length_toList, hs]
  have hp : ∀ j, (recV r).toList[j]? = (recV r)[j]? := fun j => Array.getElem?_toList
  have hq : ∀ j, (planeV Q).toList[j]? = (planeV Q)[j]? := fun j => Array.getElem?_toList
  have hpl : ∀ (r : Rec) (j : Nat), j < 512 → (recV r)[j]? = some (.int .u64 ((cellP (r.P (j / 128)) (j % 128) : Nat) : Int)) := fun r j hj => by
    show (planesL r.P ++ tailL r).toArray[j]? = _
    rw [List.getElem?_toArray, List.getElem?_append, planesL_len, if_pos hj, planesL_at _ hj]
  have htl : ∀ j, 512 ≤ j → (recV { r with P := setPl r.P k Q })[j]? = (recV r)[j]? := fun j hj => by
    obtain ⟨i, rfl⟩ : ∃ i, j = 512 + i := ⟨j - 512, by omega⟩
    rw [recV_tail, recV_tail]; rfl
  rw [List.getElem?_toArray, List.append_assoc, List.getElem?_append, List.length_take, hl, List.getElem?_take, planeV_size]
  by_cases h1 : j < 128 * k
  · rw [if_pos (by omega), if_pos h1, hp, hpl r j (by omega), hpl _ j (by omega)]
    show _ = some (Value.int .u64 ((cellP (setPl r.P k Q (j / 128)) (j % 128) : Nat) : Int))
    unfold setPl
    rw [if_neg (by omega)]
  · rw [if_neg (by omega), show min (128 * k) 535 = 128 * k by omega, List.getElem?_append, hq]
    have e2 : (planeV Q).toList.length = 128 := by rw [Array.length_toList, planeV_size]
    rw [e2]
    by_cases h2 : j < 128 * k + 128
    · rw [if_pos (by omega), planeV_at _ (by omega), hpl _ j (by omega)]
      show _ = some (Value.int .u64 ((cellP (setPl r.P k Q (j / 128)) (j % 128) : Nat) : Int))
      unfold setPl
      rw [if_pos (by omega), show j - 128 * k = j % 128 by omega]
    · rw [if_neg (by omega), List.getElem?_drop, hp, show 128 * k + 128 + (j - 128 * k - 128) = j by omega]
      by_cases h3 : j < 512
      · rw [hpl r j h3, hpl _ j h3]
        show _ = some (Value.int .u64 ((cellP (setPl r.P k Q (j / 128)) (j % 128) : Nat) : Int))
        unfold setPl
        rw [if_neg (by omega)]
      · exact (htl j (by omega)).symm
end
end Go.Proofs.Ytgicjkjppnkodaa
