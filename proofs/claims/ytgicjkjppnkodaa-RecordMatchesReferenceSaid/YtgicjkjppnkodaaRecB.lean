/-
  Records (chapter 23): encode.
-/
import Derived.Test.YtgicjkjppnkodaaRecA
import Derived.Test.YtgicjkjppnkodaaRowsA
import Derived.Lib.SlBytesConst
import Derived.Laws.BytesString
namespace Go.Proofs.Ytgicjkjppnkodaa
section
open Go Go.RowKit
set_option linter.unusedVariables false
set_option linter.unusedSimpArgs false
set_option maxHeartbeats 2000000
set_option maxRecDepth 4000
attribute [local irreducible] mix

theorem own_ne {w0 w : World} {S0 : List Nat} {H G1 G2 : List Res} {b g m c T sz : Nat} {o : Obj} {xs : List Value} [h1 : HasBlk b H o G1] [h2 : HasOwn (.slice (some ⟨g, 0, none⟩) m c) G1 T sz m xs G2] (hw : Sat w0 S0 H w) : b ≠ g := by
  have h := (hw.pick h1.pick).apart
  have hm : Res.own T sz (.slice (some ⟨g, 0, none⟩) m c) m xs ∈ G1 := h2.pick.perm.mem_iff.2 (.head _)
  intro e
  exact (List.pairwise_cons.1 h).1 _ hm b rfl (by rw [e]; rfl)
theorem pat_cell (r : Rec) (h : r.pat.length = 16) {j : Nat} {u : Value} (hj : (r.pat.map (Value.int .u8))[j]? = some u) : (recV r)[514 + j]? = some u := by
  have hlt : j < 16 := by
    have := (List.getElem?_eq_some_iff.1 hj).1
    simpa [h] using this
  rw [rec_pat h hlt, ← hj]
  have h2 : j < r.pat.length := by omega
  simp [h2]
def headB (r : Rec) : List Int := [(((num (fun i => if i = 0 then r.hires else r.sound) 2) : Nat) : Int), r.pitch] ++ (r.pat ++ ([IntKind.u8.wrap r.kind, IntKind.u8.wrap r.cause] ++ (be 2 r.pc.toNat ++ (be 8 r.cycle.toNat ++ [((num (usedF r.P) 4 : Nat) : Int)]))))
theorem headB_len (r : Rec) (h : r.pat.length = 16) : (headB r).length = 31 := by simp [headB, be_len, h]
def rowsB (p : Nat → Nat → Bool) : Nat → List Int
  | 0 => []
  | y + 1 => rowsB p y ++ be 8 (hiN (p y)) ++ be 8 (loN (p y))
theorem rowsB_succ (p : Nat → Nat → Bool) (y : Nat) : rowsB p (y + 1) = rowsB p y ++ be 8 (hiN (p y)) ++ be 8 (loN (p y)) := rfl
theorem rowsB_len (p : Nat → Nat → Bool) : ∀ y, (rowsB p y).length = 16 * y
  | 0 => rfl
  | y + 1 => by simp only [rowsB, List.length_append, be_len, rowsB_len p y]; omega
def bodyB (P : Nat → Nat → Nat → Bool) : Nat → List Int
  | 0 => []
  | k + 1 => bodyB P k ++ (if usedF P k then rowsB (P k) 64 else [])
def lenB (P : Nat → Nat → Nat → Bool) : Nat → Nat
  | 0 => 0
  | k + 1 => lenB P k + (if usedF P k then 1024 else 0)
theorem bodyB_len (P : Nat → Nat → Nat → Bool) : ∀ k, (bodyB P k).length = lenB P k
  | 0 => rfl
  | k + 1 => by
    simp only [bodyB, lenB, List.length_append, bodyB_len P k]
    split
    · rw [rowsB_len]
    · rfl
theorem lenB_le (P : Nat → Nat → Nat → Bool) : ∀ k, lenB P k ≤ 1024 * k
  | 0 => Nat.le_refl _
  | k + 1 => by have h := lenB_le P k; simp only [lenB]; split <;> omega
theorem lenB_no {P : Nat → Nat → Nat → Bool} {k : Nat} (h : usedF P k = false) : lenB P (k + 1) = lenB P k := by simp [lenB, h]
theorem lenB_yes {P : Nat → Nat → Nat → Bool} {k : Nat} (h : usedF P k = true) : lenB P (k + 1) = lenB P k + 1024 := by simp [lenB, h]
theorem bodyB_no {P : Nat → Nat → Nat → Bool} {k : Nat} (h : usedF P k = false) : bodyB P (k + 1) = bodyB P k := by simp [bodyB, h]
theorem bodyB_yes {P : Nat → Nat → Nat → Bool} {k : Nat} (h : usedF P k = true) : bodyB P (k + 1) = bodyB P k ++ rowsB (P k) 64 := by simp [bodyB, h]
/-- the bytes of a record -/
def encB (r : Rec) : List Int := headB r ++ bodyB r.P 4
theorem encB_len (r : Rec) (h : r.pat.length = 16) : (encB r).length = 31 + lenB r.P 4 := by
  unfold encB; rw [List.length_append, headB_len r h, bodyB_len]
theorem encB_map (r : Rec) : (encB r).map (Value.int .u8) = (headB r).map (Value.int .u8) ++ (bodyB r.P 4).map (Value.int .u8) := by unfold encB; rw [List.map_append]
theorem head_list (r : Rec) (xs : List Value) : ((((((xs ++ [Value.int .u8 ((num (fun i => if i = 0 then r.hires else r.sound) 2) : Nat), .int .u8 r.pitch]) ++ r.pat.map (Value.int .u8)) ++ [.int .u8 (IntKind.u8.wrap r.kind), .int .u8 (IntKind.u8.wrap r.cause)]) ++ (be 2 r.pc.toNat).map (Value.int .u8)) ++ (be 8 r.cycle.toNat).map (Value.int .u8)) ++ [Value.int .u8 ((num (usedF r.P) 4 : Nat) : Int)]) = xs ++ (headB r).map (Value.int .u8) := by
  unfold headB
  simp only [List.map_append, List.append_assoc, List.map_cons, List.map_nil, List.cons_append, List.nil_append]
theorem shr8 {x : Nat} (hx : x < 2 ^ 4) (n : Nat) : ((x : Nat) : Int).fdiv (2 ^ (min ((n : Nat) : Int).toNat IntKind.u8.bits)) = ((x >>> n : Nat) : Int) := by
  have e : ((n : Nat) : Int).toNat = n := rfl
  have e2 : IntKind.u8.bits = 8 := rfl
  rw [e, e2]
  rw [Int.fdiv_eq_ediv_of_nonneg _ (Int.le_of_lt (Int.pow_pos (by decide)))]
  rw [show ((2 : Int) ^ min n 8) = ((2 ^ min n 8 : Nat) : Int) by simp, ← Int.natCast_ediv]
  congr 1
  rw [Nat.shiftRight_eq_div_pow]
  by_cases h : n ≤ 8
  · rw [Nat.min_eq_left h]
  · rw [Nat.min_eq_right (by omega), Nat.div_eq_of_lt (Nat.lt_of_lt_of_le hx (Nat.pow_le_pow_right (by decide) (by omega))), Nat.div_eq_of_lt (Nat.lt_of_lt_of_le hx (Nat.pow_le_pow_right (by decide) (by omega)))]
theorem and8 {x : Nat} (h : x < 2 ^ 4) : IntKind.u8.wrap (BitVec.ofInt IntKind.u8.bits (x : Int) &&& BitVec.ofInt IntKind.u8.bits 1).toNat = ((x % 2 : Nat) : Int) := by
  have e : ∀ z : Nat, z < 256 → (BitVec.ofInt IntKind.u8.bits (z : Int)).toNat = z := fun z hz => by
    show (BitVec.ofInt 8 (z : Int)).toNat = z
    rw [BitVec.ofInt_natCast, BitVec.toNat_ofNat]
    exact Nat.mod_eq_of_lt hz
  rw [BitVec.toNat_and, e x (by omega), show (BitVec.ofInt IntKind.u8.bits 1).toNat = 1 from e 1 (by decide), Nat.and_one_is_mod]
  exact IntWalk.u8_in _ ⟨by omega, by omega⟩
theorem used_bit (P : Nat → Nat → Nat → Bool) {k : Nat} (hk : k < 4) : decide ((((num (usedF P) 4 >>> k) % 2 : Nat) : Int) = 0) = !usedF P k := by
  have h := bit_dec (num (usedF P) 4) k
  rw [num_bit, decide_eq_true hk, Bool.true_and] at h
  rw [← h]
  rcases Nat.mod_two_eq_zero_or_one (num (usedF P) 4 >>> k) with h2 | h2 <;> rw [h2] <;> rfl
theorem encode23 (r : Rec) (A : Option Addr) (m c : Nat) (xs : List Value) (hp : r.pat.length = 16) (hpc : 0 ≤ r.pc ∧ r.pc < 65536) (hcy : 0 ≤ r.cycle ∧ r.cycle ≤ 4611686018427387904) (hm : m ≤ 35184372088832) (w : World) (hS : Sat w ([Res.own 5 1 (.slice A (m) c) (m) (xs)].filterMap Res.foot) [.own 5 1 (.slice A (m) c) (m) (xs)] w) :
    Calls Try.prog 27 #[.slice A m c, .agg (recV r)] w fun e w' => ∃ i : Option Addr × Nat, e = .returned (.slice i.1 (m + (encB r).length) i.2) ∧ True ∧ Sat w ([Res.own 5 1 (.slice A (m) c) (m) (xs)].filterMap Res.foot) [.own 5 1 (.slice i.1 (m + (encB r).length) i.2) (m + (encB r).length) (xs ++ (encB r).map (Value.int .u8))] w' := by
  refine enterS Try.func27 rfl rfl rfl hS ?_
  refine r_seq ?_
  refine r_region ?_
  refine r_boxV rfl rfl fun b3 => ?_
  refine r_assign rfl rfl ?_
  refine r_nil ?_
  refine r_tn ?_
  refine r_seq ?_
  refine r_mixedD { xb := [], rb := [b3], rs := [18], fs := [], acs := [15, 16] } (by kernel_rfl) (by kernel_rfl) (fun w hw k hk => by
    simp only [List.mem_cons, List.not_mem_nil, or_false] at hk
    rcases hk with rfl <;> exact Sat.lt hw) ?_
  refine r_move rfl rfl ?_
  refine r_fieldAddr (off := 512) (o' := 512) rfl rfl rfl rfl ?_
  refine r_load1 rfl rfl rfl (rec_hires r) ?_
  refine r_fieldAddr (off := 513) (o' := 513) rfl rfl rfl rfl ?_
  refine r_load1 rfl rfl rfl (rec_sound r) ?_
  refine r_lit (sz := 1) (pv := [(0, .bool r.hires), (1, .bool r.sound)]) (cells := #[.bool r.hires, .bool r.sound]) rfl rfl rfl rfl rfl rfl (by kernel_rfl) rfl (fun b15 => ?_) (by decide)
  refine r_call rfl rfl rfl (by kernel_rfl) rfl (fun w hw => by exact bits23 (fun i => if i = 0 then r.hires else r.sound) 2 b15 2 w (by decide) (own_rd (A := some ⟨b15, 0, none⟩) (m := 2) (c := 2) hw)) ?_
  refine r_fieldAddr (off := 530) (o' := 530) rfl rfl rfl rfl ?_
  refine r_load1 rfl rfl rfl (rec_pitch hp) ?_
  refine r_lit (sz := 1) (pv := [(0, .int .u8 ((num (fun i => if i = 0 then r.hires else r.sound) 2) : Nat)), (1, .int .u8 r.pitch)]) (cells := #[.int .u8 ((num (fun i => if i = 0 then r.hires else r.sound) 2) : Nat), .int .u8 r.pitch]) rfl rfl rfl rfl rfl rfl (by kernel_rfl) rfl (fun b19 => ?_) (by decide)
  refine r_append (k := 2) (news := [.int .u8 ((num (fun i => if i = 0 then r.hires else r.sound) 2) : Nat), .int .u8 r.pitch]) (sz := 1) (bytes := 1) rfl rfl rfl rfl rfl rfl (by decide) (fun w hw => own_rd (A := some ⟨b19, 0, none⟩) (m := 2) (c := 2) hw) (rfl) (fun u hu => by simp at hu; rcases hu with rfl | rfl <;> rfl) (by omega) (by unfold maxLen; omega) fun A20 c20 => ?_
  refine r_assign rfl rfl ?_
  refine r_nil ?_
  refine r_tn ?_
  refine r_seq ?_
  refine r_region ?_
  refine r_move rfl rfl ?_
  refine r_fieldAddr (off := 514) (o' := 514) rfl rfl rfl rfl ?_
  refine r_sliceArr rfl rfl rfl rfl ?_
  refine r_append (k := 16) (news := r.pat.map (Value.int .u8)) (sz := 1) (bytes := 1) rfl rfl rfl rfl rfl rfl (by decide) (fun w hw => (Rd.blk (hw.look (HasBlk.pick (b := b3))) (fun j u h => pat_cell r hp h))) (by simp [hp]) (fun u hu => by obtain ⟨z, _, rfl⟩ := List.mem_map.1 hu; rfl) (by omega) (by unfold maxLen; omega) fun A24 c24 => ?_
  refine r_assign rfl rfl ?_
  refine r_nil ?_
  refine r_tn ?_
  refine r_seq ?_
  refine r_region ?_
  refine r_move rfl rfl ?_
  refine r_fieldAddr (off := 531) (o' := 531) rfl rfl rfl rfl ?_
  refine r_fieldAddr (off := 0) (o' := 531) rfl rfl rfl rfl ?_
  refine r_load1 rfl rfl rfl (rec_kind hp) ?_
  refine r_convert rfl rfl rfl rfl rfl ?_
  refine r_fieldAddr (off := 531) (o' := 531) rfl rfl rfl rfl ?_
  refine r_fieldAddr (off := 1) (o' := 532) rfl rfl rfl rfl ?_
  refine r_load1 rfl rfl rfl (rec_cause hp) ?_
  refine r_convert rfl rfl rfl rfl rfl ?_
  refine r_lit (sz := 1) (pv := [(0, .int .u8 (IntKind.u8.wrap r.kind)), (1, .int .u8 (IntKind.u8.wrap r.cause))]) (cells := #[.int .u8 (IntKind.u8.wrap r.kind), .int .u8 (IntKind.u8.wrap r.cause)]) rfl rfl rfl rfl rfl rfl (by kernel_rfl) rfl (fun b34 => ?_) (by decide)
  refine r_append (k := 2) (news := [.int .u8 (IntKind.u8.wrap r.kind), .int .u8 (IntKind.u8.wrap r.cause)]) (sz := 1) (bytes := 1) rfl rfl rfl rfl rfl rfl (by decide) (fun w hw => own_rd (A := some ⟨b34, 0, none⟩) (m := 2) (c := 2) hw) (rfl) (fun u hu => by simp at hu; rcases hu with rfl | rfl <;> rfl) (by omega) (by unfold maxLen; omega) fun A35 c35 => ?_
  refine r_assign rfl rfl ?_
  refine r_nil ?_
  refine r_tn ?_
  refine r_seq ?_
  refine r_have (fun w hw => own_some (A := A35) (m := m + 2 + 16 + 2) (c := c35) hw (by omega)) fun hg => ?_
  obtain ⟨g, rfl⟩ := hg
  refine r_have (fun w hw => own_ne (b := b3) (g := g) (m := m + 2 + 16 + 2) (c := c35) hw) fun hne => ?_
  refine r_mixedD { xb := [g], rb := [b3], rs := [44], fs := [], acs := [41] } (by kernel_rfl) (by kernel_rfl) (fun w hw k hk => by
    simp only [List.mem_cons, List.not_mem_nil, or_false] at hk
    rcases hk with rfl <;> exact Sat.lt hw) ?_
  refine r_move rfl rfl ?_
  refine r_fieldAddr (off := 531) (o' := 531) rfl rfl rfl rfl ?_
  refine r_fieldAddr (off := 2) (o' := 533) rfl rfl rfl rfl ?_
  refine r_load1 rfl rfl rfl (rec_pc hp) ?_
  refine r_convert (r := ((r.pc.toNat : Nat) : Int)) rfl rfl rfl rfl ((IntWalk.u64_in _ ⟨by omega, by omega⟩).trans (by omega)) ?_
  refine r_callo (.slice (some ⟨g, 0, none⟩) (m + 2 + 16 + 2) c35) rfl rfl rfl (by kernel_rfl) rfl (fun w hs => by exact put23 (some ⟨g, 0, none⟩) (m + 2 + 16 + 2) c35 ((((xs ++ [Value.int .u8 ((num (fun i => if i = 0 then r.hires else r.sound) 2) : Nat), .int .u8 r.pitch]) ++ r.pat.map (Value.int .u8)) ++ [.int .u8 (IntKind.u8.wrap r.kind), .int .u8 (IntKind.u8.wrap r.cause)])) r.pc.toNat 2 (by omega) (by decide) (by omega) w hs) ?_ (hok := by first | exact True.intro | (simp [OkAct, dstIn, Res.foot, Value.ownBlock]; done))
  rintro ⟨A41, c41⟩ _
  refine r_fieldAddr (off := 531) (o' := 531) rfl rfl rfl rfl ?_
  refine r_fieldAddr (off := 3) (o' := 534) rfl rfl rfl rfl ?_
  refine r_load1 rfl rfl rfl (rec_cycle hp) ?_
  refine r_convert (r := ((r.cycle.toNat : Nat) : Int)) rfl rfl rfl rfl ((IntWalk.u64_in _ ⟨by omega, by omega⟩).trans (by omega)) ?_
  refine r_callo (.slice A41 (m + 2 + 16 + 2 + 2) c41) rfl rfl rfl (by kernel_rfl) rfl (fun w hs => by exact put23 A41 (m + 2 + 16 + 2 + 2) c41 (((((xs ++ [Value.int .u8 ((num (fun i => if i = 0 then r.hires else r.sound) 2) : Nat), .int .u8 r.pitch]) ++ r.pat.map (Value.int .u8)) ++ [.int .u8 (IntKind.u8.wrap r.kind), .int .u8 (IntKind.u8.wrap r.cause)]) ++ (be 2 r.pc.toNat).map (Value.int .u8))) r.cycle.toNat 8 (by omega) (by decide) (by omega) w hs) ?_ (hok := by first | exact True.intro | (simp [OkAct, dstIn, Res.foot, Value.ownBlock]; done))
  rintro ⟨A46, c46⟩ _
  refine r_assign rfl rfl ?_
  refine r_nil ?_
  refine r_tn ?_
  refine r_seq ?_
  refine r_region ?_
  refine r_loadV rfl rfl rfl rfl (recV_size hp) ?_
  refine r_call rfl rfl rfl (by kernel_rfl) rfl (fun w hw => by exact used23 r w hp) ?_
  refine r_assign rfl rfl ?_
  refine r_nil ?_
  refine r_tn ?_
  refine r_seq ?_
  refine r_region ?_
  refine r_move rfl rfl ?_
  refine r_move rfl rfl ?_
  refine r_lit (sz := 1) (pv := [(0, .int .u8 ((num (usedF r.P) 4 : Nat) : Int))]) (cells := #[.int .u8 ((num (usedF r.P) 4 : Nat) : Int)]) rfl rfl rfl rfl rfl rfl (by kernel_rfl) rfl (fun b51 => ?_) (by decide)
  refine r_append (k := 1) (news := [.int .u8 ((num (usedF r.P) 4 : Nat) : Int)]) (sz := 1) (bytes := 1) rfl rfl rfl rfl rfl rfl (by decide) (fun w hw => own_rd (A := some ⟨b51, 0, none⟩) (m := 1) (c := 1) hw) (rfl) (fun u hu => by simp at hu; subst hu; rfl) (by omega) (by unfold maxLen; omega) fun A52 c52 => ?_
  refine r_assign rfl rfl ?_
  refine r_nil ?_
  refine r_tn ?_
  refine r_seq ?_
  refine r_seq ?_
  refine r_region ?_
  refine r_fieldAddr (off := 0) (o' := 0) rfl rfl rfl rfl ?_
  refine r_loadN (m := 512) (vs := planesV r.P) rfl rfl rfl rfl (by rw [recV_size hp]; omega) (rec_planes r hp) ?_
  refine r_move rfl rfl ?_
  refine r_nil ?_
  refine r_tn ?_
  refine r_block ?_
  refine r_loop2 (fun k A2 c2 => [(0, .slice A2 (m + 31 + lenB r.P k) c2), (3, .pointer (some ⟨b3, 0, none⟩)), (5, .int .u8 ((num (usedF r.P) 4 : Nat) : Int)), (54, .agg (planesV r.P)), (55, .int .i64 (k : Int))]) (fun k A2 c2 => [.own 5 1 (.slice A2 (m + 31 + lenB r.P k) c2) (m + 31 + lenB r.P k) ((xs ++ (headB r).map (Value.int .u8)) ++ (bodyB r.P k).map (Value.int .u8)), .blk b3 (.cells (recV r) 48 (0, 0))]) (fun k A2 c2 => k ≤ 4) 4 0 A52 c52 (by omega) ⟨rfl, rfl, rfl, rfl, rfl, trivial⟩ (fun w hw => by have h2 : Sat _ _ [.own 5 1 (.slice A52 (m + 2 + 16 + 2 + 2 + 8 + 1) c52) (m + 2 + 16 + 2 + 2 + 8 + 1) ((((((xs ++ [Value.int .u8 ((num (fun i => if i = 0 then r.hires else r.sound) 2) : Nat), .int .u8 r.pitch]) ++ r.pat.map (Value.int .u8)) ++ [.int .u8 (IntKind.u8.wrap r.kind), .int .u8 (IntKind.u8.wrap r.cause)]) ++ (be 2 r.pc.toNat).map (Value.int .u8)) ++ (be 8 r.cycle.toNat).map (Value.int .u8)) ++ [Value.int .u8 ((num (usedF r.P) 4 : Nat) : Int)]), .blk b3 (.cells (recV r) 48 (0, 0))] w := hw.sub; rw [head_list r xs] at h2; rw [show bodyB r.P 0 = [] from rfl, List.map_nil, List.append_nil]; exact h2) fun k A2 c2 hk => ?_
  refine r_seq ?_
  refine r_region ?_
  refine r_lss rfl rfl rfl rfl ?_
  refine r_nil ?_
  refine r_tn ?_
  refine r_seq ?_
  refine r_cond rfl (fun hc => ?_) (fun hc => ?_)
  · refine r_skip ?_
    refine r_tn ?_
    refine r_seq ?_
    refine r_block ?_
    refine r_seq ?_
    refine r_region ?_
    have hk2 : k < 4 := by have h := of_decide_eq_true hc; omega
    have hlb := lenB_le r.P k
    refine r_move rfl rfl ?_
    refine r_indexAgg (i' := k) (sz := 128) (vs := planeV (r.P k)) rfl rfl rfl rfl rfl rfl rfl hk2 (planesV_plane r.P hk2) ?_
    refine r_allocV (cs := planeV noneQ) (by kernel_rfl) rfl fun b7 => ?_
    refine r_assign rfl rfl ?_
    refine r_storeV rfl rfl rfl (planeV_size _) (planeV_size _) (planeV_one _) ?_
    refine r_nil ?_
    refine r_tn ?_
    refine r_seq ?_
    refine r_seq ?_
    refine r_region ?_
    refine r_move rfl rfl ?_
    refine r_move rfl rfl ?_
    refine r_shr (r := ((num (usedF r.P) 4 >>> k : Nat) : Int)) rfl rfl rfl (by omega) (shr8 (num_lt _ 4) k) ?_
    refine r_and rfl rfl rfl (and8 (Nat.lt_of_le_of_lt (sh_le _ _) (num_lt _ 4))) ?_
    refine r_eql (p := !usedF r.P k) rfl rfl rfl (used_bit r.P hk2) ?_
    refine r_nil ?_
    refine r_tn ?_
    refine r_cond rfl (fun hc => ?_) (fun hc => ?_)
    · refine r_exit ?_
      refine r_te ?_
      refine r_be ?_
      refine r_tn ?_
      refine r_region ?_
      try have hu : usedF r.P k = false := by simpa using hc
      try have hy64 : y = 64 := by have h := of_decide_eq_false hc; omega
      refine r_add rfl rfl rfl (w64 (by omega)) ?_
      refine r_move rfl rfl ?_
      refine r_nil ?_
      refine r_tn ?_
      first
        | exact r_again2 (k + 1) A2 c2 (by omega) (by omega) ⟨by rw [lenB_no hu]; rfl, rfl, rfl, rfl, rfl, trivial⟩ (fun w hw => by rw [lenB_no hu, bodyB_no hu]; exact hw.sub)
        | (have el : m + 31 + (lenB r.P k + 1024) = m + 31 + lenB r.P k + 16 * 64 := by omega
           subst hy64
           exact r_again2 (k + 1) A3 c3 (by omega) (by omega) ⟨by rw [lenB_yes hu, el]; rfl, rfl, rfl, rfl, rfl, trivial⟩ (fun w hw => by rw [lenB_yes hu, el, bodyB_yes hu, List.map_append, ← List.append_assoc]; exact hw.sub))
    · refine r_skip ?_
      refine r_tn ?_
      refine r_seq ?_
      refine r_region ?_
      refine r_fieldAddr (off := 0) (o' := 0) rfl rfl rfl rfl ?_
      have hu : usedF r.P k = true := by simpa using hc
      refine r_loadV rfl rfl rfl rfl (planeV_size _) ?_
      refine r_move rfl rfl ?_
      refine r_nil ?_
      refine r_tn ?_
      refine r_block ?_
      refine r_loop2 (fun y A3 c3 => [(0, .slice A3 (m + 31 + lenB r.P k + 16 * y) c3), (3, .pointer (some ⟨b3, 0, none⟩)), (5, .int .u8 ((num (usedF r.P) 4 : Nat) : Int)), (54, .agg (planesV r.P)), (55, .int .i64 (k : Int)), (65, .agg (planeV (r.P k))), (66, .int .i64 (y : Int))]) (fun y A3 c3 => [.own 5 1 (.slice A3 (m + 31 + lenB r.P k + 16 * y) c3) (m + 31 + lenB r.P k + 16 * y) ((xs ++ (headB r).map (Value.int .u8)) ++ (bodyB r.P k).map (Value.int .u8) ++ (rowsB (r.P k) y).map (Value.int .u8)), .blk b3 (.cells (recV r) 48 (0, 0))]) (fun y A3 c3 => y ≤ 64) 64 0 A2 c2 (by omega) ⟨rfl, rfl, rfl, rfl, rfl, rfl, rfl, trivial⟩ (fun w hw => by rw [show rowsB (r.P k) 0 = [] from rfl, List.map_nil, List.append_nil]; exact hw.sub) fun y A3 c3 hy => ?_
      refine r_seq ?_
      refine r_region ?_
      refine r_lss rfl rfl rfl rfl ?_
      refine r_nil ?_
      refine r_tn ?_
      refine r_seq ?_
      refine r_cond rfl (fun hc => ?_) (fun hc => ?_)
      · refine r_skip ?_
        refine r_tn ?_
        refine r_seq ?_
        refine r_block ?_
        refine r_seq ?_
        refine r_region ?_
        have hy2 : y < 64 := by have h := of_decide_eq_true hc; omega
        refine r_indexAgg (i' := y) (sz := 2) (vs := rowV (r.P k y)) rfl rfl rfl rfl rfl rfl rfl hy2 (by rw [Nat.mul_comm]; exact planeV_row _ hy2) ?_
        refine r_allocV (cs := #[.int .u64 0, .int .u64 0]) rfl rfl fun b9 => ?_
        refine r_storeV rfl rfl rfl rfl rfl rfl ?_
        refine r_nil ?_
        refine r_tn ?_
        refine r_have (fun w hw => own_some (A := A3) (m := m + 31 + lenB r.P k + 16 * y) (c := c3) hw (by omega)) fun hg => ?_
        obtain ⟨g, rfl⟩ := hg
        refine r_have (fun w hw => own_ne (b := b9) (g := g) (m := m + 31 + lenB r.P k + 16 * y) (c := c3) hw) fun hne => ?_
        refine r_mixedD { xb := [g], rb := [b9], rs := [74], fs := [], acs := [72] } (by kernel_rfl) (by kernel_rfl) (fun w hw k hk => by
          simp only [List.mem_cons, List.not_mem_nil, or_false] at hk
          rcases hk with rfl <;> exact Sat.lt hw) ?_
        refine r_move rfl rfl ?_
        refine r_fieldAddr (off := 0) (o' := 0) rfl rfl rfl rfl ?_
        refine r_load1 rfl rfl rfl (by rfl) ?_
        refine r_callo (.slice (some ⟨g, 0, none⟩) (m + 31 + lenB r.P k + 16 * y) c3) rfl rfl rfl (by kernel_rfl) rfl (fun w hs => by exact put23 (some ⟨g, 0, none⟩) (m + 31 + lenB r.P k + 16 * y) c3 ((xs ++ (headB r).map (Value.int .u8)) ++ (bodyB r.P k).map (Value.int .u8) ++ (rowsB (r.P k) y).map (Value.int .u8)) (hiN (r.P k y)) 8 (hi_lt _) (by decide) (by omega) w hs) ?_ (hok := by first | exact True.intro | (simp [OkAct, dstIn, Res.foot, Value.ownBlock]; done))
        rintro ⟨A72, c72⟩ _
        refine r_fieldAddr (off := 1) (o' := 1) rfl rfl rfl rfl ?_
        refine r_load1 rfl rfl rfl (by rfl) ?_
        refine r_callo (.slice A72 (m + 31 + lenB r.P k + 16 * y + 8) c72) rfl rfl rfl (by kernel_rfl) rfl (fun w hs => by exact put23 A72 (m + 31 + lenB r.P k + 16 * y + 8) c72 (((xs ++ (headB r).map (Value.int .u8)) ++ (bodyB r.P k).map (Value.int .u8) ++ (rowsB (r.P k) y).map (Value.int .u8)) ++ (be 8 (hiN (r.P k y))).map (Value.int .u8)) (loN (r.P k y)) 8 (lo_lt _) (by decide) (by omega) w hs) ?_ (hok := by first | exact True.intro | (simp [OkAct, dstIn, Res.foot, Value.ownBlock]; done))
        rintro ⟨A75, c75⟩ _
        refine r_assign rfl rfl ?_
        refine r_nil ?_
        refine r_bn ?_
        refine r_tn ?_
        refine r_region ?_
        refine r_add rfl rfl rfl (w64 (by omega)) ?_
        refine r_move rfl rfl ?_
        refine r_nil ?_
        refine r_tn ?_
        exact r_again2 (y + 1) A75 c75 (by omega) (by omega) ⟨rfl, rfl, rfl, rfl, rfl, rfl, rfl, trivial⟩ (fun w hw => by rw [rowsB_succ, List.map_append, List.map_append, ← List.append_assoc, ← List.append_assoc]; exact hw.sub)
      · refine r_exit ?_
        refine r_te ?_
        refine r_te ?_
        refine r_be ?_
        refine r_bn ?_
        refine r_tn ?_
        refine r_region ?_
        try have hu : usedF r.P k = false := by simpa using hc
        try have hy64 : y = 64 := by have h := of_decide_eq_false hc; omega
        refine r_add rfl rfl rfl (w64 (by omega)) ?_
        refine r_move rfl rfl ?_
        refine r_nil ?_
        refine r_tn ?_
        first
          | exact r_again2 (k + 1) A2 c2 (by omega) (by omega) ⟨by rw [lenB_no hu]; rfl, rfl, rfl, rfl, rfl, trivial⟩ (fun w hw => by rw [lenB_no hu, bodyB_no hu]; exact hw.sub)
          | (have el : m + 31 + (lenB r.P k + 1024) = m + 31 + lenB r.P k + 16 * 64 := by omega
             subst hy64
             exact r_again2 (k + 1) A3 c3 (by omega) (by omega) ⟨by rw [lenB_yes hu, el]; rfl, rfl, rfl, rfl, rfl, trivial⟩ (fun w hw => by rw [lenB_yes hu, el, bodyB_yes hu, List.map_append, ← List.append_assoc]; exact hw.sub))
  · refine r_exit ?_
    refine r_te ?_
    refine r_te ?_
    refine r_be ?_
    refine r_tn ?_
    refine r_seq ?_
    refine r_region ?_
    refine r_move rfl rfl ?_
    refine r_assign rfl rfl ?_
    refine r_nil ?_
    refine r_tn ?_
    refine r_ret ?_
    have hk4 : k = 4 := by have h := of_decide_eq_false hc; omega
    subst hk4
    exact r_done1 (.inl rfl) rfl (res_tmp rfl) fun w hw => ⟨(A2, c2), by rw [encB_len r hp, ← Nat.add_assoc], trivial, by rw [encB_map r, ← List.append_assoc, encB_len r hp, ← Nat.add_assoc]; exact hw.sub⟩
end
section
open Go Go.RowKit
set_option linter.unusedVariables false
theorem run_append_full {P : Program} (w : World) (t ty e : TypeId) (i : TypeInfo) (z : Value) (size bytes : Nat) (ht : P.underlying t = some (.slice e)) (hi : P.info? e = some i) (hz : i.zero = some z)
    (hsize : i.size = size) (hby : i.bytes = bytes) (hzs : z.cells.size = size) (b : Addr) (n cap : Nat) (xs : List Value) (hlo : xs.length = n * size) (holds : ∀ j v, xs[j]? = some v → w.cell? (b.add j) = some v)
    (a : Addr) (m c : Nat) (news : List Value) (hl : news.length = m * size) (hnews : ∀ j u, news[j]? = some u → w.cell? (a.add j) = some u) (hg : cap < n + m) (hcn : cap ≤ n)
    (h63 : n + m ≤ maxLen) (hbytes : (n + m) * bytes ≤ 140737488355328) :
    ∃ c' w', (Builtin.append_ #[t, t] ty #[.slice (some b) n cap, .slice (some a) m c]).run P w = .ok (.slice (some ⟨w.heap.size, 0, none⟩) (n + m) c') w' ∧ w'.ownsRow 0 e size (.slice (some ⟨w.heap.size, 0, none⟩) (n + m) c') (n + m) (xs ++ news) ∧ w.grownBy w' none := by
  subst hsize
  subst hby
  have hsmall : n + m ≤ 9223372036854775807 := by simp only [maxLen] at h63; omega
  have hlen : (xs ++ news).length = (n + m) * i.size := by rw [List.length_append, hlo, hl, Nat.add_mul]
  have hr := run_append_grow (P := P) w t ty e i z ht hi hz b n cap xs hlo holds a m c news hl hnews hg (by omega) (growslice_fits (by omega) hbytes)
  have hge := grownCap_ge w (n + m) cap e
  have hcm : grownCap w (n + m) cap e ≤ maxLen := grownCap_le_maxLen w (n + m) cap e h63
  refine ⟨_, _, hr, ⟨hlen, .inr ⟨w.heap.size, _, _, rfl, Nat.zero_le _, heap_alloc_new w.drew _, hge, hcm, ?_, ?_⟩⟩, ⟨rfl, rfl, rfl, by simp, fun k hk _ => (Below.heap_alloc w.drew _ k hk)⟩⟩
  · simp only [Array.size_append, List.size_toArray, size_zeroCells, hzs, hlo, hl, ← Nat.add_mul]
    congr 1
    omega
  · simp only [Array.toList_append, List.append_assoc]
    rw [← List.append_assoc, ← hlen]
    exact List.take_left
section
variable {P : Program} {n : Nat} {w0 : World} {S : List Nat} {E : List (Nat × Value)} {H G : List Res} {Q : Exit → Act → World → Prop}
variable {dr : Option Dr} {ops : Array Oper} {K : Act → World → Prop} {rest : List Oper} {d : Nat} {ty : TypeId} {pos : String} {after : Array Edge} {x y : Operand}
theorem r_appendG {t e : TypeId} {sz bytes m c k c2 : Nat} {z : Value} {b1 o1 b2 o2 : Nat} {xs news : List Value} (hd : Nat.blt d n = true) (hx : ev E x = some (.slice (some ⟨b1, o1, none⟩) m c)) (hy : ev E y = some (.slice (some ⟨b2, o2, none⟩) k c2))
    (ht : P.underlying t = some (.slice e)) (hinfo : (P.info? e).map (fun i => (i.zero, i.size, i.bytes)) = some (some z, sz, bytes)) (hzs : z.cells.size = sz)
    (hold : ∀ w, Sat w0 S H w → Rd w (some ⟨b1, o1, none⟩) xs) (hlo : xs.length = m * sz) (hsrc : ∀ w, Sat w0 S H w → Rd w (some ⟨b2, o2, none⟩) news) (hl : news.length = k * sz) (hg : c < m + k) (hcn : c ≤ m) (hb : (m + k) * bytes ≤ 140737488355328) (h63 : m + k ≤ maxLen)
    (hk : ∀ A' c', Run n w0 S ((d, .slice A' (m + k) c') :: E) (.own e sz (.slice A' (m + k) c') (m + k) (xs ++ news) :: H) (mix P dr ops K rest)) :
    Run n w0 S E H (mix P dr ops K (⟨some d, .call { callee := .builtin .append, args := #[x, y], argTypes := #[t, t] }, ty, pos, after, none⟩ :: rest)) :=
  r_act (X := []) (by cases dr <;> rfl) okAct_nil fun a w ha hw => by
    obtain ⟨i, hi, hz0, hz1, hz2⟩ := info_parts hinfo
    obtain ⟨c', w', hrun, ho, hgr⟩ := run_append_full (P := P) w t ty e i z sz bytes ht hi hz0 hz1 hz2 hzs ⟨b1, o1, none⟩ m c xs hlo (fun j v hj => by rw [addr_add]; exact (hold w hw).cell hj rfl) ⟨b2, o2, none⟩ k c2 news hl (fun j v hj => by rw [addr_add]; exact (hsrc w hw).cell hj rfl) hg hcn h63 hb
    have h := hk _ c' _ w' (ha.put hd _) ((hw.ownNil e sz).grown (r' := .own e sz (.slice (some ⟨w.heap.size, 0, none⟩) (m + k) c') (m + k) (xs ++ news)) hgr (fun q hq => by simp [Res.foot, Value.ownBlock] at hq; exact .inr (by omega)) ho)
    simp [execOp, resolve, invoke, builtin, ha.ev hx, ha.ev hy, hrun, actUpon]
    exact ⟨⟨hgr.size, fun k hk hX => hgr.block k hk (by simp)⟩, h⟩

theorem freeze_row {w : World} {g k : Nat} {cur : Array Value} {e : TypeId} (hg : w.heap[g]? = some (.cells cur e (0, 0))) :
    (w.freeze ⟨g, k, none⟩ 1).heap[g]? = some (.cells cur e (k, k + 1)) ∧ w.grownBy (w.freeze ⟨g, k, none⟩ 1) (some g) := by
  unfold World.freeze
  rw [if_neg (by decide)]
  refine ⟨?_, ⟨rfl, rfl, rfl, by simp, fun j hj hne => ?_⟩⟩
  · simp only [Array.getElem?_modify, if_true, hg]
    rfl
  · simp only [Array.getElem?_modify]
    rw [if_neg (fun h => hne (by rw [h]))]
/-- a constant's bytes: the literal's row gets the run-time's mark -/
theorem r_convConst {t e : TypeId} {g m c : Nat} {cur : Array Value} (hd : Nat.blt d n = true) (hx : ev E x = some (.slice (some ⟨g, 0, none⟩) m c)) [hb : HasBlk g H (.cells cur e (0, 0)) G] (ht : P.underlying t = some (.slice e)) (he : P.underlying e = some (.int .u8))
    (hk : Run n w0 S ((d, .slice (some ⟨g, 0, none⟩) m c) :: E) (.blk g (.cells cur e (cur.size, cur.size + 1)) :: G) (mix P none ops K rest)) :
    Run n w0 S E H (mix P none ops K (⟨some d, .convert t t x, ty, pos, after, none⟩ :: rest)) :=
  r_act (X := [g]) rfl True.intro fun a w ha hw => by
    have hw' := hw.pick hb.pick
    have hg : w.heap[g]? = some (.cells cur e (0, 0)) := hw.look hb.pick
    have hsh : w.shape? g = some (e, cur.size) := by unfold World.shape?; rw [hg]
    obtain ⟨h1, h2⟩ := freeze_row (k := cur.size) hg
    have h := hk _ _ (ha.put hd _) (hw'.grown (r' := .blk g (.cells cur e (cur.size, cur.size + 1))) h2 (fun q hq => .inl hq) h1)
    have hrun : (convert t t (.slice (some ⟨g, 0, none⟩) m c)).run P w = .ok (.slice (some ⟨g, 0, none⟩) m c) (w.freeze ⟨g, cur.size, none⟩ 1) := by
      simp [convert, run_underlying ht, run_underlying he, markStringish, hsh]
    simp [execOp, ha.ev hx, hrun, actUpon]
    exact ⟨⟨h2.size, fun k hk hX => h2.block k hk (by simpa using hX)⟩, h⟩
def strOf (l : List Int) : ByteArray := l.foldl (fun r z => r.push (UInt8.ofNat z.toNat)) ByteArray.empty
/-- bytes as a text -/
theorem r_bytesStr {t t2 e : TypeId} {b o m c : Nat} {l : List Int} (hd : Nat.blt d n = true) (hx : ev E x = some (.slice (some ⟨b, o, none⟩) m c)) (ht : P.underlying t = some (.slice e)) (he : P.underlying e = some (.int .u8)) (ht2 : P.underlying t2 = some .string) (hl : l.length = m)
    (hv : ∀ w, Sat w0 S H w → Rd w (some ⟨b, o, none⟩) (l.map (Value.int .u8)))
    (hk : Run n w0 S ((d, .string (strOf l)) :: E) H (mix P none ops K rest)) :
    Run n w0 S E H (mix P none ops K (⟨some d, .convert t t2 x, ty, pos, after, none⟩ :: rest)) :=
  r_act (X := []) rfl True.intro fun a w ha hw => by
    have h1 := run_loadCells_list (P := P) w ⟨b, o, none⟩ (l.map (Value.int .u8)) (fun j v hj => by rw [addr_add]; exact (hv w hw).cell hj rfl)
    rw [List.length_map, hl] at h1
    have h2 := run_bytesToString (P := P) w ⟨b, o, none⟩ m c l h1
    have h := hk _ _ (ha.put hd (.string (strOf l))) hw
    have hrun : (convert t t2 (.slice (some ⟨b, o, none⟩) m c)).run P w = .ok (.string (strOf l)) w := by
      simp [convert, run_underlying ht, run_underlying ht2, run_underlying he]
      exact h2
    simp [execOp, ha.ev hx, hrun, actUpon]
    exact ⟨⟨Nat.le_refl _, fun k hk hX => rfl⟩, h⟩
theorem r_neq_string {t t' : TypeId} {a b : ByteArray} {p : Bool} (hd : Nat.blt d n = true) (hx : ev E x = some (.string a)) (hy : ev E y = some (.string b)) (hr : (!(a.toList == b.toList)) = p) (hk : Run n w0 S ((d, .bool p) :: E) H (mix P dr ops K rest)) :
    Run n w0 S E H (mix P dr ops K (⟨some d, .binOp .neq t x y t', ty, pos, after, none⟩ :: rest)) :=
  r_bin hd hx hy (fun w => by simp [eqGuard]) (fun w => by
    subst hr
    simp [binOp, Op.stringOp, Sem.run_pure]) hk
/-- a call of a bound method's value -/
theorem r_callm1 {ι : Type} {f : Operand} {args : List Operand} {tys : Array TypeId} {g : FuncId} {fs vs cs us : List Value} {A : List Res} {v : ι → Value} {A' : ι → List Res} {φ : ι → Prop}
    (hp : H.Perm (A ++ G)) (hf : ev E f = some (.func (.func g) fs.toArray cs.toArray)) (ha : evs E args = some vs) (hu : fs ++ vs ++ cs = us) (hg : callable P g = true) (hd : Nat.blt d n = true)
    (hc : ∀ w, Sat w0 S (A ++ G) w → Sat w (A.filterMap Res.foot) A w → Calls P g us.toArray w fun e w' => ∃ i, e = .returned (v i) ∧ φ i ∧ Sat w (A.filterMap Res.foot) (A' i) w')
    (hk : ∀ i, φ i → Run n w0 S ((d, v i) :: E) (A' i ++ G) (mix P dr ops K rest)) (hok : OkAct dr (some d) (A.filterMap Res.foot) := by first | exact True.intro | (simp [OkAct, dstIn]; done) | (simp [OkAct, dstIn, *]; done)) :
    Run n w0 S E H (mix P dr ops K (⟨some d, .call { callee := .value f, args := args.toArray, argTypes := tys }, ty, pos, after, none⟩ :: rest)) :=
  r_act (X := A.filterMap Res.foot) (by cases dr <;> rfl) hok fun a w ha' hw => by
    have hw' := hw.perm hp
    have hrun : (execOp a.eval ⟨some d, .call { callee := .value f, args := args.toArray, argTypes := tys }, ty, pos, after, none⟩).run P w = .ok (.enter g us.toArray) w := by
      have e1 := ha'.evs ha
      subst hu
      simp [execOp, resolve, ha'.ev hf, Deferred.ofValue, invoke, run_call hg, e1]
    rw [hrun]
    refine (hc w hw' hw'.hand).mono fun e w' ⟨i, he, hφ, hs⟩ => ⟨v i, he, hs.kept, ?_⟩
    refine hk i hφ _ w' (ha'.put hd _) (hw'.call hs fun k hk => ?_)
    obtain ⟨r, hr, hf⟩ := List.mem_filterMap.1 hk
    exact ⟨r, hr, hf⟩
theorem r_callb1 {b : Nat} {o : Obj} {ι : Type} {f : Operand} {args : List Operand} {tys : Array TypeId} {g : FuncId} {fs vs cs us : List Value} {v : ι → Value} {A' : ι → List Res} {φ : ι → Prop} [hb : HasBlk b H o G]
    (hf : ev E f = some (.func (.func g) fs.toArray cs.toArray)) (ha : evs E args = some vs) (hu : fs ++ vs ++ cs = us) (hg : callable P g = true) (hd : Nat.blt d n = true)
    (hc : ∀ w, Sat w0 S H w → Sat w [b] [.blk b o] w → Calls P g us.toArray w fun e w' => ∃ i, e = .returned (v i) ∧ φ i ∧ Sat w [b] (A' i) w')
    (hk : ∀ i, φ i → Run n w0 S ((d, v i) :: E) (A' i ++ G) (mix P dr ops K rest)) (hok : OkAct dr (some d) [b] := by first | exact True.intro | (simp [OkAct, dstIn]; done) | (simp [OkAct, dstIn, *]; done)) :
    Run n w0 S E H (mix P dr ops K (⟨some d, .call { callee := .value f, args := args.toArray, argTypes := tys }, ty, pos, after, none⟩ :: rest)) :=
  r_callm1 (A := [.blk b o]) (G := G) hb.pick.perm hf ha hu hg hd (fun w hw hs => hc w (hw.perm hb.pick.perm.symm) hs) hk hok
end
end
section
open Go Go.RowKit
set_option linter.unusedVariables false
set_option linter.unusedSimpArgs false
set_option maxHeartbeats 2000000
set_option maxRecDepth 4000
attribute [local irreducible] mix

theorem put23G (b o m : Nat) (xs : List Value) (n size : Nat) (hn : n < 2 ^ 64) (hs : size ≤ 8) (hs0 : 0 < size) (hx : m ≤ 70368744177664) (hxl : xs.length = m) (w : World) (hxs : Rd w (some ⟨b, o, none⟩) xs) :
    Calls Try.prog 26 #[.slice (some ⟨b, o, none⟩) m m, .int .u64 (n : Int), .int .i64 (size : Int)] w fun e w' => ∃ i : Option Addr × Nat, e = .returned (.slice i.1 (m + size) i.2) ∧ True ∧ Sat w [] [.own 5 1 (.slice i.1 (m + size) i.2) (m + size) (xs ++ (be size n).map (Value.int .u8))] w' := by
  refine enter Try.func26 rfl rfl rfl ?_
  refine r_seq ?_
  refine r_region ?_
  refine r_assign rfl rfl ?_
  refine r_nil ?_
  refine r_tn ?_
  refine r_seq ?_
  refine r_seq ?_
  refine r_region ?_
  refine r_move rfl rfl ?_
  refine r_move rfl rfl ?_
  refine r_nil ?_
  refine r_tn ?_
  refine r_block ?_
  refine r_loop2 (fun k A2 c2 => match k with | 0 => [(0, .slice (some ⟨b, o, none⟩) m m), (1, .int .u64 (n : Int)), (2, .int .i64 (size : Int)), (8, .int .i64 (size : Int)), (9, .int .i64 ((0 : Nat) : Int))] | k + 1 => [(0, .slice A2 (m + (k + 1)) c2), (1, .int .u64 (n : Int)), (2, .int .i64 (size : Int)), (8, .int .i64 (size : Int)), (9, .int .i64 ((k + 1 : Nat) : Int))]) (fun k A2 c2 => match k with | 0 => [] | k + 1 => [.own 5 1 (.slice A2 (m + (k + 1)) c2) (m + (k + 1)) (xs ++ ((be size n).take (k + 1)).map (Value.int .u8))]) (fun k A2 c2 => k ≤ size) size 0 (none : Option Addr) (0 : Nat) (by omega) ⟨rfl, rfl, rfl, rfl, rfl, trivial⟩ (fun w hw => hw) fun k A2 c2 hk => ?_
  rcases k with _ | k <;> dsimp only
  · refine r_seq ?_
    refine r_region ?_
    refine r_lss rfl rfl rfl rfl ?_
    refine r_nil ?_
    refine r_tn ?_
    refine r_seq ?_
    refine r_cond rfl (fun hc => ?_) (fun hc => ?_)
    · refine r_skip ?_
      refine r_tn ?_
      refine r_seq ?_
      refine r_block ?_
      refine r_seq ?_
      refine r_region ?_
      have hk2 : 0 < size := by have h := of_decide_eq_true hc; omega
      refine r_move rfl rfl ?_
      refine r_assign rfl rfl ?_
      refine r_nil ?_
      refine r_tn ?_
      refine r_region ?_
      refine r_move rfl rfl ?_
      refine r_move rfl rfl ?_
      refine r_move rfl rfl ?_
      refine r_sub rfl rfl rfl (w64 (by omega)) ?_
      refine r_move rfl rfl ?_
      refine r_sub rfl rfl rfl (w64 (by omega)) ?_
      refine r_mul (r := ((8 * (size - 1 - 0) : Nat) : Int)) rfl rfl rfl ((w64 (by omega)).trans (by omega)) ?_
      refine r_shr (r := ((n >>> (8 * (size - 1 - 0)) : Nat) : Int)) rfl rfl rfl (by omega) (shr64 hn _) ?_
      refine r_convert rfl rfl rfl rfl (wrap8 _) ?_
      refine r_lit (sz := 1) (pv := [(0, .int .u8 (((n >>> (8 * (size - 1 - 0))) % 256 : Nat) : Int))]) (cells := #[.int .u8 (((n >>> (8 * (size - 1 - 0))) % 256 : Nat) : Int)]) rfl rfl rfl rfl rfl rfl (by kernel_rfl) rfl (fun b21 => ?_) (by decide)
      refine r_appendG (k := 1) (news := [.int .u8 (((n >>> (8 * (size - 1 - 0))) % 256 : Nat) : Int)]) (xs := xs) (sz := 1) (bytes := 1) rfl rfl rfl rfl rfl rfl (fun w hw => hxs.keep hw) (by omega) (fun w hw => own_rd (A := some ⟨b21, 0, none⟩) (m := 1) (c := 1) hw) rfl (by omega) (Nat.le_refl _) (by omega) (by unfold maxLen; omega) fun A22 c22 => ?_
      refine r_assign rfl rfl ?_
      refine r_nil ?_
      refine r_bn ?_
      refine r_tn ?_
      refine r_region ?_
      refine r_add rfl rfl rfl (w64 (by omega)) ?_
      refine r_move rfl rfl ?_
      refine r_nil ?_
      refine r_tn ?_
      exact r_again2 1 A22 c22 (by omega) (by omega) ⟨rfl, rfl, rfl, rfl, rfl, trivial⟩ (fun w hw => by have h2 : Sat _ _ [.own 5 1 (.slice A22 (m + 1) c22) (m + 1) (xs ++ [Value.int .u8 (((n >>> (8 * (size - 1 - 0))) % 256 : Nat) : Int)])] w := hw.sub; dsimp only; rw [be_take size n 0 hk2, List.take_zero, List.nil_append]; exact h2)
    · refine r_exit ?_
      refine r_te ?_
      refine r_te ?_
      refine r_be ?_
      refine r_tn ?_
      refine r_seq ?_
      refine r_region ?_
      refine r_move rfl rfl ?_
      refine r_assign rfl rfl ?_
      refine r_nil ?_
      refine r_tn ?_
      refine r_ret ?_
      have hk3 := of_decide_eq_false hc
      omega
  · refine r_seq ?_
    refine r_region ?_
    refine r_lss rfl rfl rfl rfl ?_
    refine r_nil ?_
    refine r_tn ?_
    refine r_seq ?_
    refine r_cond rfl (fun hc => ?_) (fun hc => ?_)
    · refine r_skip ?_
      refine r_tn ?_
      refine r_seq ?_
      refine r_block ?_
      refine r_seq ?_
      refine r_region ?_
      have hk2 : (k + 1) < size := by have h := of_decide_eq_true hc; omega
      refine r_move rfl rfl ?_
      refine r_assign rfl rfl ?_
      refine r_nil ?_
      refine r_tn ?_
      refine r_region ?_
      refine r_move rfl rfl ?_
      refine r_move rfl rfl ?_
      refine r_move rfl rfl ?_
      refine r_sub rfl rfl rfl (w64 (by omega)) ?_
      refine r_move rfl rfl ?_
      refine r_sub rfl rfl rfl (w64 (by omega)) ?_
      refine r_mul (r := ((8 * (size - 1 - (k + 1)) : Nat) : Int)) rfl rfl rfl ((w64 (by omega)).trans (by omega)) ?_
      refine r_shr (r := ((n >>> (8 * (size - 1 - (k + 1))) : Nat) : Int)) rfl rfl rfl (by omega) (shr64 hn _) ?_
      refine r_convert rfl rfl rfl rfl (wrap8 _) ?_
      refine r_lit (sz := 1) (pv := [(0, .int .u8 (((n >>> (8 * (size - 1 - (k + 1)))) % 256 : Nat) : Int))]) (cells := #[.int .u8 (((n >>> (8 * (size - 1 - (k + 1)))) % 256 : Nat) : Int)]) rfl rfl rfl rfl rfl rfl (by kernel_rfl) rfl (fun b21 => ?_) (by decide)
      refine r_append (k := 1) (news := [.int .u8 (((n >>> (8 * (size - 1 - (k + 1)))) % 256 : Nat) : Int)]) (sz := 1) (bytes := 1) rfl rfl rfl rfl rfl rfl (by decide) (fun w hw => own_rd (A := some ⟨b21, 0, none⟩) (m := 1) (c := 1) hw) (by first | rfl | simp) (fun u hu => by simp at hu; first | (obtain ⟨x, _, rfl⟩ := hu; rfl) | (subst hu; rfl) | (rcases hu with rfl | rfl <;> rfl)) (by omega) (by unfold maxLen; omega) fun A22 c22 => ?_
      refine r_assign rfl rfl ?_
      refine r_nil ?_
      refine r_bn ?_
      refine r_tn ?_
      refine r_region ?_
      refine r_add rfl rfl rfl (w64 (by omega)) ?_
      refine r_move rfl rfl ?_
      refine r_nil ?_
      refine r_tn ?_
      exact r_again2 ((k + 1) + 1) A22 c22 (by omega) (by omega) ⟨rfl, rfl, rfl, rfl, rfl, trivial⟩ (fun w hw => by have h2 : Sat _ _ [.own 5 1 (.slice A22 (m + (k + 1) + 1) c22) (m + (k + 1) + 1) ((xs ++ ((be size n).take (k + 1)).map (Value.int .u8)) ++ [Value.int .u8 (((n >>> (8 * (size - 1 - (k + 1)))) % 256 : Nat) : Int)])] w := hw.sub; dsimp only; rw [be_take size n (k + 1) hk2, List.map_append, ← List.append_assoc]; exact h2)
    · refine r_exit ?_
      refine r_te ?_
      refine r_te ?_
      refine r_be ?_
      refine r_tn ?_
      refine r_seq ?_
      refine r_region ?_
      refine r_move rfl rfl ?_
      refine r_assign rfl rfl ?_
      refine r_nil ?_
      refine r_tn ?_
      refine r_ret ?_
      have hk3 : k + 1 = size := by have h := of_decide_eq_false hc; omega
      subst hk3
      exact r_done1 (.inl rfl) rfl (res_tmp rfl) fun w hw => ⟨(A2, c2), rfl, trivial, by (try dsimp only at hw); rw [List.take_of_length_le (by rw [be_len]; omega)] at hw; exact hw.sub⟩
end
section
open Go Go.RowKit
set_option linter.unusedVariables false
set_option linter.unusedSimpArgs false
set_option maxHeartbeats 2000000
set_option maxRecDepth 4000
attribute [local irreducible] mix

def rec0 : Rec := ⟨fun _ => noneQ, false, false, List.replicate 16 0, 0, 0, 0, 0, 0⟩
def recsL (l : List Rec) : List Value := l.flatMap recL
theorem recL_len {r : Rec} (h : r.pat.length = 16) : (recL r).length = 535 := by simp [recL, planesL_len, tailL_len h]
theorem recs_at : ∀ {l : List Rec}, (∀ r ∈ l, r.pat.length = 16) → ∀ {i j : Nat} (hi : i < l.length), j < 535 → (recsL l)[i * 535 + j]? = (recL l[i])[j]?
  | [], _, i, j, hi, _ => by simp at hi
  | r :: l, h, 0, j, hi, hj => by
    have hr := recL_len (h r (.head _))
    show (recL r ++ recsL l)[0 * 535 + j]? = _
    rw [List.getElem?_append, if_pos (by omega), Nat.zero_mul, Nat.zero_add]; rfl
  | r :: l, h, i + 1, j, hi, hj => by
    have hr := recL_len (h r (.head _))
    show (recL r ++ recsL l)[(i + 1) * 535 + j]? = _
    rw [List.getElem?_append, if_neg (by omega), hr, show (i + 1) * 535 + j - 535 = i * 535 + j by omega]
    exact recs_at (fun r2 h2 => h r2 (.tail _ h2)) (by simpa using hi) hj
theorem recs_hires {l : List Rec} (h : ∀ r ∈ l, r.pat.length = 16) {i : Nat} (hi : i < l.length) : (recsL l)[i * 535 + 512]? = some (.bool (l[i]).hires) := by
  rw [recs_at h hi (by decide)]
  have h2 := rec_hires l[i]
  unfold recV at h2
  rw [List.getElem?_toArray] at h2
  exact h2
theorem Rd_rec {w : World} {b o : Nat} {l : List Rec} (hA : Rd w (some ⟨b, o, none⟩) (recsL l)) (h : ∀ r ∈ l, r.pat.length = 16) {i : Nat} (hi : i < l.length) : Rd w (some ⟨b, o + i * 535, none⟩) (recL l[i]) := fun j u hj => by
  refine ⟨b, o + i * 535, rfl, ?_⟩
  have hlt : j < 535 := by rw [← recL_len (h l[i] (List.getElem_mem hi))]; exact (List.getElem?_eq_some_iff.1 hj).1
  have := hA.cell ((recs_at h hi hlt).trans hj) rfl
  rw [Nat.add_assoc]; exact this
theorem recV_one (r : Rec) : (recV r).toList.all Value.oneCell' = true := by
  refine List.all_eq_true.2 fun v hv => ?_
  simp only [recV, recL, tailL, planesL, List.mem_append, List.mem_map, List.mem_cons, List.not_mem_nil, or_false] at hv
  rcases hv with ⟨x, _, rfl⟩ | (rfl | rfl) | ⟨x, _, rfl⟩ | rfl | rfl | rfl | rfl | rfl <;> rfl
theorem take_cell {cur : Array Value} {L : List Value} {k : Nat} (h : cur.toList.take k = L) {j : Nat} {u : Value} (hj : L[j]? = some u) : cur[0 + j]? = some u := by
  rw [← h, List.getElem?_take] at hj
  split at hj
  · rw [Nat.zero_add, ← Array.getElem?_toList]; exact hj
  · cases hj
/-- the bytes of the first records -/
def encP (l : List Rec) (i : Nat) : List Int := (l.take i).flatMap encB
theorem encP_succ {l : List Rec} {i : Nat} (hi : i < l.length) : encP l (i + 1) = encP l i ++ encB l[i] := by
  unfold encP
  rw [List.take_add_one, List.flatMap_append, List.getElem?_eq_getElem hi]
  simp
theorem encP_all (l : List Rec) : encP l l.length = l.flatMap encB := by unfold encP; rw [List.take_length]
theorem valid_get {r : Rec} (h : validR r = true) : (0 ≤ r.pc ∧ r.pc < 65536) ∧ (0 ≤ r.cycle ∧ r.cycle ≤ 4611686018427387904) := by
  unfold validR at h
  rw [Bool.and_eq_true] at h
  have h2 := h.2
  unfold statusB at h2
  split at h2
  · cases h2
  · omega


theorem encode23_ok (l : List Rec) (A : Option Addr) (c : Nat) (hok : ∀ r ∈ l, r.pat.length = 16) (hval : ∀ r ∈ l, validR r = true) (hlen : l.length ≤ 1048576) (w : World) (hA : Rd w A (recsL l)) :
    Calls Try.prog 13 #[.slice A l.length c] w fun e w' => ∃ i : Option Addr × Nat, e = .returned (.tuple #[.slice i.1 (8 + (l.flatMap encB).length) i.2, .int .i64 0]) ∧ True ∧ Sat w [] [.own 5 1 (.slice i.1 (8 + (l.flatMap encB).length) i.2) (8 + (l.flatMap encB).length) (([Value.int .u8 67, .int .u8 56, .int .u8 82, .int .u8 49] ++ (be 4 l.length).map (Value.int .u8)) ++ (l.flatMap encB).map (Value.int .u8))] w' := by
  refine enter Try.func13 rfl rfl rfl ?_
  refine r_seq ?_
  refine r_region ?_
  refine r_assign rfl rfl ?_
  refine r_assign rfl rfl ?_
  refine r_nil ?_
  refine r_tn ?_
  refine r_seq ?_
  refine r_seq ?_
  refine r_region ?_
  refine r_move rfl rfl ?_
  refine r_len rfl rfl rfl ?_
  refine r_gtr rfl rfl rfl (decide_eq_false (by omega)) ?_
  refine r_nil ?_
  refine r_tn ?_
  refine r_cond_f rfl ?_
  refine r_skip ?_
  refine r_tn ?_
  refine r_seq ?_
  refine r_region ?_
  refine r_lit (sz := 1) (pv := [(0, .int .u8 (67)), (1, .int .u8 (56)), (2, .int .u8 (82)), (3, .int .u8 (49))]) (cells := #[.int .u8 (67), .int .u8 (56), .int .u8 (82), .int .u8 (49)]) rfl rfl rfl rfl rfl rfl (by kernel_rfl) rfl (fun b10 => ?_) (by decide)
  refine Run.openOwn (.slice (some ⟨b10, 0, none⟩) 4 4) rfl (fun h => by cases h) fun g cur e1 e2 e3 e4 e5 => ?_
  injection e1 with e1
  injection e1 with e1 _ _
  subst e1
  have hcur : ∀ j u, ([Value.int .u8 67, .int .u8 56, .int .u8 82, .int .u8 49])[j]? = some u → cur[0 + j]? = some u := fun j u hj => take_cell e5 hj
  refine r_convConst rfl rfl rfl rfl ?_
  refine r_move rfl rfl ?_
  refine r_len rfl rfl rfl ?_
  refine r_convert (r := ((l.length : Nat) : Int)) rfl rfl rfl rfl ((IntWalk.u64_in _ ⟨by omega, by omega⟩).trans (by omega)) ?_
  refine r_callx rfl rfl rfl (by kernel_rfl) rfl (fun w hw => put23G b10 0 4 [Value.int .u8 67, .int .u8 56, .int .u8 82, .int .u8 49] l.length 4 (by omega) (by decide) (by decide) (by decide) rfl w (Rd.blk (hw.look (HasBlk.pick (b := b10))) hcur)) ?_
  rintro ⟨A15, c15⟩ _
  refine r_assign rfl rfl ?_
  refine r_nil ?_
  refine r_tn ?_
  refine r_seq ?_
  refine r_seq ?_
  refine r_region ?_
  refine r_move rfl rfl ?_
  refine r_len rfl rfl rfl ?_
  refine r_move rfl rfl ?_
  refine r_nil ?_
  refine r_tn ?_
  refine r_block ?_
  refine r_loop2 (fun i A2 c2 => [(4, .slice A2 (8 + (encP l i).length) c2), (16, .slice A l.length c), (17, .int .i64 (l.length : Int)), (18, .int .i64 (i : Int))]) (fun i A2 c2 => [.own 5 1 (.slice A2 (8 + (encP l i).length) c2) (8 + (encP l i).length) (([Value.int .u8 67, .int .u8 56, .int .u8 82, .int .u8 49] ++ (be 4 l.length).map (Value.int .u8)) ++ (encP l i).map (Value.int .u8))]) (fun i A2 c2 => i ≤ l.length ∧ (encP l i).length ≤ 4127 * i ∧ True) l.length 0 A15 c15 ⟨by omega, by simp [encP], trivial⟩ ⟨rfl, rfl, rfl, rfl, trivial⟩ (fun w hw => by rw [show encP l 0 = [] from rfl, List.map_nil, List.append_nil]; exact hw.sub) fun i A2 c2 hi => ?_
  obtain ⟨hi, hle, hvk⟩ := hi
  refine r_seq ?_
  refine r_region ?_
  refine r_lss rfl rfl rfl rfl ?_
  refine r_nil ?_
  refine r_tn ?_
  refine r_seq ?_
  refine r_cond rfl (fun hc => ?_) (fun hc => ?_)
  · refine r_skip ?_
    refine r_tn ?_
    refine r_seq ?_
    refine r_block ?_
    refine r_seq ?_
    refine r_region ?_
    have hi2 : i < l.length := by have h := of_decide_eq_true hc; omega
    clear hc
    have hpi := hok l[i] (List.getElem_mem hi2)
    obtain ⟨ba, oa, rfl, hca⟩ := hA (i * 535 + 512) _ (recs_hires hok hi2)
    have hri := Rd_rec hA hok hi2
    refine r_indexSl (sz := 535) (o' := oa + i * 535) rfl rfl rfl rfl rfl (by omega) (by omega) (by simp) ?_
    refine r_loadRd (vs := recL l[i]) rfl rfl rfl rfl (recV_size hpi) (fun w hw => hri.keep hw) ?_
    refine r_allocV (cs := recV rec0) (by kernel_rfl) rfl fun b6 => ?_
    refine r_storeV rfl rfl rfl (recV_size hpi) (recV_size rfl) (recV_one _) ?_
    refine r_nil ?_
    refine r_tn ?_
    refine r_seq ?_
    refine r_seq ?_
    refine r_region ?_
    refine r_loadV rfl rfl rfl rfl (recV_size hpi) ?_
    have hvi := hval l[i] (List.getElem_mem hi2)
    refine r_call (v := .bool true) rfl rfl rfl (by kernel_rfl) rfl (fun w hw => by have h := valid23 l[i] w hpi; rw [hvi] at h; exact h) ?_
    refine r_not rfl rfl rfl ?_
    refine r_nil ?_
    refine r_tn ?_
    refine r_cond_f rfl ?_
    refine r_skip ?_
    refine r_tn ?_
    refine r_region ?_
    refine r_move rfl rfl ?_
    have hvb := valid_get hvi
    refine r_loadV rfl rfl rfl rfl (recV_size hpi) ?_
    refine r_callo (.slice A2 (8 + (encP l i).length) c2) rfl rfl rfl (by kernel_rfl) rfl (fun w hs => by exact encode23 l[i] A2 (8 + (encP l i).length) c2 (([Value.int .u8 67, .int .u8 56, .int .u8 82, .int .u8 49] ++ (be 4 l.length).map (Value.int .u8)) ++ (encP l i).map (Value.int .u8)) hpi hvb.1 hvb.2 (by omega) w hs) ?_
    rintro ⟨A27, c27⟩ _
    refine r_assign rfl rfl ?_
    refine r_nil ?_
    refine r_bn ?_
    refine r_tn ?_
    refine r_region ?_
    refine r_add rfl rfl rfl (w64 (by omega)) ?_
    refine r_move rfl rfl ?_
    refine r_nil ?_
    refine r_tn ?_
    exact r_again2 (i + 1) A27 c27 ⟨by omega, by rw [encP_succ hi2, List.length_append, encB_len _ hpi]; have := lenB_le (l[i]).P 4; omega, trivial⟩ (by omega) ⟨by rw [encP_succ hi2, List.length_append, ← Nat.add_assoc]; rfl, rfl, rfl, rfl, trivial⟩ (fun w hw => by rw [encP_succ hi2, List.length_append, ← Nat.add_assoc, List.map_append, ← List.append_assoc]; exact hw.sub)
  · refine r_exit ?_
    refine r_te ?_
    refine r_te ?_
    refine r_be ?_
    refine r_tn ?_
    refine r_seq ?_
    refine r_region ?_
    refine r_move rfl rfl ?_
    refine r_assign rfl rfl ?_
    refine r_assign rfl rfl ?_
    refine r_nil ?_
    refine r_tn ?_
    refine r_ret ?_
    have hi3 : i = l.length := by have h := of_decide_eq_false hc; omega
    subst hi3
    exact r_done2 (.inl rfl) rfl (res_tmp rfl) (res_tmp rfl) fun w hw => ⟨(A2, c2), by rw [encP_all], trivial, by rw [encP_all] at hw; exact hw.sub⟩

theorem encode23_bad (l : List Rec) (A : Option Addr) (c : Nat) (hok : ∀ r ∈ l, r.pat.length = 16) (hbad : ¬ ∀ r ∈ l, validR r = true) (hlen : l.length ≤ 1048576) (w : World) (hA : Rd w A (recsL l)) :
    Calls Try.prog 13 #[.slice A l.length c] w fun e w' => e = .returned (.tuple #[.slice none 0 0, .int .i64 5]) ∧ Sat w [] [] w' := by
  refine enter Try.func13 rfl rfl rfl ?_
  refine r_seq ?_
  refine r_region ?_
  refine r_assign rfl rfl ?_
  refine r_assign rfl rfl ?_
  refine r_nil ?_
  refine r_tn ?_
  refine r_seq ?_
  refine r_seq ?_
  refine r_region ?_
  refine r_move rfl rfl ?_
  refine r_len rfl rfl rfl ?_
  refine r_gtr rfl rfl rfl (decide_eq_false (by omega)) ?_
  refine r_nil ?_
  refine r_tn ?_
  refine r_cond_f rfl ?_
  refine r_skip ?_
  refine r_tn ?_
  refine r_seq ?_
  refine r_region ?_
  refine r_lit (sz := 1) (pv := [(0, .int .u8 (67)), (1, .int .u8 (56)), (2, .int .u8 (82)), (3, .int .u8 (49))]) (cells := #[.int .u8 (67), .int .u8 (56), .int .u8 (82), .int .u8 (49)]) rfl rfl rfl rfl rfl rfl (by kernel_rfl) rfl (fun b10 => ?_) (by decide)
  refine Run.openOwn (.slice (some ⟨b10, 0, none⟩) 4 4) rfl (fun h => by cases h) fun g cur e1 e2 e3 e4 e5 => ?_
  injection e1 with e1
  injection e1 with e1 _ _
  subst e1
  have hcur : ∀ j u, ([Value.int .u8 67, .int .u8 56, .int .u8 82, .int .u8 49])[j]? = some u → cur[0 + j]? = some u := fun j u hj => take_cell e5 hj
  refine r_convConst rfl rfl rfl rfl ?_
  refine r_move rfl rfl ?_
  refine r_len rfl rfl rfl ?_
  refine r_convert (r := ((l.length : Nat) : Int)) rfl rfl rfl rfl ((IntWalk.u64_in _ ⟨by omega, by omega⟩).trans (by omega)) ?_
  refine r_callx rfl rfl rfl (by kernel_rfl) rfl (fun w hw => put23G b10 0 4 [Value.int .u8 67, .int .u8 56, .int .u8 82, .int .u8 49] l.length 4 (by omega) (by decide) (by decide) (by decide) rfl w (Rd.blk (hw.look (HasBlk.pick (b := b10))) hcur)) ?_
  rintro ⟨A15, c15⟩ _
  refine r_assign rfl rfl ?_
  refine r_nil ?_
  refine r_tn ?_
  refine r_seq ?_
  refine r_seq ?_
  refine r_region ?_
  refine r_move rfl rfl ?_
  refine r_len rfl rfl rfl ?_
  refine r_move rfl rfl ?_
  refine r_nil ?_
  refine r_tn ?_
  refine r_block ?_
  refine r_loop2 (fun i A2 c2 => [(4, .slice A2 (8 + (encP l i).length) c2), (16, .slice A l.length c), (17, .int .i64 (l.length : Int)), (18, .int .i64 (i : Int))]) (fun i A2 c2 => [.own 5 1 (.slice A2 (8 + (encP l i).length) c2) (8 + (encP l i).length) (([Value.int .u8 67, .int .u8 56, .int .u8 82, .int .u8 49] ++ (be 4 l.length).map (Value.int .u8)) ++ (encP l i).map (Value.int .u8))]) (fun i A2 c2 => i ≤ l.length ∧ (encP l i).length ≤ 4127 * i ∧ ∀ j (hj : j < i), ∀ (h2 : j < l.length), validR (l[j]'h2) = true) l.length 0 A15 c15 ⟨by omega, by simp [encP], fun j hj => by omega⟩ ⟨rfl, rfl, rfl, rfl, trivial⟩ (fun w hw => by rw [show encP l 0 = [] from rfl, List.map_nil, List.append_nil]; exact hw.sub) fun i A2 c2 hi => ?_
  obtain ⟨hi, hle, hvk⟩ := hi
  refine r_seq ?_
  refine r_region ?_
  refine r_lss rfl rfl rfl rfl ?_
  refine r_nil ?_
  refine r_tn ?_
  refine r_seq ?_
  refine r_cond rfl (fun hc => ?_) (fun hc => ?_)
  · refine r_skip ?_
    refine r_tn ?_
    refine r_seq ?_
    refine r_block ?_
    refine r_seq ?_
    refine r_region ?_
    have hi2 : i < l.length := by have h := of_decide_eq_true hc; omega
    clear hc
    have hpi := hok l[i] (List.getElem_mem hi2)
    obtain ⟨ba, oa, rfl, hca⟩ := hA (i * 535 + 512) _ (recs_hires hok hi2)
    have hri := Rd_rec hA hok hi2
    refine r_indexSl (sz := 535) (o' := oa + i * 535) rfl rfl rfl rfl rfl (by omega) (by omega) (by simp) ?_
    refine r_loadRd (vs := recL l[i]) rfl rfl rfl rfl (recV_size hpi) (fun w hw => hri.keep hw) ?_
    refine r_allocV (cs := recV rec0) (by kernel_rfl) rfl fun b6 => ?_
    refine r_storeV rfl rfl rfl (recV_size hpi) (recV_size rfl) (recV_one _) ?_
    refine r_nil ?_
    refine r_tn ?_
    refine r_seq ?_
    refine r_seq ?_
    refine r_region ?_
    refine r_loadV rfl rfl rfl rfl (recV_size hpi) ?_
    refine r_call rfl rfl rfl (by kernel_rfl) rfl (fun w hw => by exact valid23 l[i] w hpi) ?_
    refine r_not rfl rfl rfl ?_
    refine r_nil ?_
    refine r_tn ?_
    refine r_cond rfl (fun hc => ?_) (fun hc => ?_)
    · refine r_seq ?_
      refine r_region ?_
      refine r_assign rfl rfl ?_
      refine r_assign rfl rfl ?_
      refine r_nil ?_
      refine r_tn ?_
      refine r_ret ?_
      refine r_tr ?_
      refine r_br ?_
      refine r_tr ?_
      refine r_tr ?_
      refine r_br ?_
      refine r_tr ?_
      exact r_done2 (.inl rfl) rfl (res_tmp rfl) (res_tmp rfl) fun w hw => ⟨rfl, hw.clear⟩
    · refine r_skip ?_
      refine r_tn ?_
      refine r_region ?_
      refine r_move rfl rfl ?_
      have hvi : validR l[i] = true := by simpa using hc
      have hvb := valid_get hvi
      refine r_loadV rfl rfl rfl rfl (recV_size hpi) ?_
      refine r_callo (.slice A2 (8 + (encP l i).length) c2) rfl rfl rfl (by kernel_rfl) rfl (fun w hs => by exact encode23 l[i] A2 (8 + (encP l i).length) c2 (([Value.int .u8 67, .int .u8 56, .int .u8 82, .int .u8 49] ++ (be 4 l.length).map (Value.int .u8)) ++ (encP l i).map (Value.int .u8)) hpi hvb.1 hvb.2 (by omega) w hs) ?_
      rintro ⟨A27, c27⟩ _
      refine r_assign rfl rfl ?_
      refine r_nil ?_
      refine r_bn ?_
      refine r_tn ?_
      refine r_region ?_
      refine r_add rfl rfl rfl (w64 (by omega)) ?_
      refine r_move rfl rfl ?_
      refine r_nil ?_
      refine r_tn ?_
      exact r_again2 (i + 1) A27 c27 ⟨by omega, by rw [encP_succ hi2, List.length_append, encB_len _ hpi]; have := lenB_le (l[i]).P 4; omega, fun j hj h2 => if e : j = i then by subst e; exact hvi else hvk j (by omega) h2⟩ (by omega) ⟨by rw [encP_succ hi2, List.length_append, ← Nat.add_assoc]; rfl, rfl, rfl, rfl, trivial⟩ (fun w hw => by rw [encP_succ hi2, List.length_append, ← Nat.add_assoc, List.map_append, ← List.append_assoc]; exact hw.sub)
  · refine r_exit ?_
    refine r_te ?_
    refine r_te ?_
    refine r_be ?_
    refine r_tn ?_
    refine r_seq ?_
    refine r_region ?_
    refine r_move rfl rfl ?_
    refine r_assign rfl rfl ?_
    refine r_assign rfl rfl ?_
    refine r_nil ?_
    refine r_tn ?_
    refine r_ret ?_
    have hi3 : i = l.length := by have h := of_decide_eq_false hc; omega
    exfalso
    exact hbad (fun r hr => by obtain ⟨j, hj, rfl⟩ := List.getElem_of_mem hr; exact hvk j (by omega) hj)
end
end Go.Proofs.Ytgicjkjppnkodaa
