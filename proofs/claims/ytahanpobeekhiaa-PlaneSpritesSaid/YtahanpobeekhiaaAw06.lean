/-
  Rows of pixels (chapter 06): the fixed examples hold; words of the laws.
-/
import Derived.Test.YtahanpobeekhiaaRefB06
namespace Go.Proofs.Ytahanpobeekhiaa
open Go Go.RowKit
set_option linter.unusedVariables false
set_option linter.unusedSimpArgs false
set_option maxHeartbeats 2000000

def cutP (p : Nat → Bool) (wide : Bool) (x : Nat) : Bool := decide (x < wd wide) && p x
theorem cut_all (p : Nat → Bool) : rowV p = rowV (cutP p true) := rowV_congr fun x hx => by
  have h : x < wd true := hx
  simp [cutP, h]
theorem cut_hi (p : Nat → Bool) : #[Value.int .u64 ((hiN p : Nat) : Int), .int .u64 0] = rowV (cutP p false) := by
  unfold rowV
  have e1 : hiN p = hiN (cutP p false) := num_congr fun i hi => by
    have h : 63 - i < wd false := by show 63 - i < 64; omega
    simp [cutP, h]
  have e2 : loN (cutP p false) = 0 := (num_congr fun i hi => by
    have h : ¬ 127 - i < wd false := by show ¬ 127 - i < 64; omega
    show cutP p false (127 - i) = (fun _ => false) i
    simp [cutP, h]).trans (num_zero 64)
  rw [← e1, e2]; rfl
theorem cut_out {p : Nat → Bool} {wide : Bool} {x : Nat} (h : wd wide ≤ x) : cutP p wide x = false := by
  unfold cutP; rw [decide_eq_false (by omega)]; rfl
theorem eqB_self (p : Nat → Bool) : eqB p p = true := (eqB_iff p p).2 fun _ _ => rfl
theorem row_self (p : Nat → Bool) : cellsEq (rowV p).toList (rowV p).toList = true := (row_eq p p).trans (eqB_self p)
theorem wfU {n : Int} (h : (Lit.int .u64 n).wf = true) : 0 ≤ n ∧ n < 18446744073709551616 := by
  have h2 := h
  simp only [Lit.wf, Bool.and_eq_true, decide_eq_true_eq] at h2
  rw [show IntKind.u64.min = 0 from by rfl, show IntKind.u64.max = 18446744073709551615 from by rfl] at h2
  omega
theorem wfu8 {n : Int} (h : (Lit.int .u8 n).wf = true) : 0 ≤ n ∧ n ≤ 255 := by
  have h2 := h
  simp only [Lit.wf, Bool.and_eq_true, decide_eq_true_eq] at h2
  rw [show IntKind.u8.min = 0 from by rfl, show IntKind.u8.max = 255 from by rfl] at h2
  exact h2
theorem wfi8 {n : Int} (h : (Lit.int .i8 n).wf = true) : -128 ≤ n ∧ n ≤ 127 := by
  have h2 := h
  simp only [Lit.wf, Bool.and_eq_true, decide_eq_true_eq] at h2
  rw [show IntKind.i8.min = -128 from by rfl, show IntKind.i8.max = 127 from by rfl] at h2
  exact h2
theorem wfu16 {n : Int} (h : (Lit.int .u16 n).wf = true) : 0 ≤ n ∧ n ≤ 65535 := by
  have h2 := h
  simp only [Lit.wf, Bool.and_eq_true, decide_eq_true_eq] at h2
  rw [show IntKind.u16.min = 0 from by rfl, show IntKind.u16.max = 65535 from by rfl] at h2
  exact h2
theorem wfi64 {n : Int} (h : (Lit.int .i64 n).wf = true) : -9223372036854775808 ≤ n ∧ n ≤ 9223372036854775807 := by
  have h2 := h
  simp only [Lit.wf, Bool.and_eq_true, decide_eq_true_eq] at h2
  rw [show IntKind.i64.min = -9223372036854775808 from by rfl, show IntKind.i64.max = 9223372036854775807 from by rfl] at h2
  exact h2
/-- two words are a row -/
theorem row_of {a b : Int} (ha : 0 ≤ a ∧ a < 18446744073709551616) (hb : 0 ≤ b ∧ b < 18446744073709551616) : ∃ p : Nat → Bool, a = ((hiN p : Nat) : Int) ∧ b = ((loN p : Nat) : Int) := by
  obtain ⟨x, rfl⟩ := Int.eq_ofNat_of_zero_le ha.1
  obtain ⟨y, rfl⟩ := Int.eq_ofNat_of_zero_le hb.1
  refine ⟨fun i => if i < 64 then x.testBit (63 - i) else y.testBit (127 - i), ?_, ?_⟩
  · congr 1
    refine num_ext (show x < 2 ^ 64 by omega) fun i hi => ?_
    have h : 63 - i < 64 := by omega
    simp only [h, if_true]; congr 1; omega
  · congr 1
    refine num_ext (show y < 2 ^ 64 by omega) fun i hi => ?_
    have h : ¬ 127 - i < 64 := by omega
    simp only [h, if_false]; congr 1; omega
theorem bools_blt {w : World} {b : Nat} {f : Nat → Bool} (hr : Rd w (some ⟨b, 0, none⟩) (boolsN 128 f)) : b < w.heap.size := World.block_lt_of_cell? w _ (hr.cell (boolsN_at f (show 0 < 128 by decide)) rfl)
theorem set_get {p : Nat → Bool} {x : Int} {on : Bool} (h : 0 ≤ x ∧ x < 128) : getB (setP p x on) x = on := by
  have e : ((x.toNat : Nat) : Int) = x := by omega
  simp [getB, setP, e, h.1, h.2]
theorem getB_nat (p : Nat → Bool) {k : Nat} (h : k < 128) : getB p (k : Int) = p k := by
  have h1 : (k : Int) < 128 := by omega
  simp [getB, h1]

theorem make06 (p : Nat → Bool) (wide : Bool) (w : World) :
    Calls Try.prog 15 #[.int .u64 ((hiN p : Nat) : Int), .int .u64 ((loN p : Nat) : Int), .bool wide] w fun e w' => e = .returned (.agg (rowV (cutP p wide))) ∧ Sat w [] [] w' := by
  cases wide
  · refine enter Try.func15 rfl rfl rfl ?_
    refine r_seq ?_
    refine r_region ?_
    refine r_allocV (cs := #[.int .u64 0, .int .u64 0]) rfl rfl fun b6 => ?_
    refine r_nil ?_
    refine r_tn ?_
    refine r_seq ?_
    refine r_seq ?_
    refine r_region ?_
    refine r_move rfl rfl ?_
    refine r_nil ?_
    refine r_tn ?_
    refine r_cond_f rfl ?_
    refine r_skip ?_
    refine r_tn ?_
    refine r_seq ?_
    refine r_region ?_
    refine r_move rfl rfl ?_
    refine r_build (cells := #[.int .u64 ((hiN p : Nat) : Int), .int .u64 0]) rfl rfl (by kernel_rfl) ?_
    rw [cut_hi p]
    refine r_storeV rfl rfl rfl rfl rfl rfl ?_
    refine r_nil ?_
    refine r_tn ?_
    refine r_ret ?_
    exact r_done1 (.inl rfl) rfl (res_cellV rfl rfl rfl rfl) fun w hw => ⟨rfl, hw.clear⟩
  · refine enter Try.func15 rfl rfl rfl ?_
    refine r_seq ?_
    refine r_region ?_
    refine r_allocV (cs := #[.int .u64 0, .int .u64 0]) rfl rfl fun b6 => ?_
    refine r_nil ?_
    refine r_tn ?_
    refine r_seq ?_
    refine r_seq ?_
    refine r_region ?_
    refine r_move rfl rfl ?_
    refine r_nil ?_
    refine r_tn ?_
    refine r_cond_t rfl ?_
    refine r_seq ?_
    refine r_region ?_
    refine r_move rfl rfl ?_
    refine r_move rfl rfl ?_
    refine r_build (cells := rowV p) rfl rfl (by kernel_rfl) ?_
    rw [cut_all p]
    refine r_storeV rfl rfl rfl rfl rfl rfl ?_
    refine r_nil ?_
    refine r_tn ?_
    refine r_ret ?_
    refine r_tr ?_
    exact r_done1 (.inl rfl) rfl (res_cellV rfl rfl rfl rfl) fun w hw => ⟨rfl, hw.clear⟩
theorem width06 (wide : Bool) (w : World) :
    Calls Try.prog 17 #[.bool wide] w fun e w' => e = .returned (.int .i64 (wd wide : Nat)) ∧ Sat w [] [] w' := by
  cases wide
  · refine enter Try.func17 rfl rfl rfl ?_
    refine r_seq ?_
    refine r_region ?_
    refine r_assign rfl rfl ?_
    refine r_nil ?_
    refine r_tn ?_
    refine r_seq ?_
    refine r_seq ?_
    refine r_region ?_
    refine r_move rfl rfl ?_
    refine r_nil ?_
    refine r_tn ?_
    refine r_cond_f rfl ?_
    refine r_skip ?_
    refine r_tn ?_
    refine r_seq ?_
    refine r_region ?_
    refine r_assign rfl rfl ?_
    refine r_nil ?_
    refine r_tn ?_
    refine r_ret ?_
    exact r_done1 (.inl rfl) rfl (res_tmp rfl) fun w hw => ⟨rfl, hw.clear⟩
  · refine enter Try.func17 rfl rfl rfl ?_
    refine r_seq ?_
    refine r_region ?_
    refine r_assign rfl rfl ?_
    refine r_nil ?_
    refine r_tn ?_
    refine r_seq ?_
    refine r_seq ?_
    refine r_region ?_
    refine r_move rfl rfl ?_
    refine r_nil ?_
    refine r_tn ?_
    refine r_cond_t rfl ?_
    refine r_seq ?_
    refine r_region ?_
    refine r_assign rfl rfl ?_
    refine r_nil ?_
    refine r_tn ?_
    refine r_ret ?_
    refine r_tr ?_
    exact r_done1 (.inl rfl) rfl (res_tmp rfl) fun w hw => ⟨rfl, hw.clear⟩

theorem awake06 (w : World) :
    Calls Try.prog 14 #[] w fun e w' => e = .returned (.bool true) ∧ Sat w [] [] w' := by
  refine enter Try.func14 rfl rfl rfl ?_
  refine r_seq ?_
  refine r_region ?_
  refine r_assign rfl rfl ?_
  refine r_nil ?_
  refine r_tn ?_
  refine r_seq ?_
  refine r_region ?_
  refine r_call rfl rfl rfl (by kernel_rfl) rfl (fun w hw => by exact rowSprite 128 8 63 64 false w (by decide) (by decide) (by decide) (by decide)) ?_
  refine r_allocV (cs := #[.int .u64 0, .int .u64 0]) rfl rfl fun b1 => ?_
  refine r_storeV rfl rfl rfl rfl rfl rfl ?_
  refine r_nil ?_
  refine r_tn ?_
  refine r_seq ?_
  refine r_region ?_
  refine r_call rfl rfl rfl (by kernel_rfl) rfl (fun w hw => by exact rowSprite 192 8 63 64 false w (by decide) (by decide) (by decide) (by decide)) ?_
  refine r_allocV (cs := #[.int .u64 0, .int .u64 0]) rfl rfl fun b2 => ?_
  refine r_storeV rfl rfl rfl rfl rfl rfl ?_
  refine r_nil ?_
  refine r_tn ?_
  refine r_seq ?_
  refine r_region ?_
  refine r_call rfl rfl rfl (by kernel_rfl) rfl (fun w hw => by exact rowSprite 192 8 63 64 true w (by decide) (by decide) (by decide) (by decide)) ?_
  refine r_allocV (cs := #[.int .u64 0, .int .u64 0]) rfl rfl fun b3 => ?_
  refine r_storeV rfl rfl rfl rfl rfl rfl ?_
  refine r_nil ?_
  refine r_tn ?_
  refine r_seq ?_
  refine r_region ?_
  refine r_loadV rfl rfl rfl rfl rfl ?_
  refine r_build (cells := rowV ((sprK 128 8 63 64 false 8))) rfl rfl (by kernel_rfl) ?_
  refine r_eqlAgg rfl rfl rfl rowFlat (rowV_ok _) (rowV_ok _) (row_self _) ?_
  refine r_move rfl rfl ?_
  refine r_go rfl rfl ?_
  refine r_loadV rfl rfl rfl rfl rfl ?_
  refine r_go rfl rfl ?_
  refine r_build (cells := rowV ((sprK 192 8 63 64 false 8))) rfl rfl (by kernel_rfl) ?_
  refine r_go rfl rfl ?_
  refine r_eqlAgg rfl rfl rfl rowFlat (rowV_ok _) (rowV_ok _) (row_self _) ?_
  refine r_pick_t rfl rfl rfl ?_
  refine r_move rfl rfl ?_
  refine r_go rfl rfl ?_
  refine r_loadV rfl rfl rfl rfl rfl ?_
  refine r_go rfl rfl ?_
  refine r_loadV rfl rfl rfl rfl rfl ?_
  refine r_go rfl rfl ?_
  refine r_eqlAgg (p := true) rfl rfl rfl rowFlat (rowV_ok _) (rowV_ok _) (by kernel_rfl) ?_
  refine r_pick_t rfl rfl rfl ?_
  refine r_move rfl rfl ?_
  refine r_go rfl rfl ?_
  refine r_loadV rfl rfl rfl rfl rfl ?_
  refine r_go rfl rfl ?_
  refine r_call (v := .bool true) rfl rfl rfl (by kernel_rfl) rfl (fun w hw => by have h := rowGet (sprK 128 8 63 64 false 8) 63 w; rw [show (getB (sprK 128 8 63 64 false 8) 63) = true from by kernel_rfl] at h; exact h) ?_
  refine r_pick_t rfl rfl rfl ?_
  refine r_move rfl rfl ?_
  refine r_go rfl rfl ?_
  refine r_loadV rfl rfl rfl rfl rfl ?_
  refine r_go rfl rfl ?_
  refine r_call (v := .bool false) rfl rfl rfl (by kernel_rfl) rfl (fun w hw => by have h := rowGet (sprK 128 8 63 64 false 8) 62 w; rw [show (getB (sprK 128 8 63 64 false 8) 62) = false from by kernel_rfl] at h; exact h) ?_
  refine r_go rfl rfl ?_
  refine r_not rfl rfl rfl ?_
  refine r_pick_t rfl rfl rfl ?_
  refine r_move rfl rfl ?_
  refine r_go rfl rfl ?_
  refine r_loadV rfl rfl rfl rfl rfl ?_
  refine r_go rfl rfl ?_
  refine r_call rfl rfl rfl (by kernel_rfl) rfl (fun w hw => by exact rowShift (sprK 128 8 63 64 false 8) 1 false w (by decide)) ?_
  refine r_go rfl rfl ?_
  refine r_build (cells := rowV (shiftP (sprK 128 8 63 64 false 8) 1 false)) rfl rfl (by kernel_rfl) ?_
  refine r_go rfl rfl ?_
  refine r_eqlAgg rfl rfl rfl rowFlat (rowV_ok _) (rowV_ok _) (row_self _) ?_
  refine r_pick_t rfl rfl rfl ?_
  refine r_move rfl rfl ?_
  refine r_go rfl rfl ?_
  refine r_loadV rfl rfl rfl rfl rfl ?_
  refine r_go rfl rfl ?_
  refine r_call rfl rfl rfl (by kernel_rfl) rfl (fun w hw => by exact rowShift (sprK 128 8 63 64 false 8) 1 true w (by decide)) ?_
  refine r_go rfl rfl ?_
  refine r_build (cells := rowV (shiftP (sprK 128 8 63 64 false 8) 1 true)) rfl rfl (by kernel_rfl) ?_
  refine r_go rfl rfl ?_
  refine r_eqlAgg rfl rfl rfl rowFlat (rowV_ok _) (rowV_ok _) (row_self _) ?_
  refine r_pick_t rfl rfl rfl ?_
  refine r_move rfl rfl ?_
  refine r_go rfl rfl ?_
  refine r_loadV rfl rfl rfl rfl rfl ?_
  refine r_go rfl rfl ?_
  refine r_call rfl rfl rfl (by kernel_rfl) rfl (fun w hw => by exact rowShift (sprK 128 8 63 64 false 8) (-63) false w (by decide)) ?_
  refine r_go rfl rfl ?_
  refine r_build (cells := rowV (shiftP (sprK 128 8 63 64 false 8) (-63) false)) rfl rfl (by kernel_rfl) ?_
  refine r_go rfl rfl ?_
  refine r_eqlAgg rfl rfl rfl rowFlat (rowV_ok _) (rowV_ok _) (row_self _) ?_
  refine r_pick_t rfl rfl rfl ?_
  refine r_move rfl rfl ?_
  refine r_go rfl rfl ?_
  refine r_loadV rfl rfl rfl rfl rfl ?_
  refine r_go rfl rfl ?_
  refine r_call rfl rfl rfl (by kernel_rfl) rfl (fun w hw => by exact rowCount (sprK 192 8 63 64 false 8) w) ?_
  refine r_go rfl rfl ?_
  refine r_eql rfl rfl rfl (show decide (((cnt (sprK 192 8 63 64 false 8) 128 : Nat) : Int) = 2) = true from by kernel_rfl) ?_
  refine r_pick_t rfl rfl rfl ?_
  refine r_move rfl rfl ?_
  refine r_go rfl rfl ?_
  refine r_build (cells := rowV (noneP)) rfl rfl (by kernel_rfl) ?_
  refine r_go rfl rfl ?_
  refine r_call (v := .bool true) rfl rfl rfl (by kernel_rfl) rfl (fun w hw => by have h := rowEmpty noneP w; rw [show (eqB noneP noneP) = true from by kernel_rfl] at h; exact h) ?_
  refine r_pick_t rfl rfl rfl ?_
  refine r_assign rfl rfl ?_
  refine r_nil ?_
  refine r_tn ?_
  refine r_ret ?_
  exact r_done1 (.inl rfl) rfl (res_tmp rfl) fun w hw => ⟨rfl, hw.clear⟩
end Go.Proofs.Ytahanpobeekhiaa
