/-
  RowMatchesReference: rows answer as the reference answers.
-/
import Derived.Test.YtahanpobeekhiaaAw06
namespace Go.Proofs.Ytahanpobeekhiaa
open Go Go.RowKit
set_option linter.unusedVariables false
set_option linter.unusedSimpArgs false
set_option maxHeartbeats 2000000
attribute [local irreducible] mix

/-- the position that a law takes for a number -/
def AtOf (wide : Bool) (x : Int) (at_ : Nat) : Prop := (if 0 > (if ((wd wide : Nat) : Int) - 1 < x then ((wd wide : Nat) : Int) - 1 else x) then 0 else (if ((wd wide : Nat) : Int) - 1 < x then ((wd wide : Nat) : Int) - 1 else x)) = (at_ : Int)
theorem get_in {p : Nat → Bool} {x : Int} (h : 0 ≤ x ∧ x < 128) : getB p x = p x.toNat := by simp [getB, h.1, h.2]
theorem get_out {p : Nat → Bool} {x : Int} (h : ¬ (0 ≤ x ∧ x < 128)) : getB p x = false := by
  unfold getB
  by_cases h0 : 0 ≤ x
  · rw [decide_eq_false (show ¬ x < 128 by omega)]; simp
  · rw [decide_eq_false h0]; simp
theorem cnt_no {b : Nat → Bool} {m : Nat} (h : b m = false) : cnt b (m + 1) = cnt b m := by simp [cnt, h]
theorem cnt_yes {b : Nat → Bool} {m : Nat} (h : b m = true) : cnt b (m + 1) = cnt b m + 1 := by simp [cnt, h]
theorem cnt_none {b : Nat → Bool} : ∀ {m : Nat}, cnt b m = 0 → ∀ x, x < m → b x = false
  | 0, _, x, hx => by omega
  | m + 1, h, x, hx => by
    simp only [cnt] at h
    by_cases e : x = m
    · subst e
      cases hb : b x with
      | false => rfl
      | true => rw [hb] at h; simp at h
    · exact cnt_none (m := m) (by omega) x (by omega)
theorem cnt_off {b : Nat → Bool} : ∀ {m : Nat}, (∀ x, x < m → b x = false) → cnt b m = 0
  | 0, _ => rfl
  | m + 1, h => by simp only [cnt]; rw [cnt_off fun x hx => h x (by omega), h m (by omega)]; rfl
theorem cnt_zero (q : Nat → Bool) : (eqB q noneP == decide (((cnt q 128 : Nat) : Int) = 0)) = true := by
  by_cases h : cnt q 128 = 0
  · rw [h, show eqB q noneP = true from (eqB_iff _ _).2 fun x hx => cnt_none h x hx]; rfl
  · have h2 : eqB q noneP = false := Bool.eq_false_iff.2 fun h3 => h (cnt_off ((eqB_iff _ _).1 h3))
    rw [h2, decide_eq_false (show ¬ ((cnt q 128 : Nat) : Int) = 0 by omega)]; rfl


theorem match06_in16 (p : Nat → Bool) (wide : Bool) (x n : Int) (bits at_ : Nat) (W : World) (hx : 0 ≤ x ∧ x ≤ 127) (hn : -128 ≤ n ∧ n ≤ 127) (hb : bits < 65536) (hlt : at_ < wd wide) (hat : AtOf wide x at_) :
    Calls Try.prog 3 #[.int .u64 ((hiN p : Nat) : Int), .int .u64 ((loN p : Nat) : Int), .bool wide, .int .i64 x, .int .i8 n, .int .u16 (bits : Int), .bool true] W fun e w' => e = .returned (.bool true) ∧ Sat W [] [] w' := by
  have h128 : wd wide ≤ 128 := by cases wide <;> decide
  have h64 : 64 ≤ wd wide := by cases wide <;> decide
  refine enter Try.func3 rfl rfl rfl ?_
  refine r_seq ?_
  refine r_region ?_
  refine r_assign rfl rfl ?_
  refine r_nil ?_
  refine r_tn ?_
  refine r_seq ?_
  refine r_seq ?_
  refine r_region ?_
  refine r_call rfl rfl rfl (by kernel_rfl) rfl (fun w hw => by exact awake06 w) ?_
  refine r_not rfl rfl rfl ?_
  refine r_nil ?_
  refine r_tn ?_
  refine r_cond_f rfl ?_
  refine r_skip ?_
  refine r_tn ?_
  refine r_seq ?_
  refine r_region ?_
  refine r_move rfl rfl ?_
  refine r_move rfl rfl ?_
  refine r_move rfl rfl ?_
  refine r_call rfl rfl rfl (by kernel_rfl) rfl (fun w hw => by exact make06 p wide w) ?_
  refine r_allocV (cs := #[.int .u64 0, .int .u64 0]) rfl rfl fun b15 => ?_
  refine r_storeV rfl rfl rfl rfl rfl rfl ?_
  refine r_nil ?_
  refine r_tn ?_
  refine r_seq ?_
  refine r_region ?_
  refine r_loadV rfl rfl rfl rfl rfl ?_
  refine r_callx rfl rfl rfl (by kernel_rfl) rfl (fun w hw => lawPixels (cutP p wide) w) ?_
  rintro b31 _
  refine r_assign rfl rfl ?_
  refine r_nil ?_
  refine r_tn ?_
  refine r_seq ?_
  refine r_region ?_
  refine r_move rfl rfl ?_
  refine r_call rfl rfl rfl (by kernel_rfl) rfl (fun w hw => by exact width06 wide w) ?_
  refine r_assign rfl rfl ?_
  refine r_nil ?_
  refine r_tn ?_
  refine r_seq ?_
  refine r_region ?_
  refine r_move rfl rfl ?_
  refine r_geq rfl rfl rfl (decide_eq_true (by omega)) ?_
  refine r_move rfl rfl ?_
  refine r_go rfl rfl ?_
  refine r_move rfl rfl ?_
  refine r_go rfl rfl ?_
  refine r_leq rfl rfl rfl (decide_eq_true (by omega)) ?_
  refine r_pick_t rfl rfl rfl ?_
  refine r_move rfl rfl ?_
  refine r_go rfl rfl ?_
  refine r_move rfl rfl ?_
  refine r_go rfl rfl ?_
  refine r_move rfl rfl ?_
  refine r_go rfl rfl ?_
  refine r_min (r := x) rfl rfl rfl (if_neg (by omega)) ?_
  refine r_go rfl rfl ?_
  refine r_max (r := x) rfl rfl rfl (if_neg (by omega)) ?_
  refine r_go rfl rfl ?_
  refine r_indexSl (sz := 1) (o' := x.toNat) rfl rfl rfl rfl rfl (by omega) (by omega) (by first | (simp; done) | (simp; omega) | omega) ?_
  refine r_go rfl rfl ?_
  refine r_loadC (p := ⟨b31, x.toNat, none⟩) rfl rfl rfl (fun w hw => ((own_rd (A := some ⟨b31, 0, none⟩) (m := 128) (c := 128) hw).cell (boolsN_at (cutP p wide) (show x.toNat < 128 by omega)) rfl) |> fun h => by simpa using h) ?_
  refine r_pick_t rfl rfl rfl ?_
  refine r_assign rfl rfl ?_
  refine r_nil ?_
  refine r_tn ?_
  refine r_seq ?_
  refine r_seq ?_
  refine r_region ?_
  refine r_loadV rfl rfl rfl rfl rfl ?_
  refine r_move rfl rfl ?_
  refine r_call (v := .bool (cutP p wide x.toNat)) rfl rfl rfl (by kernel_rfl) rfl (fun w hw => by have h := rowGet (cutP p wide) x w; rw [get_in (p := (cutP p wide)) (x := x) (by omega)] at h; exact h) ?_
  refine r_move rfl rfl ?_
  refine r_neq_bool (p := false) rfl rfl rfl rfl (by simp) ?_
  refine r_move rfl rfl ?_
  refine r_go rfl rfl ?_
  refine r_loadV rfl rfl rfl rfl rfl ?_
  refine r_go rfl rfl ?_
  refine r_move rfl rfl ?_
  refine r_go rfl rfl ?_
  refine r_convert rfl rfl rfl rfl (w64 (by omega)) ?_
  refine r_go rfl rfl ?_
  refine r_move rfl rfl ?_
  refine r_go rfl rfl ?_
  refine r_call rfl rfl rfl (by kernel_rfl) rfl (fun w hw => by exact rowShift (cutP p wide) n wide w (by omega)) ?_
  refine r_go rfl rfl ?_
  refine r_callx rfl rfl rfl (by kernel_rfl) rfl (fun w hw => lawPixels (shiftP (cutP p wide) n wide) w) ?_
  rintro b59 _
  refine r_go rfl rfl ?_
  refine r_move rfl rfl ?_
  refine r_go rfl rfl ?_
  refine r_move rfl rfl ?_
  refine r_go rfl rfl ?_
  refine r_convert rfl rfl rfl rfl (w64 (by omega)) ?_
  refine r_go rfl rfl ?_
  refine r_move rfl rfl ?_
  refine r_go rfl rfl ?_
  refine r_callx rfl rfl rfl (by kernel_rfl) rfl (fun w hw => refShift (cutP p wide) n wide b31 128 w (own_rd (A := some ⟨b31, 0, none⟩) (m := 128) (c := 128) hw) (by omega) (fun y hy _ => cut_out hy)) ?_
  rintro b64 _
  refine r_go rfl rfl ?_
  refine r_call (v := .bool true) rfl rfl rfl (by kernel_rfl) rfl (fun w hw => by have h := refSame (shiftP (cutP p wide) n wide) (shiftP (cutP p wide) n wide) b59 b64 128 128 w (own_rd (A := some ⟨b59, 0, none⟩) (m := 128) (c := 128) hw) (own_rd (A := some ⟨b64, 0, none⟩) (m := 128) (c := 128) hw); rw [show (eqB (shiftP (cutP p wide) n wide) (shiftP (cutP p wide) n wide)) = true from eqB_self _] at h; exact h) ?_
  refine r_go rfl rfl ?_
  refine r_not rfl rfl rfl ?_
  refine r_pick_f rfl rfl rfl ?_
  refine r_nil ?_
  refine r_tn ?_
  refine r_cond_f rfl ?_
  refine r_skip ?_
  refine r_tn ?_
  refine r_seq ?_
  refine r_region ?_
  refine r_assign rfl rfl ?_
  refine r_nil ?_
  refine r_tn ?_
  refine r_seq ?_
  refine r_seq ?_
  refine r_region ?_
  refine r_move rfl rfl ?_
  refine r_nil ?_
  refine r_tn ?_
  refine r_cond_t rfl ?_
  refine r_region ?_
  refine r_assign rfl rfl ?_
  refine r_nil ?_
  refine r_tn ?_
  refine r_seq ?_
  refine r_region ?_
  refine r_move rfl rfl ?_
  refine r_move rfl rfl ?_
  refine r_sub rfl rfl rfl (w64 (by omega)) ?_
  refine r_min rfl rfl rfl rfl ?_
  refine r_max (r := (at_ : Int)) rfl rfl rfl hat ?_
  refine r_assign rfl rfl ?_
  refine r_nil ?_
  refine r_tn ?_
  refine r_seq ?_
  refine r_seq ?_
  refine r_region ?_
  refine r_assign rfl rfl ?_
  refine r_nil ?_
  refine r_tn ?_
  refine r_block ?_
  refine r_loopN (fun i => [(5, .int .u16 (bits : Int)), (15, .pointer (some ⟨b15, 0, none⟩)), (16, .slice (some ⟨b31, 0, none⟩) 128 128), (17, .int .i64 (wd wide : Nat)), (19, .int .i64 16), (20, .int .i64 (at_ : Int)), (21, .int .i64 (i : Int))]) (fun i => [.blk b15 (.cells (rowV (cutP p wide)) 27 (0, 0)), .own 4 1 (.slice (some ⟨b31, 0, none⟩) 128 128) 128 (boolsN 128 (cutP p wide))]) (fun i => i ≤ 2) 2 0 (by omega) ⟨rfl, rfl, rfl, rfl, rfl, rfl, rfl, trivial⟩ (fun w hw => hw.sub) fun i hi => ?_
  refine r_seq ?_
  refine r_seq ?_
  refine r_region ?_
  refine r_move rfl rfl ?_
  refine r_lss rfl rfl rfl rfl ?_
  refine r_nil ?_
  refine r_tn ?_
  refine r_cond rfl (fun hc => ?_) (fun hc => ?_)
  · refine r_skip ?_
    refine r_tn ?_
    refine r_seq ?_
    refine r_block ?_
    refine r_seq ?_
    refine r_region ?_
    have hi2 : i < 2 := by have h := of_decide_eq_true hc; omega
    refine r_move rfl rfl ?_
    refine r_move rfl rfl ?_
    refine r_move rfl rfl ?_
    refine r_move rfl rfl ?_
    refine r_move rfl rfl ?_
    refine r_eql rfl rfl rfl rfl ?_
    refine r_call rfl rfl rfl (by kernel_rfl) rfl (fun w hw => by exact rowSprite bits 16 at_ (wd wide) (decide ((i : Int) = 1)) w hb (by omega) (by omega) (by omega)) ?_
    refine r_callx rfl rfl rfl (by kernel_rfl) rfl (fun w hw => lawPixels (sprK bits 16 at_ (wd wide) (decide ((i : Int) = 1)) 16) w) ?_
    rintro b85 _
    refine r_move rfl rfl ?_
    refine r_move rfl rfl ?_
    refine r_move rfl rfl ?_
    refine r_move rfl rfl ?_
    refine r_move rfl rfl ?_
    refine r_eql rfl rfl rfl rfl ?_
    refine r_callx rfl rfl rfl (by kernel_rfl) rfl (fun w hw => refSprite bits 16 at_ (wd wide) (decide ((i : Int) = 1)) w hb (by omega) (by omega) (by omega)) ?_
    rintro b92 _
    refine r_call (v := .bool true) rfl rfl rfl (by kernel_rfl) rfl (fun w hw => by have h := refSame (sprK bits 16 at_ (wd wide) (decide ((i : Int) = 1)) 16) (sprK bits 16 at_ (wd wide) (decide ((i : Int) = 1)) 16) b85 b92 128 128 w (own_rd (A := some ⟨b85, 0, none⟩) (m := 128) (c := 128) hw) (own_rd (A := some ⟨b92, 0, none⟩) (m := 128) (c := 128) hw); rw [show (eqB (sprK bits 16 at_ (wd wide) (decide ((i : Int) = 1)) 16) (sprK bits 16 at_ (wd wide) (decide ((i : Int) = 1)) 16)) = true from eqB_self _] at h; exact h) ?_
    refine r_not rfl rfl rfl ?_
    refine r_nil ?_
    refine r_tn ?_
    refine r_cond_f rfl ?_
    refine r_skip ?_
    refine r_bn ?_
    refine r_tn ?_
    refine r_region ?_
    refine r_move rfl rfl ?_
    refine r_add rfl rfl rfl (w64 (by omega)) ?_
    refine r_assign rfl rfl ?_
    refine r_nil ?_
    refine r_tn ?_
    exact r_againN (i + 1) (by omega) (by omega) ⟨rfl, rfl, rfl, rfl, rfl, rfl, rfl, trivial⟩ (fun w hw => hw.sub)
  · refine r_exit ?_
    refine r_te ?_
    refine r_te ?_
    refine r_be ?_
    refine r_tn ?_
    refine r_seq ?_
    refine r_region ?_
    refine r_assign rfl rfl ?_
    refine r_nil ?_
    refine r_tn ?_
    refine r_seq ?_
    refine r_seq ?_
    refine r_region ?_
    refine r_assign rfl rfl ?_
    refine r_nil ?_
    refine r_tn ?_
    refine r_block ?_
    refine r_loopN (fun i => [(15, .pointer (some ⟨b15, 0, none⟩)), (16, .slice (some ⟨b31, 0, none⟩) 128 128), (22, .int .i64 ((cnt (cutP p wide) i : Nat) : Int)), (23, .int .i64 (i : Int))]) (fun i => [.blk b15 (.cells (rowV (cutP p wide)) 27 (0, 0)), .own 4 1 (.slice (some ⟨b31, 0, none⟩) 128 128) 128 (boolsN 128 (cutP p wide))]) (fun i => i ≤ 128) 128 0 (by omega) ⟨rfl, rfl, rfl, rfl, trivial⟩ (fun w hw => hw.sub) fun i hi => ?_
    refine r_seq ?_
    refine r_seq ?_
    refine r_region ?_
    refine r_move rfl rfl ?_
    refine r_lss rfl rfl rfl rfl ?_
    refine r_nil ?_
    refine r_tn ?_
    refine r_cond rfl (fun hc => ?_) (fun hc => ?_)
    · refine r_skip ?_
      refine r_tn ?_
      refine r_seq ?_
      refine r_block ?_
      refine r_seq ?_
      refine r_region ?_
      have hi2 : i < 128 := by have h := of_decide_eq_true hc; omega
      refine r_move rfl rfl ?_
      refine r_move rfl rfl ?_
      refine r_indexSl (sz := 1) (o' := i) rfl rfl rfl rfl rfl (by omega) (by omega) (by first | (simp; done) | (simp; omega) | omega) ?_
      refine r_loadC (p := ⟨b31, i, none⟩) rfl rfl rfl (fun w hw => ((own_rd (A := some ⟨b31, 0, none⟩) (m := 128) (c := 128) hw).cell (boolsN_at (cutP p wide) hi2) rfl) |> fun h => by simpa using h) ?_
      refine r_nil ?_
      refine r_tn ?_
      refine r_cond rfl (fun hc => ?_) (fun hc => ?_)
      · refine r_region ?_
        refine r_move rfl rfl ?_
        have hcl := cnt_le (cutP p wide) i
        refine r_add (r := ((cnt (cutP p wide) (i + 1) : Nat) : Int)) rfl rfl rfl ((w64 (by omega)).trans (by rw [cnt_yes hc]; omega)) ?_
        refine r_assign rfl rfl ?_
        refine r_nil ?_
        refine r_bn ?_
        refine r_tn ?_
        refine r_region ?_
        refine r_move rfl rfl ?_
        refine r_add rfl rfl rfl (w64 (by omega)) ?_
        refine r_assign rfl rfl ?_
        refine r_nil ?_
        refine r_tn ?_
        exact r_againN (i + 1) (by omega) (by omega) ⟨rfl, rfl, by first | rfl | exact congrArg (fun z : Nat => some (Value.int .i64 (z : Int))) (cnt_no hc).symm, rfl, trivial⟩ (fun w hw => hw.sub)
      · refine r_skip ?_
        refine r_bn ?_
        refine r_tn ?_
        refine r_region ?_
        refine r_move rfl rfl ?_
        refine r_add rfl rfl rfl (w64 (by omega)) ?_
        refine r_assign rfl rfl ?_
        refine r_nil ?_
        refine r_tn ?_
        exact r_againN (i + 1) (by omega) (by omega) ⟨rfl, rfl, by first | rfl | exact congrArg (fun z : Nat => some (Value.int .i64 (z : Int))) (cnt_no hc).symm, rfl, trivial⟩ (fun w hw => hw.sub)
    · refine r_exit ?_
      refine r_te ?_
      refine r_te ?_
      refine r_be ?_
      refine r_tn ?_
      refine r_seq ?_
      refine r_region ?_
      have hi3 : i = 128 := by have h := of_decide_eq_false hc; omega
      subst hi3
      refine r_loadV rfl rfl rfl rfl rfl ?_
      refine r_call rfl rfl rfl (by kernel_rfl) rfl (fun w hw => by exact rowCount (cutP p wide) w) ?_
      refine r_move rfl rfl ?_
      refine r_eql rfl rfl rfl (decide_eq_true rfl) ?_
      refine r_move rfl rfl ?_
      refine r_go rfl rfl ?_
      refine r_loadV rfl rfl rfl rfl rfl ?_
      refine r_go rfl rfl ?_
      refine r_call rfl rfl rfl (by kernel_rfl) rfl (fun w hw => by exact rowEmpty (cutP p wide) w) ?_
      refine r_go rfl rfl ?_
      refine r_move rfl rfl ?_
      refine r_go rfl rfl ?_
      refine r_eql rfl rfl rfl rfl ?_
      refine r_go rfl rfl ?_
      refine r_eql_bool (p := true) rfl rfl rfl rfl (cnt_zero (cutP p wide)) ?_
      refine r_pick_t rfl rfl rfl ?_
      refine r_assign rfl rfl ?_
      refine r_nil ?_
      refine r_tn ?_
      refine r_ret ?_
      exact r_done1 (.inl rfl) rfl (res_tmp rfl) fun w hw => ⟨rfl, hw.clear⟩

theorem match06_in8 (p : Nat → Bool) (wide : Bool) (x n : Int) (bits at_ : Nat) (W : World) (hx : 0 ≤ x ∧ x ≤ 127) (hn : -128 ≤ n ∧ n ≤ 127) (hb : bits < 65536) (hlt : at_ < wd wide) (hat : AtOf wide x at_) :
    Calls Try.prog 3 #[.int .u64 ((hiN p : Nat) : Int), .int .u64 ((loN p : Nat) : Int), .bool wide, .int .i64 x, .int .i8 n, .int .u16 (bits : Int), .bool false] W fun e w' => e = .returned (.bool true) ∧ Sat W [] [] w' := by
  have h128 : wd wide ≤ 128 := by cases wide <;> decide
  have h64 : 64 ≤ wd wide := by cases wide <;> decide
  refine enter Try.func3 rfl rfl rfl ?_
  refine r_seq ?_
  refine r_region ?_
  refine r_assign rfl rfl ?_
  refine r_nil ?_
  refine r_tn ?_
  refine r_seq ?_
  refine r_seq ?_
  refine r_region ?_
  refine r_call rfl rfl rfl (by kernel_rfl) rfl (fun w hw => by exact awake06 w) ?_
  refine r_not rfl rfl rfl ?_
  refine r_nil ?_
  refine r_tn ?_
  refine r_cond_f rfl ?_
  refine r_skip ?_
  refine r_tn ?_
  refine r_seq ?_
  refine r_region ?_
  refine r_move rfl rfl ?_
  refine r_move rfl rfl ?_
  refine r_move rfl rfl ?_
  refine r_call rfl rfl rfl (by kernel_rfl) rfl (fun w hw => by exact make06 p wide w) ?_
  refine r_allocV (cs := #[.int .u64 0, .int .u64 0]) rfl rfl fun b15 => ?_
  refine r_storeV rfl rfl rfl rfl rfl rfl ?_
  refine r_nil ?_
  refine r_tn ?_
  refine r_seq ?_
  refine r_region ?_
  refine r_loadV rfl rfl rfl rfl rfl ?_
  refine r_callx rfl rfl rfl (by kernel_rfl) rfl (fun w hw => lawPixels (cutP p wide) w) ?_
  rintro b31 _
  refine r_assign rfl rfl ?_
  refine r_nil ?_
  refine r_tn ?_
  refine r_seq ?_
  refine r_region ?_
  refine r_move rfl rfl ?_
  refine r_call rfl rfl rfl (by kernel_rfl) rfl (fun w hw => by exact width06 wide w) ?_
  refine r_assign rfl rfl ?_
  refine r_nil ?_
  refine r_tn ?_
  refine r_seq ?_
  refine r_region ?_
  refine r_move rfl rfl ?_
  refine r_geq rfl rfl rfl (decide_eq_true (by omega)) ?_
  refine r_move rfl rfl ?_
  refine r_go rfl rfl ?_
  refine r_move rfl rfl ?_
  refine r_go rfl rfl ?_
  refine r_leq rfl rfl rfl (decide_eq_true (by omega)) ?_
  refine r_pick_t rfl rfl rfl ?_
  refine r_move rfl rfl ?_
  refine r_go rfl rfl ?_
  refine r_move rfl rfl ?_
  refine r_go rfl rfl ?_
  refine r_move rfl rfl ?_
  refine r_go rfl rfl ?_
  refine r_min (r := x) rfl rfl rfl (if_neg (by omega)) ?_
  refine r_go rfl rfl ?_
  refine r_max (r := x) rfl rfl rfl (if_neg (by omega)) ?_
  refine r_go rfl rfl ?_
  refine r_indexSl (sz := 1) (o' := x.toNat) rfl rfl rfl rfl rfl (by omega) (by omega) (by first | (simp; done) | (simp; omega) | omega) ?_
  refine r_go rfl rfl ?_
  refine r_loadC (p := ⟨b31, x.toNat, none⟩) rfl rfl rfl (fun w hw => ((own_rd (A := some ⟨b31, 0, none⟩) (m := 128) (c := 128) hw).cell (boolsN_at (cutP p wide) (show x.toNat < 128 by omega)) rfl) |> fun h => by simpa using h) ?_
  refine r_pick_t rfl rfl rfl ?_
  refine r_assign rfl rfl ?_
  refine r_nil ?_
  refine r_tn ?_
  refine r_seq ?_
  refine r_seq ?_
  refine r_region ?_
  refine r_loadV rfl rfl rfl rfl rfl ?_
  refine r_move rfl rfl ?_
  refine r_call (v := .bool (cutP p wide x.toNat)) rfl rfl rfl (by kernel_rfl) rfl (fun w hw => by have h := rowGet (cutP p wide) x w; rw [get_in (p := (cutP p wide)) (x := x) (by omega)] at h; exact h) ?_
  refine r_move rfl rfl ?_
  refine r_neq_bool (p := false) rfl rfl rfl rfl (by simp) ?_
  refine r_move rfl rfl ?_
  refine r_go rfl rfl ?_
  refine r_loadV rfl rfl rfl rfl rfl ?_
  refine r_go rfl rfl ?_
  refine r_move rfl rfl ?_
  refine r_go rfl rfl ?_
  refine r_convert rfl rfl rfl rfl (w64 (by omega)) ?_
  refine r_go rfl rfl ?_
  refine r_move rfl rfl ?_
  refine r_go rfl rfl ?_
  refine r_call rfl rfl rfl (by kernel_rfl) rfl (fun w hw => by exact rowShift (cutP p wide) n wide w (by omega)) ?_
  refine r_go rfl rfl ?_
  refine r_callx rfl rfl rfl (by kernel_rfl) rfl (fun w hw => lawPixels (shiftP (cutP p wide) n wide) w) ?_
  rintro b59 _
  refine r_go rfl rfl ?_
  refine r_move rfl rfl ?_
  refine r_go rfl rfl ?_
  refine r_move rfl rfl ?_
  refine r_go rfl rfl ?_
  refine r_convert rfl rfl rfl rfl (w64 (by omega)) ?_
  refine r_go rfl rfl ?_
  refine r_move rfl rfl ?_
  refine r_go rfl rfl ?_
  refine r_callx rfl rfl rfl (by kernel_rfl) rfl (fun w hw => refShift (cutP p wide) n wide b31 128 w (own_rd (A := some ⟨b31, 0, none⟩) (m := 128) (c := 128) hw) (by omega) (fun y hy _ => cut_out hy)) ?_
  rintro b64 _
  refine r_go rfl rfl ?_
  refine r_call (v := .bool true) rfl rfl rfl (by kernel_rfl) rfl (fun w hw => by have h := refSame (shiftP (cutP p wide) n wide) (shiftP (cutP p wide) n wide) b59 b64 128 128 w (own_rd (A := some ⟨b59, 0, none⟩) (m := 128) (c := 128) hw) (own_rd (A := some ⟨b64, 0, none⟩) (m := 128) (c := 128) hw); rw [show (eqB (shiftP (cutP p wide) n wide) (shiftP (cutP p wide) n wide)) = true from eqB_self _] at h; exact h) ?_
  refine r_go rfl rfl ?_
  refine r_not rfl rfl rfl ?_
  refine r_pick_f rfl rfl rfl ?_
  refine r_nil ?_
  refine r_tn ?_
  refine r_cond_f rfl ?_
  refine r_skip ?_
  refine r_tn ?_
  refine r_seq ?_
  refine r_region ?_
  refine r_assign rfl rfl ?_
  refine r_nil ?_
  refine r_tn ?_
  refine r_seq ?_
  refine r_seq ?_
  refine r_region ?_
  refine r_move rfl rfl ?_
  refine r_nil ?_
  refine r_tn ?_
  refine r_cond_f rfl ?_
  refine r_skip ?_
  refine r_tn ?_
  refine r_seq ?_
  refine r_region ?_
  refine r_move rfl rfl ?_
  refine r_move rfl rfl ?_
  refine r_sub rfl rfl rfl (w64 (by omega)) ?_
  refine r_min rfl rfl rfl rfl ?_
  refine r_max (r := (at_ : Int)) rfl rfl rfl hat ?_
  refine r_assign rfl rfl ?_
  refine r_nil ?_
  refine r_tn ?_
  refine r_seq ?_
  refine r_seq ?_
  refine r_region ?_
  refine r_assign rfl rfl ?_
  refine r_nil ?_
  refine r_tn ?_
  refine r_block ?_
  refine r_loopN (fun i => [(5, .int .u16 (bits : Int)), (15, .pointer (some ⟨b15, 0, none⟩)), (16, .slice (some ⟨b31, 0, none⟩) 128 128), (17, .int .i64 (wd wide : Nat)), (19, .int .i64 8), (20, .int .i64 (at_ : Int)), (21, .int .i64 (i : Int))]) (fun i => [.blk b15 (.cells (rowV (cutP p wide)) 27 (0, 0)), .own 4 1 (.slice (some ⟨b31, 0, none⟩) 128 128) 128 (boolsN 128 (cutP p wide))]) (fun i => i ≤ 2) 2 0 (by omega) ⟨rfl, rfl, rfl, rfl, rfl, rfl, rfl, trivial⟩ (fun w hw => hw.sub) fun i hi => ?_
  refine r_seq ?_
  refine r_seq ?_
  refine r_region ?_
  refine r_move rfl rfl ?_
  refine r_lss rfl rfl rfl rfl ?_
  refine r_nil ?_
  refine r_tn ?_
  refine r_cond rfl (fun hc => ?_) (fun hc => ?_)
  · refine r_skip ?_
    refine r_tn ?_
    refine r_seq ?_
    refine r_block ?_
    refine r_seq ?_
    refine r_region ?_
    have hi2 : i < 2 := by have h := of_decide_eq_true hc; omega
    refine r_move rfl rfl ?_
    refine r_move rfl rfl ?_
    refine r_move rfl rfl ?_
    refine r_move rfl rfl ?_
    refine r_move rfl rfl ?_
    refine r_eql rfl rfl rfl rfl ?_
    refine r_call rfl rfl rfl (by kernel_rfl) rfl (fun w hw => by exact rowSprite bits 8 at_ (wd wide) (decide ((i : Int) = 1)) w hb (by omega) (by omega) (by omega)) ?_
    refine r_callx rfl rfl rfl (by kernel_rfl) rfl (fun w hw => lawPixels (sprK bits 8 at_ (wd wide) (decide ((i : Int) = 1)) 8) w) ?_
    rintro b85 _
    refine r_move rfl rfl ?_
    refine r_move rfl rfl ?_
    refine r_move rfl rfl ?_
    refine r_move rfl rfl ?_
    refine r_move rfl rfl ?_
    refine r_eql rfl rfl rfl rfl ?_
    refine r_callx rfl rfl rfl (by kernel_rfl) rfl (fun w hw => refSprite bits 8 at_ (wd wide) (decide ((i : Int) = 1)) w hb (by omega) (by omega) (by omega)) ?_
    rintro b92 _
    refine r_call (v := .bool true) rfl rfl rfl (by kernel_rfl) rfl (fun w hw => by have h := refSame (sprK bits 8 at_ (wd wide) (decide ((i : Int) = 1)) 8) (sprK bits 8 at_ (wd wide) (decide ((i : Int) = 1)) 8) b85 b92 128 128 w (own_rd (A := some ⟨b85, 0, none⟩) (m := 128) (c := 128) hw) (own_rd (A := some ⟨b92, 0, none⟩) (m := 128) (c := 128) hw); rw [show (eqB (sprK bits 8 at_ (wd wide) (decide ((i : Int) = 1)) 8) (sprK bits 8 at_ (wd wide) (decide ((i : Int) = 1)) 8)) = true from eqB_self _] at h; exact h) ?_
    refine r_not rfl rfl rfl ?_
    refine r_nil ?_
    refine r_tn ?_
    refine r_cond_f rfl ?_
    refine r_skip ?_
    refine r_bn ?_
    refine r_tn ?_
    refine r_region ?_
    refine r_move rfl rfl ?_
    refine r_add rfl rfl rfl (w64 (by omega)) ?_
    refine r_assign rfl rfl ?_
    refine r_nil ?_
    refine r_tn ?_
    exact r_againN (i + 1) (by omega) (by omega) ⟨rfl, rfl, rfl, rfl, rfl, rfl, rfl, trivial⟩ (fun w hw => hw.sub)
  · refine r_exit ?_
    refine r_te ?_
    refine r_te ?_
    refine r_be ?_
    refine r_tn ?_
    refine r_seq ?_
    refine r_region ?_
    refine r_assign rfl rfl ?_
    refine r_nil ?_
    refine r_tn ?_
    refine r_seq ?_
    refine r_seq ?_
    refine r_region ?_
    refine r_assign rfl rfl ?_
    refine r_nil ?_
    refine r_tn ?_
    refine r_block ?_
    refine r_loopN (fun i => [(15, .pointer (some ⟨b15, 0, none⟩)), (16, .slice (some ⟨b31, 0, none⟩) 128 128), (22, .int .i64 ((cnt (cutP p wide) i : Nat) : Int)), (23, .int .i64 (i : Int))]) (fun i => [.blk b15 (.cells (rowV (cutP p wide)) 27 (0, 0)), .own 4 1 (.slice (some ⟨b31, 0, none⟩) 128 128) 128 (boolsN 128 (cutP p wide))]) (fun i => i ≤ 128) 128 0 (by omega) ⟨rfl, rfl, rfl, rfl, trivial⟩ (fun w hw => hw.sub) fun i hi => ?_
    refine r_seq ?_
    refine r_seq ?_
    refine r_region ?_
    refine r_move rfl rfl ?_
    refine r_lss rfl rfl rfl rfl ?_
    refine r_nil ?_
    refine r_tn ?_
    refine r_cond rfl (fun hc => ?_) (fun hc => ?_)
    · refine r_skip ?_
      refine r_tn ?_
      refine r_seq ?_
      refine r_block ?_
      refine r_seq ?_
      refine r_region ?_
      have hi2 : i < 128 := by have h := of_decide_eq_true hc; omega
      refine r_move rfl rfl ?_
      refine r_move rfl rfl ?_
      refine r_indexSl (sz := 1) (o' := i) rfl rfl rfl rfl rfl (by omega) (by omega) (by first | (simp; done) | (simp; omega) | omega) ?_
      refine r_loadC (p := ⟨b31, i, none⟩) rfl rfl rfl (fun w hw => ((own_rd (A := some ⟨b31, 0, none⟩) (m := 128) (c := 128) hw).cell (boolsN_at (cutP p wide) hi2) rfl) |> fun h => by simpa using h) ?_
      refine r_nil ?_
      refine r_tn ?_
      refine r_cond rfl (fun hc => ?_) (fun hc => ?_)
      · refine r_region ?_
        refine r_move rfl rfl ?_
        have hcl := cnt_le (cutP p wide) i
        refine r_add (r := ((cnt (cutP p wide) (i + 1) : Nat) : Int)) rfl rfl rfl ((w64 (by omega)).trans (by rw [cnt_yes hc]; omega)) ?_
        refine r_assign rfl rfl ?_
        refine r_nil ?_
        refine r_bn ?_
        refine r_tn ?_
        refine r_region ?_
        refine r_move rfl rfl ?_
        refine r_add rfl rfl rfl (w64 (by omega)) ?_
        refine r_assign rfl rfl ?_
        refine r_nil ?_
        refine r_tn ?_
        exact r_againN (i + 1) (by omega) (by omega) ⟨rfl, rfl, by first | rfl | exact congrArg (fun z : Nat => some (Value.int .i64 (z : Int))) (cnt_no hc).symm, rfl, trivial⟩ (fun w hw => hw.sub)
      · refine r_skip ?_
        refine r_bn ?_
        refine r_tn ?_
        refine r_region ?_
        refine r_move rfl rfl ?_
        refine r_add rfl rfl rfl (w64 (by omega)) ?_
        refine r_assign rfl rfl ?_
        refine r_nil ?_
        refine r_tn ?_
        exact r_againN (i + 1) (by omega) (by omega) ⟨rfl, rfl, by first | rfl | exact congrArg (fun z : Nat => some (Value.int .i64 (z : Int))) (cnt_no hc).symm, rfl, trivial⟩ (fun w hw => hw.sub)
    · refine r_exit ?_
      refine r_te ?_
      refine r_te ?_
      refine r_be ?_
      refine r_tn ?_
      refine r_seq ?_
      refine r_region ?_
      have hi3 : i = 128 := by have h := of_decide_eq_false hc; omega
      subst hi3
      refine r_loadV rfl rfl rfl rfl rfl ?_
      refine r_call rfl rfl rfl (by kernel_rfl) rfl (fun w hw => by exact rowCount (cutP p wide) w) ?_
      refine r_move rfl rfl ?_
      refine r_eql rfl rfl rfl (decide_eq_true rfl) ?_
      refine r_move rfl rfl ?_
      refine r_go rfl rfl ?_
      refine r_loadV rfl rfl rfl rfl rfl ?_
      refine r_go rfl rfl ?_
      refine r_call rfl rfl rfl (by kernel_rfl) rfl (fun w hw => by exact rowEmpty (cutP p wide) w) ?_
      refine r_go rfl rfl ?_
      refine r_move rfl rfl ?_
      refine r_go rfl rfl ?_
      refine r_eql rfl rfl rfl rfl ?_
      refine r_go rfl rfl ?_
      refine r_eql_bool (p := true) rfl rfl rfl rfl (cnt_zero (cutP p wide)) ?_
      refine r_pick_t rfl rfl rfl ?_
      refine r_assign rfl rfl ?_
      refine r_nil ?_
      refine r_tn ?_
      refine r_ret ?_
      exact r_done1 (.inl rfl) rfl (res_tmp rfl) fun w hw => ⟨rfl, hw.clear⟩

theorem match06_lo16 (p : Nat → Bool) (wide : Bool) (x n : Int) (bits at_ : Nat) (W : World) (hx : x < 0) (hn : -128 ≤ n ∧ n ≤ 127) (hb : bits < 65536) (hlt : at_ < wd wide) (hat : AtOf wide x at_) :
    Calls Try.prog 3 #[.int .u64 ((hiN p : Nat) : Int), .int .u64 ((loN p : Nat) : Int), .bool wide, .int .i64 x, .int .i8 n, .int .u16 (bits : Int), .bool true] W fun e w' => e = .returned (.bool true) ∧ Sat W [] [] w' := by
  have h128 : wd wide ≤ 128 := by cases wide <;> decide
  have h64 : 64 ≤ wd wide := by cases wide <;> decide
  refine enter Try.func3 rfl rfl rfl ?_
  refine r_seq ?_
  refine r_region ?_
  refine r_assign rfl rfl ?_
  refine r_nil ?_
  refine r_tn ?_
  refine r_seq ?_
  refine r_seq ?_
  refine r_region ?_
  refine r_call rfl rfl rfl (by kernel_rfl) rfl (fun w hw => by exact awake06 w) ?_
  refine r_not rfl rfl rfl ?_
  refine r_nil ?_
  refine r_tn ?_
  refine r_cond_f rfl ?_
  refine r_skip ?_
  refine r_tn ?_
  refine r_seq ?_
  refine r_region ?_
  refine r_move rfl rfl ?_
  refine r_move rfl rfl ?_
  refine r_move rfl rfl ?_
  refine r_call rfl rfl rfl (by kernel_rfl) rfl (fun w hw => by exact make06 p wide w) ?_
  refine r_allocV (cs := #[.int .u64 0, .int .u64 0]) rfl rfl fun b15 => ?_
  refine r_storeV rfl rfl rfl rfl rfl rfl ?_
  refine r_nil ?_
  refine r_tn ?_
  refine r_seq ?_
  refine r_region ?_
  refine r_loadV rfl rfl rfl rfl rfl ?_
  refine r_callx rfl rfl rfl (by kernel_rfl) rfl (fun w hw => lawPixels (cutP p wide) w) ?_
  rintro b31 _
  refine r_assign rfl rfl ?_
  refine r_nil ?_
  refine r_tn ?_
  refine r_seq ?_
  refine r_region ?_
  refine r_move rfl rfl ?_
  refine r_call rfl rfl rfl (by kernel_rfl) rfl (fun w hw => by exact width06 wide w) ?_
  refine r_assign rfl rfl ?_
  refine r_nil ?_
  refine r_tn ?_
  refine r_seq ?_
  refine r_region ?_
  refine r_move rfl rfl ?_
  refine r_geq rfl rfl rfl (decide_eq_false (by omega)) ?_
  refine r_move rfl rfl ?_
  refine r_pass rfl rfl rfl rfl ?_
  refine r_pass rfl rfl rfl rfl ?_
  refine r_pick_f rfl rfl rfl ?_
  refine r_move rfl rfl ?_
  refine r_pass rfl rfl rfl rfl ?_
  refine r_pass rfl rfl rfl rfl ?_
  refine r_pass rfl rfl rfl rfl ?_
  refine r_pass rfl rfl rfl rfl ?_
  refine r_pass rfl rfl rfl rfl ?_
  refine r_pass rfl rfl rfl rfl ?_
  refine r_pick_f rfl rfl rfl ?_
  refine r_assign rfl rfl ?_
  refine r_nil ?_
  refine r_tn ?_
  refine r_seq ?_
  refine r_seq ?_
  refine r_region ?_
  refine r_loadV rfl rfl rfl rfl rfl ?_
  refine r_move rfl rfl ?_
  refine r_call (v := .bool false) rfl rfl rfl (by kernel_rfl) rfl (fun w hw => by have h := rowGet (cutP p wide) x w; rw [get_out (p := (cutP p wide)) (x := x) (by omega)] at h; exact h) ?_
  refine r_move rfl rfl ?_
  refine r_neq_bool (p := false) rfl rfl rfl rfl (by simp) ?_
  refine r_move rfl rfl ?_
  refine r_go rfl rfl ?_
  refine r_loadV rfl rfl rfl rfl rfl ?_
  refine r_go rfl rfl ?_
  refine r_move rfl rfl ?_
  refine r_go rfl rfl ?_
  refine r_convert rfl rfl rfl rfl (w64 (by omega)) ?_
  refine r_go rfl rfl ?_
  refine r_move rfl rfl ?_
  refine r_go rfl rfl ?_
  refine r_call rfl rfl rfl (by kernel_rfl) rfl (fun w hw => by exact rowShift (cutP p wide) n wide w (by omega)) ?_
  refine r_go rfl rfl ?_
  refine r_callx rfl rfl rfl (by kernel_rfl) rfl (fun w hw => lawPixels (shiftP (cutP p wide) n wide) w) ?_
  rintro b59 _
  refine r_go rfl rfl ?_
  refine r_move rfl rfl ?_
  refine r_go rfl rfl ?_
  refine r_move rfl rfl ?_
  refine r_go rfl rfl ?_
  refine r_convert rfl rfl rfl rfl (w64 (by omega)) ?_
  refine r_go rfl rfl ?_
  refine r_move rfl rfl ?_
  refine r_go rfl rfl ?_
  refine r_callx rfl rfl rfl (by kernel_rfl) rfl (fun w hw => refShift (cutP p wide) n wide b31 128 w (own_rd (A := some ⟨b31, 0, none⟩) (m := 128) (c := 128) hw) (by omega) (fun y hy _ => cut_out hy)) ?_
  rintro b64 _
  refine r_go rfl rfl ?_
  refine r_call (v := .bool true) rfl rfl rfl (by kernel_rfl) rfl (fun w hw => by have h := refSame (shiftP (cutP p wide) n wide) (shiftP (cutP p wide) n wide) b59 b64 128 128 w (own_rd (A := some ⟨b59, 0, none⟩) (m := 128) (c := 128) hw) (own_rd (A := some ⟨b64, 0, none⟩) (m := 128) (c := 128) hw); rw [show (eqB (shiftP (cutP p wide) n wide) (shiftP (cutP p wide) n wide)) = true from eqB_self _] at h; exact h) ?_
  refine r_go rfl rfl ?_
  refine r_not rfl rfl rfl ?_
  refine r_pick_f rfl rfl rfl ?_
  refine r_nil ?_
  refine r_tn ?_
  refine r_cond_f rfl ?_
  refine r_skip ?_
  refine r_tn ?_
  refine r_seq ?_
  refine r_region ?_
  refine r_assign rfl rfl ?_
  refine r_nil ?_
  refine r_tn ?_
  refine r_seq ?_
  refine r_seq ?_
  refine r_region ?_
  refine r_move rfl rfl ?_
  refine r_nil ?_
  refine r_tn ?_
  refine r_cond_t rfl ?_
  refine r_region ?_
  refine r_assign rfl rfl ?_
  refine r_nil ?_
  refine r_tn ?_
  refine r_seq ?_
  refine r_region ?_
  refine r_move rfl rfl ?_
  refine r_move rfl rfl ?_
  refine r_sub rfl rfl rfl (w64 (by omega)) ?_
  refine r_min rfl rfl rfl rfl ?_
  refine r_max (r := (at_ : Int)) rfl rfl rfl hat ?_
  refine r_assign rfl rfl ?_
  refine r_nil ?_
  refine r_tn ?_
  refine r_seq ?_
  refine r_seq ?_
  refine r_region ?_
  refine r_assign rfl rfl ?_
  refine r_nil ?_
  refine r_tn ?_
  refine r_block ?_
  refine r_loopN (fun i => [(5, .int .u16 (bits : Int)), (15, .pointer (some ⟨b15, 0, none⟩)), (16, .slice (some ⟨b31, 0, none⟩) 128 128), (17, .int .i64 (wd wide : Nat)), (19, .int .i64 16), (20, .int .i64 (at_ : Int)), (21, .int .i64 (i : Int))]) (fun i => [.blk b15 (.cells (rowV (cutP p wide)) 27 (0, 0)), .own 4 1 (.slice (some ⟨b31, 0, none⟩) 128 128) 128 (boolsN 128 (cutP p wide))]) (fun i => i ≤ 2) 2 0 (by omega) ⟨rfl, rfl, rfl, rfl, rfl, rfl, rfl, trivial⟩ (fun w hw => hw.sub) fun i hi => ?_
  refine r_seq ?_
  refine r_seq ?_
  refine r_region ?_
  refine r_move rfl rfl ?_
  refine r_lss rfl rfl rfl rfl ?_
  refine r_nil ?_
  refine r_tn ?_
  refine r_cond rfl (fun hc => ?_) (fun hc => ?_)
  · refine r_skip ?_
    refine r_tn ?_
    refine r_seq ?_
    refine r_block ?_
    refine r_seq ?_
    refine r_region ?_
    have hi2 : i < 2 := by have h := of_decide_eq_true hc; omega
    refine r_move rfl rfl ?_
    refine r_move rfl rfl ?_
    refine r_move rfl rfl ?_
    refine r_move rfl rfl ?_
    refine r_move rfl rfl ?_
    refine r_eql rfl rfl rfl rfl ?_
    refine r_call rfl rfl rfl (by kernel_rfl) rfl (fun w hw => by exact rowSprite bits 16 at_ (wd wide) (decide ((i : Int) = 1)) w hb (by omega) (by omega) (by omega)) ?_
    refine r_callx rfl rfl rfl (by kernel_rfl) rfl (fun w hw => lawPixels (sprK bits 16 at_ (wd wide) (decide ((i : Int) = 1)) 16) w) ?_
    rintro b85 _
    refine r_move rfl rfl ?_
    refine r_move rfl rfl ?_
    refine r_move rfl rfl ?_
    refine r_move rfl rfl ?_
    refine r_move rfl rfl ?_
    refine r_eql rfl rfl rfl rfl ?_
    refine r_callx rfl rfl rfl (by kernel_rfl) rfl (fun w hw => refSprite bits 16 at_ (wd wide) (decide ((i : Int) = 1)) w hb (by omega) (by omega) (by omega)) ?_
    rintro b92 _
    refine r_call (v := .bool true) rfl rfl rfl (by kernel_rfl) rfl (fun w hw => by have h := refSame (sprK bits 16 at_ (wd wide) (decide ((i : Int) = 1)) 16) (sprK bits 16 at_ (wd wide) (decide ((i : Int) = 1)) 16) b85 b92 128 128 w (own_rd (A := some ⟨b85, 0, none⟩) (m := 128) (c := 128) hw) (own_rd (A := some ⟨b92, 0, none⟩) (m := 128) (c := 128) hw); rw [show (eqB (sprK bits 16 at_ (wd wide) (decide ((i : Int) = 1)) 16) (sprK bits 16 at_ (wd wide) (decide ((i : Int) = 1)) 16)) = true from eqB_self _] at h; exact h) ?_
    refine r_not rfl rfl rfl ?_
    refine r_nil ?_
    refine r_tn ?_
    refine r_cond_f rfl ?_
    refine r_skip ?_
    refine r_bn ?_
    refine r_tn ?_
    refine r_region ?_
    refine r_move rfl rfl ?_
    refine r_add rfl rfl rfl (w64 (by omega)) ?_
    refine r_assign rfl rfl ?_
    refine r_nil ?_
    refine r_tn ?_
    exact r_againN (i + 1) (by omega) (by omega) ⟨rfl, rfl, rfl, rfl, rfl, rfl, rfl, trivial⟩ (fun w hw => hw.sub)
  · refine r_exit ?_
    refine r_te ?_
    refine r_te ?_
    refine r_be ?_
    refine r_tn ?_
    refine r_seq ?_
    refine r_region ?_
    refine r_assign rfl rfl ?_
    refine r_nil ?_
    refine r_tn ?_
    refine r_seq ?_
    refine r_seq ?_
    refine r_region ?_
    refine r_assign rfl rfl ?_
    refine r_nil ?_
    refine r_tn ?_
    refine r_block ?_
    refine r_loopN (fun i => [(15, .pointer (some ⟨b15, 0, none⟩)), (16, .slice (some ⟨b31, 0, none⟩) 128 128), (22, .int .i64 ((cnt (cutP p wide) i : Nat) : Int)), (23, .int .i64 (i : Int))]) (fun i => [.blk b15 (.cells (rowV (cutP p wide)) 27 (0, 0)), .own 4 1 (.slice (some ⟨b31, 0, none⟩) 128 128) 128 (boolsN 128 (cutP p wide))]) (fun i => i ≤ 128) 128 0 (by omega) ⟨rfl, rfl, rfl, rfl, trivial⟩ (fun w hw => hw.sub) fun i hi => ?_
    refine r_seq ?_
    refine r_seq ?_
    refine r_region ?_
    refine r_move rfl rfl ?_
    refine r_lss rfl rfl rfl rfl ?_
    refine r_nil ?_
    refine r_tn ?_
    refine r_cond rfl (fun hc => ?_) (fun hc => ?_)
    · refine r_skip ?_
      refine r_tn ?_
      refine r_seq ?_
      refine r_block ?_
      refine r_seq ?_
      refine r_region ?_
      have hi2 : i < 128 := by have h := of_decide_eq_true hc; omega
      refine r_move rfl rfl ?_
      refine r_move rfl rfl ?_
      refine r_indexSl (sz := 1) (o' := i) rfl rfl rfl rfl rfl (by omega) (by omega) (by first | (simp; done) | (simp; omega) | omega) ?_
      refine r_loadC (p := ⟨b31, i, none⟩) rfl rfl rfl (fun w hw => ((own_rd (A := some ⟨b31, 0, none⟩) (m := 128) (c := 128) hw).cell (boolsN_at (cutP p wide) hi2) rfl) |> fun h => by simpa using h) ?_
      refine r_nil ?_
      refine r_tn ?_
      refine r_cond rfl (fun hc => ?_) (fun hc => ?_)
      · refine r_region ?_
        refine r_move rfl rfl ?_
        have hcl := cnt_le (cutP p wide) i
        refine r_add (r := ((cnt (cutP p wide) (i + 1) : Nat) : Int)) rfl rfl rfl ((w64 (by omega)).trans (by rw [cnt_yes hc]; omega)) ?_
        refine r_assign rfl rfl ?_
        refine r_nil ?_
        refine r_bn ?_
        refine r_tn ?_
        refine r_region ?_
        refine r_move rfl rfl ?_
        refine r_add rfl rfl rfl (w64 (by omega)) ?_
        refine r_assign rfl rfl ?_
        refine r_nil ?_
        refine r_tn ?_
        exact r_againN (i + 1) (by omega) (by omega) ⟨rfl, rfl, by first | rfl | exact congrArg (fun z : Nat => some (Value.int .i64 (z : Int))) (cnt_no hc).symm, rfl, trivial⟩ (fun w hw => hw.sub)
      · refine r_skip ?_
        refine r_bn ?_
        refine r_tn ?_
        refine r_region ?_
        refine r_move rfl rfl ?_
        refine r_add rfl rfl rfl (w64 (by omega)) ?_
        refine r_assign rfl rfl ?_
        refine r_nil ?_
        refine r_tn ?_
        exact r_againN (i + 1) (by omega) (by omega) ⟨rfl, rfl, by first | rfl | exact congrArg (fun z : Nat => some (Value.int .i64 (z : Int))) (cnt_no hc).symm, rfl, trivial⟩ (fun w hw => hw.sub)
    · refine r_exit ?_
      refine r_te ?_
      refine r_te ?_
      refine r_be ?_
      refine r_tn ?_
      refine r_seq ?_
      refine r_region ?_
      have hi3 : i = 128 := by have h := of_decide_eq_false hc; omega
      subst hi3
      refine r_loadV rfl rfl rfl rfl rfl ?_
      refine r_call rfl rfl rfl (by kernel_rfl) rfl (fun w hw => by exact rowCount (cutP p wide) w) ?_
      refine r_move rfl rfl ?_
      refine r_eql rfl rfl rfl (decide_eq_true rfl) ?_
      refine r_move rfl rfl ?_
      refine r_go rfl rfl ?_
      refine r_loadV rfl rfl rfl rfl rfl ?_
      refine r_go rfl rfl ?_
      refine r_call rfl rfl rfl (by kernel_rfl) rfl (fun w hw => by exact rowEmpty (cutP p wide) w) ?_
      refine r_go rfl rfl ?_
      refine r_move rfl rfl ?_
      refine r_go rfl rfl ?_
      refine r_eql rfl rfl rfl rfl ?_
      refine r_go rfl rfl ?_
      refine r_eql_bool (p := true) rfl rfl rfl rfl (cnt_zero (cutP p wide)) ?_
      refine r_pick_t rfl rfl rfl ?_
      refine r_assign rfl rfl ?_
      refine r_nil ?_
      refine r_tn ?_
      refine r_ret ?_
      exact r_done1 (.inl rfl) rfl (res_tmp rfl) fun w hw => ⟨rfl, hw.clear⟩

theorem match06_lo8 (p : Nat → Bool) (wide : Bool) (x n : Int) (bits at_ : Nat) (W : World) (hx : x < 0) (hn : -128 ≤ n ∧ n ≤ 127) (hb : bits < 65536) (hlt : at_ < wd wide) (hat : AtOf wide x at_) :
    Calls Try.prog 3 #[.int .u64 ((hiN p : Nat) : Int), .int .u64 ((loN p : Nat) : Int), .bool wide, .int .i64 x, .int .i8 n, .int .u16 (bits : Int), .bool false] W fun e w' => e = .returned (.bool true) ∧ Sat W [] [] w' := by
  have h128 : wd wide ≤ 128 := by cases wide <;> decide
  have h64 : 64 ≤ wd wide := by cases wide <;> decide
  refine enter Try.func3 rfl rfl rfl ?_
  refine r_seq ?_
  refine r_region ?_
  refine r_assign rfl rfl ?_
  refine r_nil ?_
  refine r_tn ?_
  refine r_seq ?_
  refine r_seq ?_
  refine r_region ?_
  refine r_call rfl rfl rfl (by kernel_rfl) rfl (fun w hw => by exact awake06 w) ?_
  refine r_not rfl rfl rfl ?_
  refine r_nil ?_
  refine r_tn ?_
  refine r_cond_f rfl ?_
  refine r_skip ?_
  refine r_tn ?_
  refine r_seq ?_
  refine r_region ?_
  refine r_move rfl rfl ?_
  refine r_move rfl rfl ?_
  refine r_move rfl rfl ?_
  refine r_call rfl rfl rfl (by kernel_rfl) rfl (fun w hw => by exact make06 p wide w) ?_
  refine r_allocV (cs := #[.int .u64 0, .int .u64 0]) rfl rfl fun b15 => ?_
  refine r_storeV rfl rfl rfl rfl rfl rfl ?_
  refine r_nil ?_
  refine r_tn ?_
  refine r_seq ?_
  refine r_region ?_
  refine r_loadV rfl rfl rfl rfl rfl ?_
  refine r_callx rfl rfl rfl (by kernel_rfl) rfl (fun w hw => lawPixels (cutP p wide) w) ?_
  rintro b31 _
  refine r_assign rfl rfl ?_
  refine r_nil ?_
  refine r_tn ?_
  refine r_seq ?_
  refine r_region ?_
  refine r_move rfl rfl ?_
  refine r_call rfl rfl rfl (by kernel_rfl) rfl (fun w hw => by exact width06 wide w) ?_
  refine r_assign rfl rfl ?_
  refine r_nil ?_
  refine r_tn ?_
  refine r_seq ?_
  refine r_region ?_
  refine r_move rfl rfl ?_
  refine r_geq rfl rfl rfl (decide_eq_false (by omega)) ?_
  refine r_move rfl rfl ?_
  refine r_pass rfl rfl rfl rfl ?_
  refine r_pass rfl rfl rfl rfl ?_
  refine r_pick_f rfl rfl rfl ?_
  refine r_move rfl rfl ?_
  refine r_pass rfl rfl rfl rfl ?_
  refine r_pass rfl rfl rfl rfl ?_
  refine r_pass rfl rfl rfl rfl ?_
  refine r_pass rfl rfl rfl rfl ?_
  refine r_pass rfl rfl rfl rfl ?_
  refine r_pass rfl rfl rfl rfl ?_
  refine r_pick_f rfl rfl rfl ?_
  refine r_assign rfl rfl ?_
  refine r_nil ?_
  refine r_tn ?_
  refine r_seq ?_
  refine r_seq ?_
  refine r_region ?_
  refine r_loadV rfl rfl rfl rfl rfl ?_
  refine r_move rfl rfl ?_
  refine r_call (v := .bool false) rfl rfl rfl (by kernel_rfl) rfl (fun w hw => by have h := rowGet (cutP p wide) x w; rw [get_out (p := (cutP p wide)) (x := x) (by omega)] at h; exact h) ?_
  refine r_move rfl rfl ?_
  refine r_neq_bool (p := false) rfl rfl rfl rfl (by simp) ?_
  refine r_move rfl rfl ?_
  refine r_go rfl rfl ?_
  refine r_loadV rfl rfl rfl rfl rfl ?_
  refine r_go rfl rfl ?_
  refine r_move rfl rfl ?_
  refine r_go rfl rfl ?_
  refine r_convert rfl rfl rfl rfl (w64 (by omega)) ?_
  refine r_go rfl rfl ?_
  refine r_move rfl rfl ?_
  refine r_go rfl rfl ?_
  refine r_call rfl rfl rfl (by kernel_rfl) rfl (fun w hw => by exact rowShift (cutP p wide) n wide w (by omega)) ?_
  refine r_go rfl rfl ?_
  refine r_callx rfl rfl rfl (by kernel_rfl) rfl (fun w hw => lawPixels (shiftP (cutP p wide) n wide) w) ?_
  rintro b59 _
  refine r_go rfl rfl ?_
  refine r_move rfl rfl ?_
  refine r_go rfl rfl ?_
  refine r_move rfl rfl ?_
  refine r_go rfl rfl ?_
  refine r_convert rfl rfl rfl rfl (w64 (by omega)) ?_
  refine r_go rfl rfl ?_
  refine r_move rfl rfl ?_
  refine r_go rfl rfl ?_
  refine r_callx rfl rfl rfl (by kernel_rfl) rfl (fun w hw => refShift (cutP p wide) n wide b31 128 w (own_rd (A := some ⟨b31, 0, none⟩) (m := 128) (c := 128) hw) (by omega) (fun y hy _ => cut_out hy)) ?_
  rintro b64 _
  refine r_go rfl rfl ?_
  refine r_call (v := .bool true) rfl rfl rfl (by kernel_rfl) rfl (fun w hw => by have h := refSame (shiftP (cutP p wide) n wide) (shiftP (cutP p wide) n wide) b59 b64 128 128 w (own_rd (A := some ⟨b59, 0, none⟩) (m := 128) (c := 128) hw) (own_rd (A := some ⟨b64, 0, none⟩) (m := 128) (c := 128) hw); rw [show (eqB (shiftP (cutP p wide) n wide) (shiftP (cutP p wide) n wide)) = true from eqB_self _] at h; exact h) ?_
  refine r_go rfl rfl ?_
  refine r_not rfl rfl rfl ?_
  refine r_pick_f rfl rfl rfl ?_
  refine r_nil ?_
  refine r_tn ?_
  refine r_cond_f rfl ?_
  refine r_skip ?_
  refine r_tn ?_
  refine r_seq ?_
  refine r_region ?_
  refine r_assign rfl rfl ?_
  refine r_nil ?_
  refine r_tn ?_
  refine r_seq ?_
  refine r_seq ?_
  refine r_region ?_
  refine r_move rfl rfl ?_
  refine r_nil ?_
  refine r_tn ?_
  refine r_cond_f rfl ?_
  refine r_skip ?_
  refine r_tn ?_
  refine r_seq ?_
  refine r_region ?_
  refine r_move rfl rfl ?_
  refine r_move rfl rfl ?_
  refine r_sub rfl rfl rfl (w64 (by omega)) ?_
  refine r_min rfl rfl rfl rfl ?_
  refine r_max (r := (at_ : Int)) rfl rfl rfl hat ?_
  refine r_assign rfl rfl ?_
  refine r_nil ?_
  refine r_tn ?_
  refine r_seq ?_
  refine r_seq ?_
  refine r_region ?_
  refine r_assign rfl rfl ?_
  refine r_nil ?_
  refine r_tn ?_
  refine r_block ?_
  refine r_loopN (fun i => [(5, .int .u16 (bits : Int)), (15, .pointer (some ⟨b15, 0, none⟩)), (16, .slice (some ⟨b31, 0, none⟩) 128 128), (17, .int .i64 (wd wide : Nat)), (19, .int .i64 8), (20, .int .i64 (at_ : Int)), (21, .int .i64 (i : Int))]) (fun i => [.blk b15 (.cells (rowV (cutP p wide)) 27 (0, 0)), .own 4 1 (.slice (some ⟨b31, 0, none⟩) 128 128) 128 (boolsN 128 (cutP p wide))]) (fun i => i ≤ 2) 2 0 (by omega) ⟨rfl, rfl, rfl, rfl, rfl, rfl, rfl, trivial⟩ (fun w hw => hw.sub) fun i hi => ?_
  refine r_seq ?_
  refine r_seq ?_
  refine r_region ?_
  refine r_move rfl rfl ?_
  refine r_lss rfl rfl rfl rfl ?_
  refine r_nil ?_
  refine r_tn ?_
  refine r_cond rfl (fun hc => ?_) (fun hc => ?_)
  · refine r_skip ?_
    refine r_tn ?_
    refine r_seq ?_
    refine r_block ?_
    refine r_seq ?_
    refine r_region ?_
    have hi2 : i < 2 := by have h := of_decide_eq_true hc; omega
    refine r_move rfl rfl ?_
    refine r_move rfl rfl ?_
    refine r_move rfl rfl ?_
    refine r_move rfl rfl ?_
    refine r_move rfl rfl ?_
    refine r_eql rfl rfl rfl rfl ?_
    refine r_call rfl rfl rfl (by kernel_rfl) rfl (fun w hw => by exact rowSprite bits 8 at_ (wd wide) (decide ((i : Int) = 1)) w hb (by omega) (by omega) (by omega)) ?_
    refine r_callx rfl rfl rfl (by kernel_rfl) rfl (fun w hw => lawPixels (sprK bits 8 at_ (wd wide) (decide ((i : Int) = 1)) 8) w) ?_
    rintro b85 _
    refine r_move rfl rfl ?_
    refine r_move rfl rfl ?_
    refine r_move rfl rfl ?_
    refine r_move rfl rfl ?_
    refine r_move rfl rfl ?_
    refine r_eql rfl rfl rfl rfl ?_
    refine r_callx rfl rfl rfl (by kernel_rfl) rfl (fun w hw => refSprite bits 8 at_ (wd wide) (decide ((i : Int) = 1)) w hb (by omega) (by omega) (by omega)) ?_
    rintro b92 _
    refine r_call (v := .bool true) rfl rfl rfl (by kernel_rfl) rfl (fun w hw => by have h := refSame (sprK bits 8 at_ (wd wide) (decide ((i : Int) = 1)) 8) (sprK bits 8 at_ (wd wide) (decide ((i : Int) = 1)) 8) b85 b92 128 128 w (own_rd (A := some ⟨b85, 0, none⟩) (m := 128) (c := 128) hw) (own_rd (A := some ⟨b92, 0, none⟩) (m := 128) (c := 128) hw); rw [show (eqB (sprK bits 8 at_ (wd wide) (decide ((i : Int) = 1)) 8) (sprK bits 8 at_ (wd wide) (decide ((i : Int) = 1)) 8)) = true from eqB_self _] at h; exact h) ?_
    refine r_not rfl rfl rfl ?_
    refine r_nil ?_
    refine r_tn ?_
    refine r_cond_f rfl ?_
    refine r_skip ?_
    refine r_bn ?_
    refine r_tn ?_
    refine r_region ?_
    refine r_move rfl rfl ?_
    refine r_add rfl rfl rfl (w64 (by omega)) ?_
    refine r_assign rfl rfl ?_
    refine r_nil ?_
    refine r_tn ?_
    exact r_againN (i + 1) (by omega) (by omega) ⟨rfl, rfl, rfl, rfl, rfl, rfl, rfl, trivial⟩ (fun w hw => hw.sub)
  · refine r_exit ?_
    refine r_te ?_
    refine r_te ?_
    refine r_be ?_
    refine r_tn ?_
    refine r_seq ?_
    refine r_region ?_
    refine r_assign rfl rfl ?_
    refine r_nil ?_
    refine r_tn ?_
    refine r_seq ?_
    refine r_seq ?_
    refine r_region ?_
    refine r_assign rfl rfl ?_
    refine r_nil ?_
    refine r_tn ?_
    refine r_block ?_
    refine r_loopN (fun i => [(15, .pointer (some ⟨b15, 0, none⟩)), (16, .slice (some ⟨b31, 0, none⟩) 128 128), (22, .int .i64 ((cnt (cutP p wide) i : Nat) : Int)), (23, .int .i64 (i : Int))]) (fun i => [.blk b15 (.cells (rowV (cutP p wide)) 27 (0, 0)), .own 4 1 (.slice (some ⟨b31, 0, none⟩) 128 128) 128 (boolsN 128 (cutP p wide))]) (fun i => i ≤ 128) 128 0 (by omega) ⟨rfl, rfl, rfl, rfl, trivial⟩ (fun w hw => hw.sub) fun i hi => ?_
    refine r_seq ?_
    refine r_seq ?_
    refine r_region ?_
    refine r_move rfl rfl ?_
    refine r_lss rfl rfl rfl rfl ?_
    refine r_nil ?_
    refine r_tn ?_
    refine r_cond rfl (fun hc => ?_) (fun hc => ?_)
    · refine r_skip ?_
      refine r_tn ?_
      refine r_seq ?_
      refine r_block ?_
      refine r_seq ?_
      refine r_region ?_
      have hi2 : i < 128 := by have h := of_decide_eq_true hc; omega
      refine r_move rfl rfl ?_
      refine r_move rfl rfl ?_
      refine r_indexSl (sz := 1) (o' := i) rfl rfl rfl rfl rfl (by omega) (by omega) (by first | (simp; done) | (simp; omega) | omega) ?_
      refine r_loadC (p := ⟨b31, i, none⟩) rfl rfl rfl (fun w hw => ((own_rd (A := some ⟨b31, 0, none⟩) (m := 128) (c := 128) hw).cell (boolsN_at (cutP p wide) hi2) rfl) |> fun h => by simpa using h) ?_
      refine r_nil ?_
      refine r_tn ?_
      refine r_cond rfl (fun hc => ?_) (fun hc => ?_)
      · refine r_region ?_
        refine r_move rfl rfl ?_
        have hcl := cnt_le (cutP p wide) i
        refine r_add (r := ((cnt (cutP p wide) (i + 1) : Nat) : Int)) rfl rfl rfl ((w64 (by omega)).trans (by rw [cnt_yes hc]; omega)) ?_
        refine r_assign rfl rfl ?_
        refine r_nil ?_
        refine r_bn ?_
        refine r_tn ?_
        refine r_region ?_
        refine r_move rfl rfl ?_
        refine r_add rfl rfl rfl (w64 (by omega)) ?_
        refine r_assign rfl rfl ?_
        refine r_nil ?_
        refine r_tn ?_
        exact r_againN (i + 1) (by omega) (by omega) ⟨rfl, rfl, by first | rfl | exact congrArg (fun z : Nat => some (Value.int .i64 (z : Int))) (cnt_no hc).symm, rfl, trivial⟩ (fun w hw => hw.sub)
      · refine r_skip ?_
        refine r_bn ?_
        refine r_tn ?_
        refine r_region ?_
        refine r_move rfl rfl ?_
        refine r_add rfl rfl rfl (w64 (by omega)) ?_
        refine r_assign rfl rfl ?_
        refine r_nil ?_
        refine r_tn ?_
        exact r_againN (i + 1) (by omega) (by omega) ⟨rfl, rfl, by first | rfl | exact congrArg (fun z : Nat => some (Value.int .i64 (z : Int))) (cnt_no hc).symm, rfl, trivial⟩ (fun w hw => hw.sub)
    · refine r_exit ?_
      refine r_te ?_
      refine r_te ?_
      refine r_be ?_
      refine r_tn ?_
      refine r_seq ?_
      refine r_region ?_
      have hi3 : i = 128 := by have h := of_decide_eq_false hc; omega
      subst hi3
      refine r_loadV rfl rfl rfl rfl rfl ?_
      refine r_call rfl rfl rfl (by kernel_rfl) rfl (fun w hw => by exact rowCount (cutP p wide) w) ?_
      refine r_move rfl rfl ?_
      refine r_eql rfl rfl rfl (decide_eq_true rfl) ?_
      refine r_move rfl rfl ?_
      refine r_go rfl rfl ?_
      refine r_loadV rfl rfl rfl rfl rfl ?_
      refine r_go rfl rfl ?_
      refine r_call rfl rfl rfl (by kernel_rfl) rfl (fun w hw => by exact rowEmpty (cutP p wide) w) ?_
      refine r_go rfl rfl ?_
      refine r_move rfl rfl ?_
      refine r_go rfl rfl ?_
      refine r_eql rfl rfl rfl rfl ?_
      refine r_go rfl rfl ?_
      refine r_eql_bool (p := true) rfl rfl rfl rfl (cnt_zero (cutP p wide)) ?_
      refine r_pick_t rfl rfl rfl ?_
      refine r_assign rfl rfl ?_
      refine r_nil ?_
      refine r_tn ?_
      refine r_ret ?_
      exact r_done1 (.inl rfl) rfl (res_tmp rfl) fun w hw => ⟨rfl, hw.clear⟩

theorem match06_hi16 (p : Nat → Bool) (wide : Bool) (x n : Int) (bits at_ : Nat) (W : World) (hx : 127 < x) (hn : -128 ≤ n ∧ n ≤ 127) (hb : bits < 65536) (hlt : at_ < wd wide) (hat : AtOf wide x at_) :
    Calls Try.prog 3 #[.int .u64 ((hiN p : Nat) : Int), .int .u64 ((loN p : Nat) : Int), .bool wide, .int .i64 x, .int .i8 n, .int .u16 (bits : Int), .bool true] W fun e w' => e = .returned (.bool true) ∧ Sat W [] [] w' := by
  have h128 : wd wide ≤ 128 := by cases wide <;> decide
  have h64 : 64 ≤ wd wide := by cases wide <;> decide
  refine enter Try.func3 rfl rfl rfl ?_
  refine r_seq ?_
  refine r_region ?_
  refine r_assign rfl rfl ?_
  refine r_nil ?_
  refine r_tn ?_
  refine r_seq ?_
  refine r_seq ?_
  refine r_region ?_
  refine r_call rfl rfl rfl (by kernel_rfl) rfl (fun w hw => by exact awake06 w) ?_
  refine r_not rfl rfl rfl ?_
  refine r_nil ?_
  refine r_tn ?_
  refine r_cond_f rfl ?_
  refine r_skip ?_
  refine r_tn ?_
  refine r_seq ?_
  refine r_region ?_
  refine r_move rfl rfl ?_
  refine r_move rfl rfl ?_
  refine r_move rfl rfl ?_
  refine r_call rfl rfl rfl (by kernel_rfl) rfl (fun w hw => by exact make06 p wide w) ?_
  refine r_allocV (cs := #[.int .u64 0, .int .u64 0]) rfl rfl fun b15 => ?_
  refine r_storeV rfl rfl rfl rfl rfl rfl ?_
  refine r_nil ?_
  refine r_tn ?_
  refine r_seq ?_
  refine r_region ?_
  refine r_loadV rfl rfl rfl rfl rfl ?_
  refine r_callx rfl rfl rfl (by kernel_rfl) rfl (fun w hw => lawPixels (cutP p wide) w) ?_
  rintro b31 _
  refine r_assign rfl rfl ?_
  refine r_nil ?_
  refine r_tn ?_
  refine r_seq ?_
  refine r_region ?_
  refine r_move rfl rfl ?_
  refine r_call rfl rfl rfl (by kernel_rfl) rfl (fun w hw => by exact width06 wide w) ?_
  refine r_assign rfl rfl ?_
  refine r_nil ?_
  refine r_tn ?_
  refine r_seq ?_
  refine r_region ?_
  refine r_move rfl rfl ?_
  refine r_geq rfl rfl rfl (decide_eq_true (by omega)) ?_
  refine r_move rfl rfl ?_
  refine r_go rfl rfl ?_
  refine r_move rfl rfl ?_
  refine r_go rfl rfl ?_
  refine r_leq rfl rfl rfl (decide_eq_false (by omega)) ?_
  refine r_pick_t rfl rfl rfl ?_
  refine r_move rfl rfl ?_
  refine r_pass rfl rfl rfl rfl ?_
  refine r_pass rfl rfl rfl rfl ?_
  refine r_pass rfl rfl rfl rfl ?_
  refine r_pass rfl rfl rfl rfl ?_
  refine r_pass rfl rfl rfl rfl ?_
  refine r_pass rfl rfl rfl rfl ?_
  refine r_pick_f rfl rfl rfl ?_
  refine r_assign rfl rfl ?_
  refine r_nil ?_
  refine r_tn ?_
  refine r_seq ?_
  refine r_seq ?_
  refine r_region ?_
  refine r_loadV rfl rfl rfl rfl rfl ?_
  refine r_move rfl rfl ?_
  refine r_call (v := .bool false) rfl rfl rfl (by kernel_rfl) rfl (fun w hw => by have h := rowGet (cutP p wide) x w; rw [get_out (p := (cutP p wide)) (x := x) (by omega)] at h; exact h) ?_
  refine r_move rfl rfl ?_
  refine r_neq_bool (p := false) rfl rfl rfl rfl (by simp) ?_
  refine r_move rfl rfl ?_
  refine r_go rfl rfl ?_
  refine r_loadV rfl rfl rfl rfl rfl ?_
  refine r_go rfl rfl ?_
  refine r_move rfl rfl ?_
  refine r_go rfl rfl ?_
  refine r_convert rfl rfl rfl rfl (w64 (by omega)) ?_
  refine r_go rfl rfl ?_
  refine r_move rfl rfl ?_
  refine r_go rfl rfl ?_
  refine r_call rfl rfl rfl (by kernel_rfl) rfl (fun w hw => by exact rowShift (cutP p wide) n wide w (by omega)) ?_
  refine r_go rfl rfl ?_
  refine r_callx rfl rfl rfl (by kernel_rfl) rfl (fun w hw => lawPixels (shiftP (cutP p wide) n wide) w) ?_
  rintro b59 _
  refine r_go rfl rfl ?_
  refine r_move rfl rfl ?_
  refine r_go rfl rfl ?_
  refine r_move rfl rfl ?_
  refine r_go rfl rfl ?_
  refine r_convert rfl rfl rfl rfl (w64 (by omega)) ?_
  refine r_go rfl rfl ?_
  refine r_move rfl rfl ?_
  refine r_go rfl rfl ?_
  refine r_callx rfl rfl rfl (by kernel_rfl) rfl (fun w hw => refShift (cutP p wide) n wide b31 128 w (own_rd (A := some ⟨b31, 0, none⟩) (m := 128) (c := 128) hw) (by omega) (fun y hy _ => cut_out hy)) ?_
  rintro b64 _
  refine r_go rfl rfl ?_
  refine r_call (v := .bool true) rfl rfl rfl (by kernel_rfl) rfl (fun w hw => by have h := refSame (shiftP (cutP p wide) n wide) (shiftP (cutP p wide) n wide) b59 b64 128 128 w (own_rd (A := some ⟨b59, 0, none⟩) (m := 128) (c := 128) hw) (own_rd (A := some ⟨b64, 0, none⟩) (m := 128) (c := 128) hw); rw [show (eqB (shiftP (cutP p wide) n wide) (shiftP (cutP p wide) n wide)) = true from eqB_self _] at h; exact h) ?_
  refine r_go rfl rfl ?_
  refine r_not rfl rfl rfl ?_
  refine r_pick_f rfl rfl rfl ?_
  refine r_nil ?_
  refine r_tn ?_
  refine r_cond_f rfl ?_
  refine r_skip ?_
  refine r_tn ?_
  refine r_seq ?_
  refine r_region ?_
  refine r_assign rfl rfl ?_
  refine r_nil ?_
  refine r_tn ?_
  refine r_seq ?_
  refine r_seq ?_
  refine r_region ?_
  refine r_move rfl rfl ?_
  refine r_nil ?_
  refine r_tn ?_
  refine r_cond_t rfl ?_
  refine r_region ?_
  refine r_assign rfl rfl ?_
  refine r_nil ?_
  refine r_tn ?_
  refine r_seq ?_
  refine r_region ?_
  refine r_move rfl rfl ?_
  refine r_move rfl rfl ?_
  refine r_sub rfl rfl rfl (w64 (by omega)) ?_
  refine r_min rfl rfl rfl rfl ?_
  refine r_max (r := (at_ : Int)) rfl rfl rfl hat ?_
  refine r_assign rfl rfl ?_
  refine r_nil ?_
  refine r_tn ?_
  refine r_seq ?_
  refine r_seq ?_
  refine r_region ?_
  refine r_assign rfl rfl ?_
  refine r_nil ?_
  refine r_tn ?_
  refine r_block ?_
  refine r_loopN (fun i => [(5, .int .u16 (bits : Int)), (15, .pointer (some ⟨b15, 0, none⟩)), (16, .slice (some ⟨b31, 0, none⟩) 128 128), (17, .int .i64 (wd wide : Nat)), (19, .int .i64 16), (20, .int .i64 (at_ : Int)), (21, .int .i64 (i : Int))]) (fun i => [.blk b15 (.cells (rowV (cutP p wide)) 27 (0, 0)), .own 4 1 (.slice (some ⟨b31, 0, none⟩) 128 128) 128 (boolsN 128 (cutP p wide))]) (fun i => i ≤ 2) 2 0 (by omega) ⟨rfl, rfl, rfl, rfl, rfl, rfl, rfl, trivial⟩ (fun w hw => hw.sub) fun i hi => ?_
  refine r_seq ?_
  refine r_seq ?_
  refine r_region ?_
  refine r_move rfl rfl ?_
  refine r_lss rfl rfl rfl rfl ?_
  refine r_nil ?_
  refine r_tn ?_
  refine r_cond rfl (fun hc => ?_) (fun hc => ?_)
  · refine r_skip ?_
    refine r_tn ?_
    refine r_seq ?_
    refine r_block ?_
    refine r_seq ?_
    refine r_region ?_
    have hi2 : i < 2 := by have h := of_decide_eq_true hc; omega
    refine r_move rfl rfl ?_
    refine r_move rfl rfl ?_
    refine r_move rfl rfl ?_
    refine r_move rfl rfl ?_
    refine r_move rfl rfl ?_
    refine r_eql rfl rfl rfl rfl ?_
    refine r_call rfl rfl rfl (by kernel_rfl) rfl (fun w hw => by exact rowSprite bits 16 at_ (wd wide) (decide ((i : Int) = 1)) w hb (by omega) (by omega) (by omega)) ?_
    refine r_callx rfl rfl rfl (by kernel_rfl) rfl (fun w hw => lawPixels (sprK bits 16 at_ (wd wide) (decide ((i : Int) = 1)) 16) w) ?_
    rintro b85 _
    refine r_move rfl rfl ?_
    refine r_move rfl rfl ?_
    refine r_move rfl rfl ?_
    refine r_move rfl rfl ?_
    refine r_move rfl rfl ?_
    refine r_eql rfl rfl rfl rfl ?_
    refine r_callx rfl rfl rfl (by kernel_rfl) rfl (fun w hw => refSprite bits 16 at_ (wd wide) (decide ((i : Int) = 1)) w hb (by omega) (by omega) (by omega)) ?_
    rintro b92 _
    refine r_call (v := .bool true) rfl rfl rfl (by kernel_rfl) rfl (fun w hw => by have h := refSame (sprK bits 16 at_ (wd wide) (decide ((i : Int) = 1)) 16) (sprK bits 16 at_ (wd wide) (decide ((i : Int) = 1)) 16) b85 b92 128 128 w (own_rd (A := some ⟨b85, 0, none⟩) (m := 128) (c := 128) hw) (own_rd (A := some ⟨b92, 0, none⟩) (m := 128) (c := 128) hw); rw [show (eqB (sprK bits 16 at_ (wd wide) (decide ((i : Int) = 1)) 16) (sprK bits 16 at_ (wd wide) (decide ((i : Int) = 1)) 16)) = true from eqB_self _] at h; exact h) ?_
    refine r_not rfl rfl rfl ?_
    refine r_nil ?_
    refine r_tn ?_
    refine r_cond_f rfl ?_
    refine r_skip ?_
    refine r_bn ?_
    refine r_tn ?_
    refine r_region ?_
    refine r_move rfl rfl ?_
    refine r_add rfl rfl rfl (w64 (by omega)) ?_
    refine r_assign rfl rfl ?_
    refine r_nil ?_
    refine r_tn ?_
    exact r_againN (i + 1) (by omega) (by omega) ⟨rfl, rfl, rfl, rfl, rfl, rfl, rfl, trivial⟩ (fun w hw => hw.sub)
  · refine r_exit ?_
    refine r_te ?_
    refine r_te ?_
    refine r_be ?_
    refine r_tn ?_
    refine r_seq ?_
    refine r_region ?_
    refine r_assign rfl rfl ?_
    refine r_nil ?_
    refine r_tn ?_
    refine r_seq ?_
    refine r_seq ?_
    refine r_region ?_
    refine r_assign rfl rfl ?_
    refine r_nil ?_
    refine r_tn ?_
    refine r_block ?_
    refine r_loopN (fun i => [(15, .pointer (some ⟨b15, 0, none⟩)), (16, .slice (some ⟨b31, 0, none⟩) 128 128), (22, .int .i64 ((cnt (cutP p wide) i : Nat) : Int)), (23, .int .i64 (i : Int))]) (fun i => [.blk b15 (.cells (rowV (cutP p wide)) 27 (0, 0)), .own 4 1 (.slice (some ⟨b31, 0, none⟩) 128 128) 128 (boolsN 128 (cutP p wide))]) (fun i => i ≤ 128) 128 0 (by omega) ⟨rfl, rfl, rfl, rfl, trivial⟩ (fun w hw => hw.sub) fun i hi => ?_
    refine r_seq ?_
    refine r_seq ?_
    refine r_region ?_
    refine r_move rfl rfl ?_
    refine r_lss rfl rfl rfl rfl ?_
    refine r_nil ?_
    refine r_tn ?_
    refine r_cond rfl (fun hc => ?_) (fun hc => ?_)
    · refine r_skip ?_
      refine r_tn ?_
      refine r_seq ?_
      refine r_block ?_
      refine r_seq ?_
      refine r_region ?_
      have hi2 : i < 128 := by have h := of_decide_eq_true hc; omega
      refine r_move rfl rfl ?_
      refine r_move rfl rfl ?_
      refine r_indexSl (sz := 1) (o' := i) rfl rfl rfl rfl rfl (by omega) (by omega) (by first | (simp; done) | (simp; omega) | omega) ?_
      refine r_loadC (p := ⟨b31, i, none⟩) rfl rfl rfl (fun w hw => ((own_rd (A := some ⟨b31, 0, none⟩) (m := 128) (c := 128) hw).cell (boolsN_at (cutP p wide) hi2) rfl) |> fun h => by simpa using h) ?_
      refine r_nil ?_
      refine r_tn ?_
      refine r_cond rfl (fun hc => ?_) (fun hc => ?_)
      · refine r_region ?_
        refine r_move rfl rfl ?_
        have hcl := cnt_le (cutP p wide) i
        refine r_add (r := ((cnt (cutP p wide) (i + 1) : Nat) : Int)) rfl rfl rfl ((w64 (by omega)).trans (by rw [cnt_yes hc]; omega)) ?_
        refine r_assign rfl rfl ?_
        refine r_nil ?_
        refine r_bn ?_
        refine r_tn ?_
        refine r_region ?_
        refine r_move rfl rfl ?_
        refine r_add rfl rfl rfl (w64 (by omega)) ?_
        refine r_assign rfl rfl ?_
        refine r_nil ?_
        refine r_tn ?_
        exact r_againN (i + 1) (by omega) (by omega) ⟨rfl, rfl, by first | rfl | exact congrArg (fun z : Nat => some (Value.int .i64 (z : Int))) (cnt_no hc).symm, rfl, trivial⟩ (fun w hw => hw.sub)
      · refine r_skip ?_
        refine r_bn ?_
        refine r_tn ?_
        refine r_region ?_
        refine r_move rfl rfl ?_
        refine r_add rfl rfl rfl (w64 (by omega)) ?_
        refine r_assign rfl rfl ?_
        refine r_nil ?_
        refine r_tn ?_
        exact r_againN (i + 1) (by omega) (by omega) ⟨rfl, rfl, by first | rfl | exact congrArg (fun z : Nat => some (Value.int .i64 (z : Int))) (cnt_no hc).symm, rfl, trivial⟩ (fun w hw => hw.sub)
    · refine r_exit ?_
      refine r_te ?_
      refine r_te ?_
      refine r_be ?_
      refine r_tn ?_
      refine r_seq ?_
      refine r_region ?_
      have hi3 : i = 128 := by have h := of_decide_eq_false hc; omega
      subst hi3
      refine r_loadV rfl rfl rfl rfl rfl ?_
      refine r_call rfl rfl rfl (by kernel_rfl) rfl (fun w hw => by exact rowCount (cutP p wide) w) ?_
      refine r_move rfl rfl ?_
      refine r_eql rfl rfl rfl (decide_eq_true rfl) ?_
      refine r_move rfl rfl ?_
      refine r_go rfl rfl ?_
      refine r_loadV rfl rfl rfl rfl rfl ?_
      refine r_go rfl rfl ?_
      refine r_call rfl rfl rfl (by kernel_rfl) rfl (fun w hw => by exact rowEmpty (cutP p wide) w) ?_
      refine r_go rfl rfl ?_
      refine r_move rfl rfl ?_
      refine r_go rfl rfl ?_
      refine r_eql rfl rfl rfl rfl ?_
      refine r_go rfl rfl ?_
      refine r_eql_bool (p := true) rfl rfl rfl rfl (cnt_zero (cutP p wide)) ?_
      refine r_pick_t rfl rfl rfl ?_
      refine r_assign rfl rfl ?_
      refine r_nil ?_
      refine r_tn ?_
      refine r_ret ?_
      exact r_done1 (.inl rfl) rfl (res_tmp rfl) fun w hw => ⟨rfl, hw.clear⟩

theorem match06_hi8 (p : Nat → Bool) (wide : Bool) (x n : Int) (bits at_ : Nat) (W : World) (hx : 127 < x) (hn : -128 ≤ n ∧ n ≤ 127) (hb : bits < 65536) (hlt : at_ < wd wide) (hat : AtOf wide x at_) :
    Calls Try.prog 3 #[.int .u64 ((hiN p : Nat) : Int), .int .u64 ((loN p : Nat) : Int), .bool wide, .int .i64 x, .int .i8 n, .int .u16 (bits : Int), .bool false] W fun e w' => e = .returned (.bool true) ∧ Sat W [] [] w' := by
  have h128 : wd wide ≤ 128 := by cases wide <;> decide
  have h64 : 64 ≤ wd wide := by cases wide <;> decide
  refine enter Try.func3 rfl rfl rfl ?_
  refine r_seq ?_
  refine r_region ?_
  refine r_assign rfl rfl ?_
  refine r_nil ?_
  refine r_tn ?_
  refine r_seq ?_
  refine r_seq ?_
  refine r_region ?_
  refine r_call rfl rfl rfl (by kernel_rfl) rfl (fun w hw => by exact awake06 w) ?_
  refine r_not rfl rfl rfl ?_
  refine r_nil ?_
  refine r_tn ?_
  refine r_cond_f rfl ?_
  refine r_skip ?_
  refine r_tn ?_
  refine r_seq ?_
  refine r_region ?_
  refine r_move rfl rfl ?_
  refine r_move rfl rfl ?_
  refine r_move rfl rfl ?_
  refine r_call rfl rfl rfl (by kernel_rfl) rfl (fun w hw => by exact make06 p wide w) ?_
  refine r_allocV (cs := #[.int .u64 0, .int .u64 0]) rfl rfl fun b15 => ?_
  refine r_storeV rfl rfl rfl rfl rfl rfl ?_
  refine r_nil ?_
  refine r_tn ?_
  refine r_seq ?_
  refine r_region ?_
  refine r_loadV rfl rfl rfl rfl rfl ?_
  refine r_callx rfl rfl rfl (by kernel_rfl) rfl (fun w hw => lawPixels (cutP p wide) w) ?_
  rintro b31 _
  refine r_assign rfl rfl ?_
  refine r_nil ?_
  refine r_tn ?_
  refine r_seq ?_
  refine r_region ?_
  refine r_move rfl rfl ?_
  refine r_call rfl rfl rfl (by kernel_rfl) rfl (fun w hw => by exact width06 wide w) ?_
  refine r_assign rfl rfl ?_
  refine r_nil ?_
  refine r_tn ?_
  refine r_seq ?_
  refine r_region ?_
  refine r_move rfl rfl ?_
  refine r_geq rfl rfl rfl (decide_eq_true (by omega)) ?_
  refine r_move rfl rfl ?_
  refine r_go rfl rfl ?_
  refine r_move rfl rfl ?_
  refine r_go rfl rfl ?_
  refine r_leq rfl rfl rfl (decide_eq_false (by omega)) ?_
  refine r_pick_t rfl rfl rfl ?_
  refine r_move rfl rfl ?_
  refine r_pass rfl rfl rfl rfl ?_
  refine r_pass rfl rfl rfl rfl ?_
  refine r_pass rfl rfl rfl rfl ?_
  refine r_pass rfl rfl rfl rfl ?_
  refine r_pass rfl rfl rfl rfl ?_
  refine r_pass rfl rfl rfl rfl ?_
  refine r_pick_f rfl rfl rfl ?_
  refine r_assign rfl rfl ?_
  refine r_nil ?_
  refine r_tn ?_
  refine r_seq ?_
  refine r_seq ?_
  refine r_region ?_
  refine r_loadV rfl rfl rfl rfl rfl ?_
  refine r_move rfl rfl ?_
  refine r_call (v := .bool false) rfl rfl rfl (by kernel_rfl) rfl (fun w hw => by have h := rowGet (cutP p wide) x w; rw [get_out (p := (cutP p wide)) (x := x) (by omega)] at h; exact h) ?_
  refine r_move rfl rfl ?_
  refine r_neq_bool (p := false) rfl rfl rfl rfl (by simp) ?_
  refine r_move rfl rfl ?_
  refine r_go rfl rfl ?_
  refine r_loadV rfl rfl rfl rfl rfl ?_
  refine r_go rfl rfl ?_
  refine r_move rfl rfl ?_
  refine r_go rfl rfl ?_
  refine r_convert rfl rfl rfl rfl (w64 (by omega)) ?_
  refine r_go rfl rfl ?_
  refine r_move rfl rfl ?_
  refine r_go rfl rfl ?_
  refine r_call rfl rfl rfl (by kernel_rfl) rfl (fun w hw => by exact rowShift (cutP p wide) n wide w (by omega)) ?_
  refine r_go rfl rfl ?_
  refine r_callx rfl rfl rfl (by kernel_rfl) rfl (fun w hw => lawPixels (shiftP (cutP p wide) n wide) w) ?_
  rintro b59 _
  refine r_go rfl rfl ?_
  refine r_move rfl rfl ?_
  refine r_go rfl rfl ?_
  refine r_move rfl rfl ?_
  refine r_go rfl rfl ?_
  refine r_convert rfl rfl rfl rfl (w64 (by omega)) ?_
  refine r_go rfl rfl ?_
  refine r_move rfl rfl ?_
  refine r_go rfl rfl ?_
  refine r_callx rfl rfl rfl (by kernel_rfl) rfl (fun w hw => refShift (cutP p wide) n wide b31 128 w (own_rd (A := some ⟨b31, 0, none⟩) (m := 128) (c := 128) hw) (by omega) (fun y hy _ => cut_out hy)) ?_
  rintro b64 _
  refine r_go rfl rfl ?_
  refine r_call (v := .bool true) rfl rfl rfl (by kernel_rfl) rfl (fun w hw => by have h := refSame (shiftP (cutP p wide) n wide) (shiftP (cutP p wide) n wide) b59 b64 128 128 w (own_rd (A := some ⟨b59, 0, none⟩) (m := 128) (c := 128) hw) (own_rd (A := some ⟨b64, 0, none⟩) (m := 128) (c := 128) hw); rw [show (eqB (shiftP (cutP p wide) n wide) (shiftP (cutP p wide) n wide)) = true from eqB_self _] at h; exact h) ?_
  refine r_go rfl rfl ?_
  refine r_not rfl rfl rfl ?_
  refine r_pick_f rfl rfl rfl ?_
  refine r_nil ?_
  refine r_tn ?_
  refine r_cond_f rfl ?_
  refine r_skip ?_
  refine r_tn ?_
  refine r_seq ?_
  refine r_region ?_
  refine r_assign rfl rfl ?_
  refine r_nil ?_
  refine r_tn ?_
  refine r_seq ?_
  refine r_seq ?_
  refine r_region ?_
  refine r_move rfl rfl ?_
  refine r_nil ?_
  refine r_tn ?_
  refine r_cond_f rfl ?_
  refine r_skip ?_
  refine r_tn ?_
  refine r_seq ?_
  refine r_region ?_
  refine r_move rfl rfl ?_
  refine r_move rfl rfl ?_
  refine r_sub rfl rfl rfl (w64 (by omega)) ?_
  refine r_min rfl rfl rfl rfl ?_
  refine r_max (r := (at_ : Int)) rfl rfl rfl hat ?_
  refine r_assign rfl rfl ?_
  refine r_nil ?_
  refine r_tn ?_
  refine r_seq ?_
  refine r_seq ?_
  refine r_region ?_
  refine r_assign rfl rfl ?_
  refine r_nil ?_
  refine r_tn ?_
  refine r_block ?_
  refine r_loopN (fun i => [(5, .int .u16 (bits : Int)), (15, .pointer (some ⟨b15, 0, none⟩)), (16, .slice (some ⟨b31, 0, none⟩) 128 128), (17, .int .i64 (wd wide : Nat)), (19, .int .i64 8), (20, .int .i64 (at_ : Int)), (21, .int .i64 (i : Int))]) (fun i => [.blk b15 (.cells (rowV (cutP p wide)) 27 (0, 0)), .own 4 1 (.slice (some ⟨b31, 0, none⟩) 128 128) 128 (boolsN 128 (cutP p wide))]) (fun i => i ≤ 2) 2 0 (by omega) ⟨rfl, rfl, rfl, rfl, rfl, rfl, rfl, trivial⟩ (fun w hw => hw.sub) fun i hi => ?_
  refine r_seq ?_
  refine r_seq ?_
  refine r_region ?_
  refine r_move rfl rfl ?_
  refine r_lss rfl rfl rfl rfl ?_
  refine r_nil ?_
  refine r_tn ?_
  refine r_cond rfl (fun hc => ?_) (fun hc => ?_)
  · refine r_skip ?_
    refine r_tn ?_
    refine r_seq ?_
    refine r_block ?_
    refine r_seq ?_
    refine r_region ?_
    have hi2 : i < 2 := by have h := of_decide_eq_true hc; omega
    refine r_move rfl rfl ?_
    refine r_move rfl rfl ?_
    refine r_move rfl rfl ?_
    refine r_move rfl rfl ?_
    refine r_move rfl rfl ?_
    refine r_eql rfl rfl rfl rfl ?_
    refine r_call rfl rfl rfl (by kernel_rfl) rfl (fun w hw => by exact rowSprite bits 8 at_ (wd wide) (decide ((i : Int) = 1)) w hb (by omega) (by omega) (by omega)) ?_
    refine r_callx rfl rfl rfl (by kernel_rfl) rfl (fun w hw => lawPixels (sprK bits 8 at_ (wd wide) (decide ((i : Int) = 1)) 8) w) ?_
    rintro b85 _
    refine r_move rfl rfl ?_
    refine r_move rfl rfl ?_
    refine r_move rfl rfl ?_
    refine r_move rfl rfl ?_
    refine r_move rfl rfl ?_
    refine r_eql rfl rfl rfl rfl ?_
    refine r_callx rfl rfl rfl (by kernel_rfl) rfl (fun w hw => refSprite bits 8 at_ (wd wide) (decide ((i : Int) = 1)) w hb (by omega) (by omega) (by omega)) ?_
    rintro b92 _
    refine r_call (v := .bool true) rfl rfl rfl (by kernel_rfl) rfl (fun w hw => by have h := refSame (sprK bits 8 at_ (wd wide) (decide ((i : Int) = 1)) 8) (sprK bits 8 at_ (wd wide) (decide ((i : Int) = 1)) 8) b85 b92 128 128 w (own_rd (A := some ⟨b85, 0, none⟩) (m := 128) (c := 128) hw) (own_rd (A := some ⟨b92, 0, none⟩) (m := 128) (c := 128) hw); rw [show (eqB (sprK bits 8 at_ (wd wide) (decide ((i : Int) = 1)) 8) (sprK bits 8 at_ (wd wide) (decide ((i : Int) = 1)) 8)) = true from eqB_self _] at h; exact h) ?_
    refine r_not rfl rfl rfl ?_
    refine r_nil ?_
    refine r_tn ?_
    refine r_cond_f rfl ?_
    refine r_skip ?_
    refine r_bn ?_
    refine r_tn ?_
    refine r_region ?_
    refine r_move rfl rfl ?_
    refine r_add rfl rfl rfl (w64 (by omega)) ?_
    refine r_assign rfl rfl ?_
    refine r_nil ?_
    refine r_tn ?_
    exact r_againN (i + 1) (by omega) (by omega) ⟨rfl, rfl, rfl, rfl, rfl, rfl, rfl, trivial⟩ (fun w hw => hw.sub)
  · refine r_exit ?_
    refine r_te ?_
    refine r_te ?_
    refine r_be ?_
    refine r_tn ?_
    refine r_seq ?_
    refine r_region ?_
    refine r_assign rfl rfl ?_
    refine r_nil ?_
    refine r_tn ?_
    refine r_seq ?_
    refine r_seq ?_
    refine r_region ?_
    refine r_assign rfl rfl ?_
    refine r_nil ?_
    refine r_tn ?_
    refine r_block ?_
    refine r_loopN (fun i => [(15, .pointer (some ⟨b15, 0, none⟩)), (16, .slice (some ⟨b31, 0, none⟩) 128 128), (22, .int .i64 ((cnt (cutP p wide) i : Nat) : Int)), (23, .int .i64 (i : Int))]) (fun i => [.blk b15 (.cells (rowV (cutP p wide)) 27 (0, 0)), .own 4 1 (.slice (some ⟨b31, 0, none⟩) 128 128) 128 (boolsN 128 (cutP p wide))]) (fun i => i ≤ 128) 128 0 (by omega) ⟨rfl, rfl, rfl, rfl, trivial⟩ (fun w hw => hw.sub) fun i hi => ?_
    refine r_seq ?_
    refine r_seq ?_
    refine r_region ?_
    refine r_move rfl rfl ?_
    refine r_lss rfl rfl rfl rfl ?_
    refine r_nil ?_
    refine r_tn ?_
    refine r_cond rfl (fun hc => ?_) (fun hc => ?_)
    · refine r_skip ?_
      refine r_tn ?_
      refine r_seq ?_
      refine r_block ?_
      refine r_seq ?_
      refine r_region ?_
      have hi2 : i < 128 := by have h := of_decide_eq_true hc; omega
      refine r_move rfl rfl ?_
      refine r_move rfl rfl ?_
      refine r_indexSl (sz := 1) (o' := i) rfl rfl rfl rfl rfl (by omega) (by omega) (by first | (simp; done) | (simp; omega) | omega) ?_
      refine r_loadC (p := ⟨b31, i, none⟩) rfl rfl rfl (fun w hw => ((own_rd (A := some ⟨b31, 0, none⟩) (m := 128) (c := 128) hw).cell (boolsN_at (cutP p wide) hi2) rfl) |> fun h => by simpa using h) ?_
      refine r_nil ?_
      refine r_tn ?_
      refine r_cond rfl (fun hc => ?_) (fun hc => ?_)
      · refine r_region ?_
        refine r_move rfl rfl ?_
        have hcl := cnt_le (cutP p wide) i
        refine r_add (r := ((cnt (cutP p wide) (i + 1) : Nat) : Int)) rfl rfl rfl ((w64 (by omega)).trans (by rw [cnt_yes hc]; omega)) ?_
        refine r_assign rfl rfl ?_
        refine r_nil ?_
        refine r_bn ?_
        refine r_tn ?_
        refine r_region ?_
        refine r_move rfl rfl ?_
        refine r_add rfl rfl rfl (w64 (by omega)) ?_
        refine r_assign rfl rfl ?_
        refine r_nil ?_
        refine r_tn ?_
        exact r_againN (i + 1) (by omega) (by omega) ⟨rfl, rfl, by first | rfl | exact congrArg (fun z : Nat => some (Value.int .i64 (z : Int))) (cnt_no hc).symm, rfl, trivial⟩ (fun w hw => hw.sub)
      · refine r_skip ?_
        refine r_bn ?_
        refine r_tn ?_
        refine r_region ?_
        refine r_move rfl rfl ?_
        refine r_add rfl rfl rfl (w64 (by omega)) ?_
        refine r_assign rfl rfl ?_
        refine r_nil ?_
        refine r_tn ?_
        exact r_againN (i + 1) (by omega) (by omega) ⟨rfl, rfl, by first | rfl | exact congrArg (fun z : Nat => some (Value.int .i64 (z : Int))) (cnt_no hc).symm, rfl, trivial⟩ (fun w hw => hw.sub)
    · refine r_exit ?_
      refine r_te ?_
      refine r_te ?_
      refine r_be ?_
      refine r_tn ?_
      refine r_seq ?_
      refine r_region ?_
      have hi3 : i = 128 := by have h := of_decide_eq_false hc; omega
      subst hi3
      refine r_loadV rfl rfl rfl rfl rfl ?_
      refine r_call rfl rfl rfl (by kernel_rfl) rfl (fun w hw => by exact rowCount (cutP p wide) w) ?_
      refine r_move rfl rfl ?_
      refine r_eql rfl rfl rfl (decide_eq_true rfl) ?_
      refine r_move rfl rfl ?_
      refine r_go rfl rfl ?_
      refine r_loadV rfl rfl rfl rfl rfl ?_
      refine r_go rfl rfl ?_
      refine r_call rfl rfl rfl (by kernel_rfl) rfl (fun w hw => by exact rowEmpty (cutP p wide) w) ?_
      refine r_go rfl rfl ?_
      refine r_move rfl rfl ?_
      refine r_go rfl rfl ?_
      refine r_eql rfl rfl rfl rfl ?_
      refine r_go rfl rfl ?_
      refine r_eql_bool (p := true) rfl rfl rfl rfl (cnt_zero (cutP p wide)) ?_
      refine r_pick_t rfl rfl rfl ?_
      refine r_assign rfl rfl ?_
      refine r_nil ?_
      refine r_tn ?_
      refine r_ret ?_
      exact r_done1 (.inl rfl) rfl (res_tmp rfl) fun w hw => ⟨rfl, hw.clear⟩

theorem RowMatchesReference_walk (a b : Int) (wide : Bool) (x n bits : Int) (big : Bool) (W : World) (ha : (Lit.int .u64 a).wf = true) (hb : (Lit.int .u64 b).wf = true) (hx : (Lit.int .i64 x).wf = true) (hn : (Lit.int .i8 n).wf = true) (hbits : (Lit.int .u16 bits).wf = true) :
    Calls Try.prog 3 #[.int .u64 a, .int .u64 b, .bool wide, .int .i64 x, .int .i8 n, .int .u16 bits, .bool big] W fun e w' => e = .returned (.bool true) ∧ Sat W [] [] w' := by
  obtain ⟨p, rfl, rfl⟩ := row_of (wfU ha) (wfU hb)
  have h1 := wfi8 hn
  have h2 := wfu16 hbits
  have h64 : 64 ≤ wd wide := by cases wide <;> decide
  obtain ⟨bt, rfl⟩ := Int.eq_ofNat_of_zero_le h2.1
  obtain ⟨m, hm⟩ : ∃ m, (if ((wd wide : Nat) : Int) - 1 < x then ((wd wide : Nat) : Int) - 1 else x) = m := ⟨_, rfl⟩
  obtain ⟨at_, hat, hlt⟩ : ∃ at_ : Nat, (if 0 > m then 0 else m) = (at_ : Int) ∧ at_ < wd wide := by
    refine ⟨(if 0 > m then 0 else m).toNat, ?_, ?_⟩
    · split <;> omega
    · split at hm <;> split <;> omega
  rw [← hm] at hat
  have hat : AtOf wide x at_ := hat
  by_cases h0 : x < 0
  · cases big
    · exact match06_lo8 p wide x n bt at_ W h0 h1 (by omega) hlt hat
    · exact match06_lo16 p wide x n bt at_ W h0 h1 (by omega) hlt hat
  · by_cases h3 : 127 < x
    · cases big
      · exact match06_hi8 p wide x n bt at_ W h3 h1 (by omega) hlt hat
      · exact match06_hi16 p wide x n bt at_ W h3 h1 (by omega) hlt hat
    · cases big
      · exact match06_in8 p wide x n bt at_ W (by omega) h1 (by omega) hlt hat
      · exact match06_in16 p wide x n bt at_ W (by omega) h1 (by omega) hlt hat
end Go.Proofs.Ytahanpobeekhiaa
