/-
  PlaneMatchesReference: planes answer as the reference answers.
-/
import Derived.Test.YtahanpobeekhiaaRefE07
namespace Go.Proofs.Ytahanpobeekhiaa
open Go Go.RowKit
set_option linter.unusedVariables false
set_option linter.unusedSimpArgs false
set_option maxHeartbeats 2000000
attribute [local irreducible] mix

theorem all_u16 {l : List Int} (h : ∀ n, n ∈ l → (Lit.int .u16 n).wf = true) : l.all (fun z => decide (0 ≤ z) && decide (z ≤ 65535)) = true :=
  List.all_eq_true.2 fun z hz => by have h2 := wfu16 (h z hz); simp; omega
theorem right_get {n : Nat} {x y : Int} {hires : Bool} (h : rightM7 n x y hires = true) : n ≤ 16 ∧ ∃ x1 y1 : Nat, x = (x1 : Int) ∧ y = (y1 : Int) ∧ x1 < wd hires ∧ y1 < ht hires := by
  simp only [rightM7, Bool.and_eq_true, decide_eq_true_eq] at h
  exact ⟨by omega, x.toNat, y.toNat, by omega, by omega, by omega, by omega⟩


theorem pixQ_at (P : Nat → Nat → Bool) {x y : Nat} (hx : x < 128) (hy : y < 64) : pixQ P (x : Int) (y : Int) = P y x := by
  unfold pixQ
  rw [decide_eq_true (show (0 : Int) ≤ (y : Int) by omega), decide_eq_true (show (y : Int) < 64 by omega), getB_nat _ hx]
  rfl


theorem pmatch_no (fr st ct dx dy : Int) (A : Option Addr) (c : Nat) (l : List Int) (big : Bool) (x y : Int) (hires clip : Bool) (W : World) (hR : rightM7 l.length x y hires = false) :
    Calls Try.prog 8 #[.agg #[.int .i64 fr, .int .i64 st, .int .i64 ct], .int .i8 dx, .int .i8 dy, .slice A l.length c, .bool big, .int .i64 x, .int .i64 y, .bool hires, .bool clip] W fun e w' => e = .returned (.bool true) ∧ Sat W [] [] w' := by
  refine enter Try.func8 rfl rfl rfl ?_
  refine r_seq ?_
  refine r_region ?_
  refine r_boxV rfl rfl fun b9 => ?_
  refine r_assign rfl rfl ?_
  refine r_nil ?_
  refine r_tn ?_
  refine r_seq ?_
  refine r_seq ?_
  refine r_region ?_
  refine r_call rfl rfl rfl (by kernel_rfl) rfl (fun w hw => by exact awake07 w) ?_
  refine r_not rfl rfl rfl ?_
  refine r_move rfl rfl ?_
  refine r_go rfl rfl ?_
  refine r_move rfl rfl ?_
  refine r_go rfl rfl ?_
  refine r_move rfl rfl ?_
  refine r_go rfl rfl ?_
  refine r_move rfl rfl ?_
  refine r_go rfl rfl ?_
  refine r_move rfl rfl ?_
  refine r_go rfl rfl ?_
  refine r_call (v := .bool false) rfl rfl rfl (by kernel_rfl) rfl (fun w hw => by have h := right07 A l.length c x y hires w; rw [hR] at h; exact h) ?_
  refine r_go rfl rfl ?_
  refine r_not rfl rfl rfl ?_
  refine r_pick_f rfl rfl rfl ?_
  refine r_move rfl rfl ?_
  refine r_pass rfl rfl rfl rfl ?_
  refine r_pass rfl rfl rfl rfl ?_
  refine r_pick_t rfl rfl rfl ?_
  refine r_move rfl rfl ?_
  refine r_pass rfl rfl rfl rfl ?_
  refine r_pass rfl rfl rfl rfl ?_
  refine r_pick_t rfl rfl rfl ?_
  refine r_nil ?_
  refine r_tn ?_
  refine r_cond_t rfl ?_
  refine r_seq ?_
  refine r_region ?_
  refine r_call rfl rfl rfl (by kernel_rfl) rfl (fun w hw => by exact awake07 w) ?_
  refine r_assign rfl rfl ?_
  refine r_nil ?_
  refine r_tn ?_
  refine r_ret ?_
  refine r_tr ?_
  exact r_done1 (.inl rfl) rfl (res_tmp rfl) fun w hw => ⟨rfl, hw.clear⟩

theorem pmatch_lo (fr st ct dx dy : Int) (A : Option Addr) (c : Nat) (l : List Int) (big : Bool) (x y : Int) (hires clip : Bool) (W : World) (hR : rightM7 l.length x y hires = true) (hd : dy < -64) :
    Calls Try.prog 8 #[.agg #[.int .i64 fr, .int .i64 st, .int .i64 ct], .int .i8 dx, .int .i8 dy, .slice A l.length c, .bool big, .int .i64 x, .int .i64 y, .bool hires, .bool clip] W fun e w' => e = .returned (.bool true) ∧ Sat W [] [] w' := by
  refine enter Try.func8 rfl rfl rfl ?_
  refine r_seq ?_
  refine r_region ?_
  refine r_boxV rfl rfl fun b9 => ?_
  refine r_assign rfl rfl ?_
  refine r_nil ?_
  refine r_tn ?_
  refine r_seq ?_
  refine r_seq ?_
  refine r_region ?_
  refine r_call rfl rfl rfl (by kernel_rfl) rfl (fun w hw => by exact awake07 w) ?_
  refine r_not rfl rfl rfl ?_
  refine r_move rfl rfl ?_
  refine r_go rfl rfl ?_
  refine r_move rfl rfl ?_
  refine r_go rfl rfl ?_
  refine r_move rfl rfl ?_
  refine r_go rfl rfl ?_
  refine r_move rfl rfl ?_
  refine r_go rfl rfl ?_
  refine r_move rfl rfl ?_
  refine r_go rfl rfl ?_
  refine r_call (v := .bool true) rfl rfl rfl (by kernel_rfl) rfl (fun w hw => by have h := right07 A l.length c x y hires w; rw [hR] at h; exact h) ?_
  refine r_go rfl rfl ?_
  refine r_not rfl rfl rfl ?_
  refine r_pick_f rfl rfl rfl ?_
  refine r_move rfl rfl ?_
  refine r_go rfl rfl ?_
  refine r_move rfl rfl ?_
  refine r_go rfl rfl ?_
  refine r_lss rfl rfl rfl (decide_eq_true (by omega)) ?_
  refine r_pick_f rfl rfl rfl ?_
  refine r_move rfl rfl ?_
  refine r_pass rfl rfl rfl rfl ?_
  refine r_pass rfl rfl rfl rfl ?_
  refine r_pick_t rfl rfl rfl ?_
  refine r_nil ?_
  refine r_tn ?_
  refine r_cond_t rfl ?_
  refine r_seq ?_
  refine r_region ?_
  refine r_call rfl rfl rfl (by kernel_rfl) rfl (fun w hw => by exact awake07 w) ?_
  refine r_assign rfl rfl ?_
  refine r_nil ?_
  refine r_tn ?_
  refine r_ret ?_
  refine r_tr ?_
  exact r_done1 (.inl rfl) rfl (res_tmp rfl) fun w hw => ⟨rfl, hw.clear⟩

theorem pmatch_hi (fr st ct dx dy : Int) (A : Option Addr) (c : Nat) (l : List Int) (big : Bool) (x y : Int) (hires clip : Bool) (W : World) (hR : rightM7 l.length x y hires = true) (hd : 64 < dy) :
    Calls Try.prog 8 #[.agg #[.int .i64 fr, .int .i64 st, .int .i64 ct], .int .i8 dx, .int .i8 dy, .slice A l.length c, .bool big, .int .i64 x, .int .i64 y, .bool hires, .bool clip] W fun e w' => e = .returned (.bool true) ∧ Sat W [] [] w' := by
  refine enter Try.func8 rfl rfl rfl ?_
  refine r_seq ?_
  refine r_region ?_
  refine r_boxV rfl rfl fun b9 => ?_
  refine r_assign rfl rfl ?_
  refine r_nil ?_
  refine r_tn ?_
  refine r_seq ?_
  refine r_seq ?_
  refine r_region ?_
  refine r_call rfl rfl rfl (by kernel_rfl) rfl (fun w hw => by exact awake07 w) ?_
  refine r_not rfl rfl rfl ?_
  refine r_move rfl rfl ?_
  refine r_go rfl rfl ?_
  refine r_move rfl rfl ?_
  refine r_go rfl rfl ?_
  refine r_move rfl rfl ?_
  refine r_go rfl rfl ?_
  refine r_move rfl rfl ?_
  refine r_go rfl rfl ?_
  refine r_move rfl rfl ?_
  refine r_go rfl rfl ?_
  refine r_call (v := .bool true) rfl rfl rfl (by kernel_rfl) rfl (fun w hw => by have h := right07 A l.length c x y hires w; rw [hR] at h; exact h) ?_
  refine r_go rfl rfl ?_
  refine r_not rfl rfl rfl ?_
  refine r_pick_f rfl rfl rfl ?_
  refine r_move rfl rfl ?_
  refine r_go rfl rfl ?_
  refine r_move rfl rfl ?_
  refine r_go rfl rfl ?_
  refine r_lss rfl rfl rfl (decide_eq_false (by omega)) ?_
  refine r_pick_f rfl rfl rfl ?_
  refine r_move rfl rfl ?_
  refine r_go rfl rfl ?_
  refine r_move rfl rfl ?_
  refine r_go rfl rfl ?_
  refine r_gtr rfl rfl rfl (decide_eq_true (by omega)) ?_
  refine r_pick_f rfl rfl rfl ?_
  refine r_nil ?_
  refine r_tn ?_
  refine r_cond_t rfl ?_
  refine r_seq ?_
  refine r_region ?_
  refine r_call rfl rfl rfl (by kernel_rfl) rfl (fun w hw => by exact awake07 w) ?_
  refine r_assign rfl rfl ?_
  refine r_nil ?_
  refine r_tn ?_
  refine r_ret ?_
  refine r_tr ?_
  exact r_done1 (.inl rfl) rfl (res_tmp rfl) fun w hw => ⟨rfl, hw.clear⟩

theorem pmatch_yes (fr st ct dx dy : Int) (A : Option Addr) (c : Nat) (l : List Int) (big : Bool) (x y : Nat) (hires clip : Bool) (W : World) (hdx : -128 ≤ dx ∧ dx ≤ 127) (hdy : -64 ≤ dy ∧ dy ≤ 64) (hw1 : l.all (fun z => decide (0 ≤ z) && decide (z ≤ 65535)) = true) (hA : Rd W A (l.map (Value.int .u16))) (hl : l.length ≤ 16) (hx : x < wd hires) (hy : y < ht hires) (hR : rightM7 l.length (x : Int) (y : Int) hires = true) :
    Calls Try.prog 8 #[.agg #[.int .i64 fr, .int .i64 st, .int .i64 ct], .int .i8 dx, .int .i8 dy, .slice A l.length c, .bool big, .int .i64 (x : Int), .int .i64 (y : Int), .bool hires, .bool clip] W fun e w' => e = .returned (.bool true) ∧ Sat W [] [] w' := by
  have hcb : cb big ≤ 16 := by cases big <;> decide
  have hwd : wd hires ≤ 128 := by cases hires <;> decide
  have hwd2 : 64 ≤ wd hires := by cases hires <;> decide
  have hht : ht hires ≤ 64 := by cases hires <;> decide
  have hht2 : 32 ≤ ht hires := by cases hires <;> decide
  refine enter Try.func8 rfl rfl rfl ?_
  refine r_seq ?_
  refine r_region ?_
  refine r_boxV rfl rfl fun b9 => ?_
  refine r_assign rfl rfl ?_
  refine r_nil ?_
  refine r_tn ?_
  refine r_seq ?_
  refine r_seq ?_
  refine r_region ?_
  refine r_call rfl rfl rfl (by kernel_rfl) rfl (fun w hw => by exact awake07 w) ?_
  refine r_not rfl rfl rfl ?_
  refine r_move rfl rfl ?_
  refine r_go rfl rfl ?_
  refine r_move rfl rfl ?_
  refine r_go rfl rfl ?_
  refine r_move rfl rfl ?_
  refine r_go rfl rfl ?_
  refine r_move rfl rfl ?_
  refine r_go rfl rfl ?_
  refine r_move rfl rfl ?_
  refine r_go rfl rfl ?_
  refine r_call (v := .bool true) rfl rfl rfl (by kernel_rfl) rfl (fun w hw => by have h := right07 A l.length c (x : Int) (y : Int) hires w; rw [hR] at h; exact h) ?_
  refine r_go rfl rfl ?_
  refine r_not rfl rfl rfl ?_
  refine r_pick_f rfl rfl rfl ?_
  refine r_move rfl rfl ?_
  refine r_go rfl rfl ?_
  refine r_move rfl rfl ?_
  refine r_go rfl rfl ?_
  refine r_lss rfl rfl rfl (decide_eq_false (by omega)) ?_
  refine r_pick_f rfl rfl rfl ?_
  refine r_move rfl rfl ?_
  refine r_go rfl rfl ?_
  refine r_move rfl rfl ?_
  refine r_go rfl rfl ?_
  refine r_gtr rfl rfl rfl (decide_eq_false (by omega)) ?_
  refine r_pick_f rfl rfl rfl ?_
  refine r_nil ?_
  refine r_tn ?_
  refine r_cond_f rfl ?_
  refine r_skip ?_
  refine r_tn ?_
  refine r_seq ?_
  refine r_region ?_
  refine r_loadV rfl rfl rfl rfl rfl ?_
  refine r_move rfl rfl ?_
  refine r_callx rfl rfl rfl (by kernel_rfl) rfl (fun w hw => refPlane07 fr st ct hires w) ?_
  rintro ⟨b52, P⟩ hp
  refine r_assign rfl rfl ?_
  refine r_nil ?_
  refine r_tn ?_
  refine r_seq ?_
  refine r_region ?_
  refine r_move rfl rfl ?_
  refine r_call rfl rfl rfl (by kernel_rfl) rfl (fun w hw => by exact forward07 P b52 8192 w (own_rd (A := some ⟨b52, 0, none⟩) (m := 8192) (c := 8192) hw)) ?_
  refine r_allocV (cs := planeV noneQ) (by kernel_rfl) rfl fun b20 => ?_
  refine r_storeV rfl rfl rfl (planeV_size _) (planeV_size _) (planeV_one _) ?_
  refine r_nil ?_
  refine r_tn ?_
  refine r_seq ?_
  refine r_region ?_
  refine r_move rfl rfl ?_
  refine r_call rfl rfl rfl (by kernel_rfl) rfl (fun w hw => by exact size07 hires w) ?_
  refine r_move rfl rfl ?_
  refine r_extract rfl rfl rfl ?_
  refine r_extract rfl rfl rfl ?_
  refine r_assign rfl rfl ?_
  refine r_assign rfl rfl ?_
  refine r_nil ?_
  refine r_tn ?_
  refine r_seq ?_
  refine r_seq ?_
  refine r_region ?_
  refine r_move rfl rfl ?_
  refine r_move rfl rfl ?_
  refine r_call rfl rfl rfl (by kernel_rfl) rfl (fun w hw => by exact width06 hires w) ?_
  refine r_neq rfl rfl rfl (decide_eq_false (fun h => h rfl)) ?_
  refine r_move rfl rfl ?_
  refine r_go rfl rfl ?_
  refine r_move rfl rfl ?_
  refine r_go rfl rfl ?_
  refine r_move rfl rfl ?_
  refine r_go rfl rfl ?_
  refine r_call rfl rfl rfl (by kernel_rfl) rfl (fun w hw => by exact refHeight07 hires w) ?_
  refine r_go rfl rfl ?_
  refine r_neq rfl rfl rfl (decide_eq_false (fun h => h rfl)) ?_
  refine r_pick_f rfl rfl rfl ?_
  refine r_move rfl rfl ?_
  refine r_go rfl rfl ?_
  refine r_loadV rfl rfl rfl rfl (planeV_size _) ?_
  refine r_go rfl rfl ?_
  refine r_move rfl rfl ?_
  refine r_go rfl rfl ?_
  refine r_move rfl rfl ?_
  refine r_go rfl rfl ?_
  refine r_call (v := .bool (P y x)) rfl rfl rfl (by kernel_rfl) rfl (fun w hw => by have h := pixel07 P (x : Int) (y : Int) w; rw [pixQ_at P (show x < 128 by omega) (show y < 64 by omega)] at h; exact h) ?_
  refine r_go rfl rfl ?_
  refine r_move rfl rfl ?_
  refine r_go rfl rfl ?_
  refine r_move rfl rfl ?_
  refine r_go rfl rfl ?_
  refine r_move rfl rfl ?_
  refine r_go rfl rfl ?_
  refine r_call rfl rfl rfl (by kernel_rfl) rfl (fun w hw => by exact refGet07 P (x : Int) (y : Int) b52 8192 w (own_rd (A := some ⟨b52, 0, none⟩) (m := 8192) (c := 8192) hw) (by omega) (by omega)) ?_
  refine r_go rfl rfl ?_
  refine r_neq_bool (p := false) rfl rfl rfl rfl (bne_self_eq_false _) ?_
  refine r_pick_f rfl rfl rfl ?_
  refine r_move rfl rfl ?_
  refine r_go rfl rfl ?_
  refine r_loadV rfl rfl rfl rfl (planeV_size _) ?_
  refine r_go rfl rfl ?_
  refine r_move rfl rfl ?_
  refine r_go rfl rfl ?_
  refine r_convert rfl rfl rfl rfl (w64 (by omega)) ?_
  refine r_go rfl rfl ?_
  refine r_move rfl rfl ?_
  refine r_go rfl rfl ?_
  refine r_convert rfl rfl rfl rfl (w64 (by omega)) ?_
  refine r_go rfl rfl ?_
  refine r_move rfl rfl ?_
  refine r_go rfl rfl ?_
  refine r_call rfl rfl rfl (by kernel_rfl) rfl (fun w hw => by exact scroll07 P dx dy hires w (by omega) (by omega)) ?_
  refine r_go rfl rfl ?_
  refine r_move rfl rfl ?_
  refine r_go rfl rfl ?_
  refine r_move rfl rfl ?_
  refine r_go rfl rfl ?_
  refine r_convert rfl rfl rfl rfl (w64 (by omega)) ?_
  refine r_go rfl rfl ?_
  refine r_move rfl rfl ?_
  refine r_go rfl rfl ?_
  refine r_convert rfl rfl rfl rfl (w64 (by omega)) ?_
  refine r_go rfl rfl ?_
  refine r_move rfl rfl ?_
  refine r_go rfl rfl ?_
  refine r_callx rfl rfl rfl (by kernel_rfl) rfl (fun w hw => refScroll07 P dx dy hires b52 8192 w (own_rd (A := some ⟨b52, 0, none⟩) (m := 8192) (c := 8192) hw) (by omega) (by omega) hp) ?_
  rintro b95 _
  refine r_go rfl rfl ?_
  refine r_call rfl rfl rfl (by kernel_rfl) rfl (fun w hw => by exact forward07 (scrollQ P dx dy hires) b95 8192 w (own_rd (A := some ⟨b95, 0, none⟩) (m := 8192) (c := 8192) hw)) ?_
  refine r_go rfl rfl ?_
  refine r_neqAgg rfl rfl rfl planeFlat (planeV_ok _) (planeV_ok _) (by rw [plane_eq, show eqQ (scrollQ P dx dy hires) (scrollQ P dx dy hires) = true from (eqQ_iff _ _).2 fun _ _ _ _ => rfl]) ?_
  refine r_pick_f rfl rfl rfl ?_
  refine r_nil ?_
  refine r_tn ?_
  refine r_cond_f rfl ?_
  refine r_skip ?_
  refine r_tn ?_
  refine r_seq ?_
  refine r_region ?_
  refine r_assign rfl rfl ?_
  refine r_nil ?_
  refine r_tn ?_
  refine r_seq ?_
  refine r_seq ?_
  refine r_region ?_
  refine r_assign rfl rfl ?_
  refine r_nil ?_
  refine r_tn ?_
  refine r_block ?_
  refine r_loopN (fun i => [(3, .slice A l.length c), (4, .bool big), (5, .int .i64 (x : Int)), (6, .int .i64 (y : Int)), (7, .bool hires), (8, .bool clip), (19, .slice (some ⟨b52, 0, none⟩) 8192 8192), (20, .pointer (some ⟨b20, 0, none⟩)), (23, .int .i64 ((cnt (flatP P) i : Nat) : Int)), (24, .int .i64 (i : Int))]) (fun i => [.blk b20 (.cells (planeV P) 54 (0, 0)), .own 4 1 (.slice (some ⟨b52, 0, none⟩) 8192 8192) 8192 (boolsN 8192 (flatP P))]) (fun i => i ≤ 8192) 8192 0 (by omega) ⟨rfl, rfl, rfl, rfl, rfl, rfl, rfl, rfl, rfl, rfl, trivial⟩ (fun w hw => hw.sub) fun i hi => ?_
  refine r_seq ?_
  refine r_seq ?_
  refine r_region ?_
  refine r_move rfl rfl ?_
  refine r_move rfl rfl ?_
  refine r_len rfl rfl rfl ?_
  refine r_lss rfl rfl rfl rfl ?_
  refine r_nil ?_
  refine r_tn ?_
  refine r_cond rfl (fun hc => ?_) (fun hc => ?_)
  · refine r_skip ?_
    refine r_tn ?_
    refine r_seq ?_
    refine r_block ?_
    refine r_seq ?_
    refine r_region ?_
    have hi2 : i < 8192 := by have h := of_decide_eq_true hc; omega
    have hcl := cnt_le (flatP P) i
    refine r_move rfl rfl ?_
    refine r_move rfl rfl ?_
    refine r_indexSl (sz := 1) (o' := i) rfl rfl rfl rfl rfl (by omega) (by omega) (by first | (simp; done) | (simp; omega) | omega) ?_
    refine r_loadC (p := ⟨b52, i, none⟩) rfl rfl rfl (fun w hw => ((own_rd (A := some ⟨b52, 0, none⟩) (m := 8192) (c := 8192) hw).cell (boolsN_at (flatP P) (show i < 8192 by omega)) rfl) |> fun h => by simpa using h) ?_ (hok := by simp [OkRead])
    refine r_nil ?_
    refine r_tn ?_
    refine r_cond rfl (fun hc => ?_) (fun hc => ?_)
    · refine r_region ?_
      refine r_move rfl rfl ?_
      refine r_add (r := ((cnt (flatP P) (i + 1) : Nat) : Int)) rfl rfl rfl ((w64 (by omega)).trans (by rw [cnt_yes hc]; omega)) ?_
      refine r_assign rfl rfl ?_
      refine r_nil ?_
      refine r_bn ?_
      refine r_tn ?_
      refine r_region ?_
      refine r_move rfl rfl ?_
      refine r_add rfl rfl rfl (w64 (by omega)) ?_
      refine r_assign rfl rfl ?_
      refine r_nil ?_
      refine r_tn ?_
      exact r_againN (i + 1) (by omega) (by omega) ⟨rfl, rfl, rfl, rfl, rfl, rfl, rfl, rfl, by first | exact congrArg (fun z : Nat => some (Value.int .i64 (z : Int))) (cnt_no hc).symm | rfl, rfl, trivial⟩ (fun w hw => hw.sub)
    · refine r_skip ?_
      refine r_bn ?_
      refine r_tn ?_
      refine r_region ?_
      refine r_move rfl rfl ?_
      refine r_add rfl rfl rfl (w64 (by omega)) ?_
      refine r_assign rfl rfl ?_
      refine r_nil ?_
      refine r_tn ?_
      exact r_againN (i + 1) (by omega) (by omega) ⟨rfl, rfl, rfl, rfl, rfl, rfl, rfl, rfl, by first | exact congrArg (fun z : Nat => some (Value.int .i64 (z : Int))) (cnt_no hc).symm | rfl, rfl, trivial⟩ (fun w hw => hw.sub)
  · refine r_exit ?_
    refine r_te ?_
    refine r_te ?_
    refine r_be ?_
    refine r_tn ?_
    refine r_seq ?_
    refine r_region ?_
    have hi3 : i = 8192 := by have h := of_decide_eq_false hc; omega
    subst hi3
    refine r_move rfl rfl ?_
    refine r_move rfl rfl ?_
    refine r_call rfl rfl rfl (by kernel_rfl) rfl (fun w hw => by exact cnt07 big w) ?_
    refine r_move rfl rfl ?_
    refine r_move rfl rfl ?_
    refine r_move rfl rfl ?_
    refine r_move rfl rfl ?_
    refine r_callx rfl rfl rfl (by kernel_rfl) rfl (fun w hw => refSprite07 A c l (cb big) x y hires clip w (hA.keep hw) hw1 hl (by omega) hx hy) ?_
    rintro b118 _
    refine r_assign rfl rfl ?_
    refine r_nil ?_
    refine r_tn ?_
    refine r_seq ?_
    refine r_region ?_
    refine r_move rfl rfl ?_
    refine r_move rfl rfl ?_
    refine r_call rfl rfl rfl (by kernel_rfl) rfl (fun w hw => by exact cnt07 big w) ?_
    refine r_move rfl rfl ?_
    refine r_move rfl rfl ?_
    refine r_move rfl rfl ?_
    refine r_move rfl rfl ?_
    refine r_call rfl rfl rfl (by kernel_rfl) rfl (fun w hw => by exact sprite07 A c l (cb big) x y hires clip w (hA.keep hw) hw1 hl (by omega) hx hy) ?_
    refine r_allocV (cs := planeV noneQ) (by kernel_rfl) rfl fun b26 => ?_
    refine r_storeV rfl rfl rfl (planeV_size _) (planeV_size _) (planeV_one _) ?_
    refine r_nil ?_
    refine r_tn ?_
    refine r_seq ?_
    refine r_region ?_
    refine r_loadV rfl rfl rfl rfl (planeV_size _) ?_
    refine r_loadV rfl rfl rfl rfl (planeV_size _) ?_
    refine r_call rfl rfl rfl (by kernel_rfl) rfl (fun w hw => by exact draw07 P (sprQ l (cb big) x y hires clip l.length) w) ?_
    refine r_move rfl rfl ?_
    refine r_extract rfl rfl rfl ?_
    refine r_extract rfl rfl rfl ?_
    refine r_allocV (cs := planeV noneQ) (by kernel_rfl) rfl fun b27 => ?_
    refine r_storeV rfl rfl rfl (planeV_size _) (planeV_size _) (planeV_one _) ?_
    refine r_assign rfl rfl ?_
    refine r_nil ?_
    refine r_tn ?_
    refine r_seq ?_
    refine r_region ?_
    refine r_move rfl rfl ?_
    refine r_move rfl rfl ?_
    refine r_callx rfl rfl rfl (by kernel_rfl) rfl (fun w hw => refDraw07 P (sprQ l (cb big) x y hires clip l.length) b52 8192 b118 8192 w (own_rd (A := some ⟨b52, 0, none⟩) (m := 8192) (c := 8192) hw) (own_rd (A := some ⟨b118, 0, none⟩) (m := 8192) (c := 8192) hw)) ?_
    rintro b136 _
    refine r_move rfl rfl ?_
    refine r_extract rfl rfl rfl ?_
    refine r_extract rfl rfl rfl ?_
    refine r_assign rfl rfl ?_
    refine r_assign rfl rfl ?_
    refine r_nil ?_
    refine r_tn ?_
    refine r_seq ?_
    refine r_mixedD { xb := [], rb := [b26, b27], rs := [144, 150], fs := [], acs := [146, 152] } (by kernel_rfl) (by kernel_rfl) (fun w hw k hk => by
      simp only [List.mem_cons, List.not_mem_nil, or_false] at hk
      rcases hk with rfl | rfl <;> exact Sat.lt hw) ?_
    refine r_loadV rfl rfl rfl rfl (planeV_size _) ?_
    refine r_call rfl rfl rfl (by kernel_rfl) rfl (fun w hw => by exact count07 P w) ?_
    refine r_move rfl rfl ?_
    refine r_eql rfl rfl rfl (decide_eq_true (by rw [cntR_flat])) ?_
    refine r_move rfl rfl ?_
    refine r_go rfl rfl ?_
    refine r_loadV rfl rfl rfl rfl (planeV_size _) ?_
    refine r_go rfl rfl ?_
    refine r_move rfl rfl ?_
    refine r_go rfl rfl ?_
    refine r_call rfl rfl rfl (by kernel_rfl) rfl (fun w hw => by exact forward07 (sprQ l (cb big) x y hires clip l.length) b118 8192 w (own_rd (A := some ⟨b118, 0, none⟩) (m := 8192) (c := 8192) hw)) ?_
    refine r_go rfl rfl ?_
    refine r_eqlAgg rfl rfl rfl planeFlat (planeV_ok _) (planeV_ok _) ((plane_eq (sprQ l (cb big) x y hires clip l.length) (sprQ l (cb big) x y hires clip l.length)).trans ((eqQ_iff _ _).2 (fun _ _ _ _ => rfl))) ?_
    refine r_pick_t rfl rfl rfl ?_
    refine r_move rfl rfl ?_
    refine r_go rfl rfl ?_
    refine r_loadV rfl rfl rfl rfl (planeV_size _) ?_
    refine r_go rfl rfl ?_
    refine r_move rfl rfl ?_
    refine r_go rfl rfl ?_
    refine r_call rfl rfl rfl (by kernel_rfl) rfl (fun w hw => by exact forward07 (xorQ P (sprQ l (cb big) x y hires clip l.length)) b136 8192 w (own_rd (A := some ⟨b136, 0, none⟩) (m := 8192) (c := 8192) hw)) ?_
    refine r_go rfl rfl ?_
    refine r_eqlAgg rfl rfl rfl planeFlat (planeV_ok _) (planeV_ok _) ((plane_eq (xorQ P (sprQ l (cb big) x y hires clip l.length)) (xorQ P (sprQ l (cb big) x y hires clip l.length))).trans ((eqQ_iff _ _).2 (fun _ _ _ _ => rfl))) ?_
    refine r_pick_t rfl rfl rfl ?_
    refine r_move rfl rfl ?_
    refine r_go rfl rfl ?_
    refine r_move rfl rfl ?_
    refine r_go rfl rfl ?_
    refine r_move rfl rfl ?_
    refine r_go rfl rfl ?_
    refine r_eql_bool (p := true) rfl rfl rfl rfl (by rw [hitK_eq, hitN_eq]; exact beq_self_eq_true _) ?_
    refine r_pick_t rfl rfl rfl ?_
    refine r_assign rfl rfl ?_
    refine r_nil ?_
    refine r_tn ?_
    refine r_ret ?_
    exact r_done1 (.inl rfl) rfl (res_tmp rfl) fun w hw => ⟨rfl, hw.clear⟩

theorem PlaneMatchesReference_walk (fr st ct dx dy : Int) (A : Option Addr) (c : Nat) (l : List Int) (big : Bool) (x y : Int) (hires clip : Bool) (W : World) (_ : (Lit.int .i64 fr).wf = true) (_ : (Lit.int .i64 st).wf = true) (_ : (Lit.int .i64 ct).wf = true) (w1 : (Lit.int .i8 dx).wf = true) (w2 : (Lit.int .i8 dy).wf = true) (hA : Rd W A (l.map (Value.int .u16))) (hm : l.length ≤ 140737488351232) (hw0 : ∀ n, n ∈ l → (Lit.int .u16 n).wf = true) (hx0 : (Lit.int .i64 x).wf = true) (hy0 : (Lit.int .i64 y).wf = true) :
    Calls Try.prog 8 #[.agg #[.int .i64 fr, .int .i64 st, .int .i64 ct], .int .i8 dx, .int .i8 dy, .slice A l.length c, .bool big, .int .i64 x, .int .i64 y, .bool hires, .bool clip] W fun e w' => e = .returned (.bool true) ∧ Sat W [] [] w' := by
  have hw := all_u16 hw0
  have h1 := wfi8 w1
  cases hR : rightM7 l.length x y hires with
  | false => exact pmatch_no fr st ct dx dy A c l big x y hires clip W hR
  | true =>
    by_cases hlo : dy < -64
    · exact pmatch_lo fr st ct dx dy A c l big x y hires clip W hR hlo
    · by_cases hhi : 64 < dy
      · exact pmatch_hi fr st ct dx dy A c l big x y hires clip W hR hhi
      · obtain ⟨hl, x1, y1, rfl, rfl, hx, hy⟩ := right_get hR
        exact pmatch_yes fr st ct dx dy A c l big x1 y1 hires clip W h1 (by omega) hw hA hl hx hy hR
end Go.Proofs.Ytahanpobeekhiaa
