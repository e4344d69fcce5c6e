/-
  PlaneCounts, for every plane and every pattern.
-/
import Derived.Test.YtahanpobeekhiaaCnt07
namespace Go.Proofs.Ytahanpobeekhiaa
open Go Go.RowKit
set_option linter.unusedVariables false
set_option linter.unusedSimpArgs false
set_option maxHeartbeats 2000000
attribute [local irreducible] mix

theorem all_u16 {l : List Int} (h : ∀ n, n ∈ l → (Lit.int .u16 n).wf = true) : l.all (fun z => decide (0 ≤ z) && decide (z ≤ 65535)) = true :=
  List.all_eq_true.2 fun z hz => by have h2 := wfu16 (h z hz); simp; omega
theorem right_get {n : Nat} {x y : Int} {hires : Bool} (h : rightM7 n x y hires = true) : n ≤ 16 ∧ ∃ x1 y1 : Nat, x = (x1 : Int) ∧ y = (y1 : Int) ∧ x1 < wd hires ∧ y1 < ht hires := by
  simp only [rightM7, Bool.and_eq_true, decide_eq_true_eq] at h
  exact ⟨by omega, x.toNat, y.toNat, by omega, by omega, by omega, by omega⟩


theorem both_t {P Q : Nat → Nat → Bool} {i : Nat} (h1 : flatP P i = true) (h2 : flatP Q i = true) : bothN P Q i = true := by unfold bothN; rw [h1, h2]; rfl
theorem both_f1 {P Q : Nat → Nat → Bool} {i : Nat} (h1 : flatP P i = false) : bothN P Q i = false := by unfold bothN; rw [h1]; rfl
theorem both_f2 {P Q : Nat → Nat → Bool} {i : Nat} (h1 : flatP Q i = false) : bothN P Q i = false := by unfold bothN; rw [h1, Bool.and_false]


theorem pcounts_no (fr st ct : Int) (A : Option Addr) (c : Nat) (l : List Int) (big : Bool) (x y : Int) (hires clip : Bool) (W : World) (hR : rightM7 l.length x y hires = false) :
    Calls Try.prog 13 #[.agg #[.int .i64 fr, .int .i64 st, .int .i64 ct], .slice A l.length c, .bool big, .int .i64 x, .int .i64 y, .bool hires, .bool clip] W fun e w' => e = .returned (.bool true) ∧ Sat W [] [] w' := by
  refine enter Try.func13 rfl rfl rfl ?_
  refine r_seq ?_
  refine r_region ?_
  refine r_boxV rfl rfl fun b7 => ?_
  refine r_assign rfl rfl ?_
  refine r_nil ?_
  refine r_tn ?_
  refine r_seq ?_
  refine r_seq ?_
  refine r_region ?_
  refine r_call rfl rfl rfl (by kernel_rfl) rfl (fun w hw => by exact awake07 w) ?_
  refine r_not rfl rfl rfl ?_
  refine r_move rfl rfl ?_
  refine r_go rfl rfl ?_
  refine r_move rfl rfl ?_
  refine r_go rfl rfl ?_
  refine r_move rfl rfl ?_
  refine r_go rfl rfl ?_
  refine r_move rfl rfl ?_
  refine r_go rfl rfl ?_
  refine r_move rfl rfl ?_
  refine r_go rfl rfl ?_
  refine r_call (v := .bool false) rfl rfl rfl (by kernel_rfl) rfl (fun w hw => by have h := right07 A l.length c x y hires w; rw [hR] at h; exact h) ?_
  refine r_go rfl rfl ?_
  refine r_not rfl rfl rfl ?_
  refine r_pick_f rfl rfl rfl ?_
  refine r_nil ?_
  refine r_tn ?_
  refine r_cond_t rfl ?_
  refine r_seq ?_
  refine r_region ?_
  refine r_call rfl rfl rfl (by kernel_rfl) rfl (fun w hw => by exact awake07 w) ?_
  refine r_assign rfl rfl ?_
  refine r_nil ?_
  refine r_tn ?_
  refine r_ret ?_
  refine r_tr ?_
  exact r_done1 (.inl rfl) rfl (res_tmp rfl) fun w hw => ⟨rfl, hw.clear⟩

theorem pcounts_yes (fr st ct : Int) (A : Option Addr) (c : Nat) (l : List Int) (big : Bool) (x y : Nat) (hires clip : Bool) (W : World) (hw1 : l.all (fun z => decide (0 ≤ z) && decide (z ≤ 65535)) = true) (hA : Rd W A (l.map (Value.int .u16))) (hl : l.length ≤ 16) (hx : x < wd hires) (hy : y < ht hires) (hR : rightM7 l.length (x : Int) (y : Int) hires = true) :
    Calls Try.prog 13 #[.agg #[.int .i64 fr, .int .i64 st, .int .i64 ct], .slice A l.length c, .bool big, .int .i64 (x : Int), .int .i64 (y : Int), .bool hires, .bool clip] W fun e w' => e = .returned (.bool true) ∧ Sat W [] [] w' := by
  have hcb : cb big ≤ 16 := by cases big <;> decide
  have hwd : wd hires ≤ 128 := by cases hires <;> decide
  have hwd2 : 64 ≤ wd hires := by cases hires <;> decide
  have hht : ht hires ≤ 64 := by cases hires <;> decide
  have hht2 : 32 ≤ ht hires := by cases hires <;> decide
  refine enter Try.func13 rfl rfl rfl ?_
  refine r_seq ?_
  refine r_region ?_
  refine r_boxV rfl rfl fun b7 => ?_
  refine r_assign rfl rfl ?_
  refine r_nil ?_
  refine r_tn ?_
  refine r_seq ?_
  refine r_seq ?_
  refine r_region ?_
  refine r_call rfl rfl rfl (by kernel_rfl) rfl (fun w hw => by exact awake07 w) ?_
  refine r_not rfl rfl rfl ?_
  refine r_move rfl rfl ?_
  refine r_go rfl rfl ?_
  refine r_move rfl rfl ?_
  refine r_go rfl rfl ?_
  refine r_move rfl rfl ?_
  refine r_go rfl rfl ?_
  refine r_move rfl rfl ?_
  refine r_go rfl rfl ?_
  refine r_move rfl rfl ?_
  refine r_go rfl rfl ?_
  refine r_call (v := .bool true) rfl rfl rfl (by kernel_rfl) rfl (fun w hw => by have h := right07 A l.length c (x : Int) (y : Int) hires w; rw [hR] at h; exact h) ?_
  refine r_go rfl rfl ?_
  refine r_not rfl rfl rfl ?_
  refine r_pick_f rfl rfl rfl ?_
  refine r_nil ?_
  refine r_tn ?_
  refine r_cond_f rfl ?_
  refine r_skip ?_
  refine r_tn ?_
  refine r_seq ?_
  refine r_region ?_
  refine r_loadV rfl rfl rfl rfl rfl ?_
  refine r_move rfl rfl ?_
  refine r_callx rfl rfl rfl (by kernel_rfl) rfl (fun w hw => refPlane07 fr st ct hires w) ?_
  rintro ⟨b36, P⟩ hp
  refine r_assign rfl rfl ?_
  refine r_nil ?_
  refine r_tn ?_
  refine r_seq ?_
  refine r_region ?_
  refine r_move rfl rfl ?_
  refine r_move rfl rfl ?_
  refine r_call rfl rfl rfl (by kernel_rfl) rfl (fun w hw => by exact cnt07 big w) ?_
  refine r_move rfl rfl ?_
  refine r_move rfl rfl ?_
  refine r_move rfl rfl ?_
  refine r_move rfl rfl ?_
  refine r_callx rfl rfl rfl (by kernel_rfl) rfl (fun w hw => refSprite07 A c l (cb big) x y hires clip w (hA.keep hw) hw1 hl (by omega) hx hy) ?_
  rintro b44 _
  refine r_assign rfl rfl ?_
  refine r_nil ?_
  refine r_tn ?_
  refine r_seq ?_
  refine r_region ?_
  refine r_assign rfl rfl ?_
  refine r_nil ?_
  refine r_tn ?_
  refine r_seq ?_
  refine r_seq ?_
  refine r_region ?_
  refine r_assign rfl rfl ?_
  refine r_nil ?_
  refine r_tn ?_
  refine r_block ?_
  refine r_loopN (fun i => [(15, .slice (some ⟨b36, 0, none⟩) 8192 8192), (16, .slice (some ⟨b44, 0, none⟩) 8192 8192), (17, .int .i64 ((cnt (bothN P (sprQ l (cb big) x y hires clip l.length)) i : Nat) : Int)), (18, .int .i64 (i : Int))]) (fun i => [.own 4 1 (.slice (some ⟨b36, 0, none⟩) 8192 8192) 8192 (boolsN 8192 (flatP P)), .own 4 1 (.slice (some ⟨b44, 0, none⟩) 8192 8192) 8192 (boolsN 8192 (flatP (sprQ l (cb big) x y hires clip l.length)))]) (fun i => i ≤ 8192) 8192 0 (by omega) ⟨rfl, rfl, rfl, rfl, trivial⟩ (fun w hw => hw.sub) fun i hi => ?_
  refine r_seq ?_
  refine r_seq ?_
  refine r_region ?_
  refine r_move rfl rfl ?_
  refine r_move rfl rfl ?_
  refine r_len rfl rfl rfl ?_
  refine r_lss rfl rfl rfl rfl ?_
  refine r_nil ?_
  refine r_tn ?_
  refine r_cond rfl (fun hc => ?_) (fun hc => ?_)
  · refine r_skip ?_
    refine r_tn ?_
    refine r_seq ?_
    refine r_block ?_
    refine r_seq ?_
    refine r_region ?_
    have hi2 : i < 8192 := by have h := of_decide_eq_true hc; omega
    have hcl := cnt_le (bothN P (sprQ l (cb big) x y hires clip l.length)) i
    refine r_move rfl rfl ?_
    refine r_move rfl rfl ?_
    refine r_indexSl (sz := 1) (o' := i) rfl rfl rfl rfl rfl (by omega) (by omega) (by first | (simp; done) | (simp; omega) | omega) ?_
    refine r_loadC (p := ⟨b36, i, none⟩) rfl rfl rfl (fun w hw => ((own_rd (A := some ⟨b36, 0, none⟩) (m := 8192) (c := 8192) hw).cell (boolsN_at (flatP P) (show i < 8192 by omega)) rfl) |> fun h => by simpa using h) ?_ (hok := by simp [OkRead])
    refine r_move rfl rfl ?_
    refine r_split 55 rfl (fun hb55 => ?_) (fun hb55 => ?_)
    · refine r_go rfl rfl ?_
      refine r_move rfl rfl ?_
      refine r_go rfl rfl ?_
      refine r_move rfl rfl ?_
      refine r_go rfl rfl ?_
      refine r_indexSl (sz := 1) (o' := i) rfl rfl rfl rfl rfl (by omega) (by omega) (by first | (simp; done) | (simp; omega) | omega) ?_
      refine r_go rfl rfl ?_
      refine r_loadC (p := ⟨b44, i, none⟩) rfl rfl rfl (fun w hw => ((own_rd (A := some ⟨b44, 0, none⟩) (m := 8192) (c := 8192) hw).cell (boolsN_at (flatP (sprQ l (cb big) x y hires clip l.length)) (show i < 8192 by omega)) rfl) |> fun h => by simpa using h) ?_ (hok := by simp [OkRead])
      refine r_pick_t rfl rfl rfl ?_
      refine r_nil ?_
      refine r_tn ?_
      refine r_cond rfl (fun hc => ?_) (fun hc => ?_)
      · refine r_region ?_
        refine r_move rfl rfl ?_
        refine r_add (r := ((cnt (bothN P (sprQ l (cb big) x y hires clip l.length)) (i + 1) : Nat) : Int)) rfl rfl rfl ((w64 (by omega)).trans (by rw [cnt_yes (both_t hb55 hc)]; omega)) ?_
        refine r_assign rfl rfl ?_
        refine r_nil ?_
        refine r_bn ?_
        refine r_tn ?_
        refine r_region ?_
        refine r_move rfl rfl ?_
        refine r_add rfl rfl rfl (w64 (by omega)) ?_
        refine r_assign rfl rfl ?_
        refine r_nil ?_
        refine r_tn ?_
        exact r_againN (i + 1) (by omega) (by omega) ⟨rfl, rfl, by first | exact congrArg (fun z : Nat => some (Value.int .i64 (z : Int))) (cnt_no (both_f1 hb55)).symm | exact congrArg (fun z : Nat => some (Value.int .i64 (z : Int))) (cnt_no (both_f2 hc)).symm | rfl, rfl, trivial⟩ (fun w hw => hw.sub)
      · refine r_skip ?_
        refine r_bn ?_
        refine r_tn ?_
        refine r_region ?_
        refine r_move rfl rfl ?_
        refine r_add rfl rfl rfl (w64 (by omega)) ?_
        refine r_assign rfl rfl ?_
        refine r_nil ?_
        refine r_tn ?_
        exact r_againN (i + 1) (by omega) (by omega) ⟨rfl, rfl, by first | exact congrArg (fun z : Nat => some (Value.int .i64 (z : Int))) (cnt_no (both_f1 hb55)).symm | exact congrArg (fun z : Nat => some (Value.int .i64 (z : Int))) (cnt_no (both_f2 hc)).symm | rfl, rfl, trivial⟩ (fun w hw => hw.sub)
    · refine r_pass rfl rfl rfl rfl ?_
      refine r_pass rfl rfl rfl rfl ?_
      refine r_pass rfl rfl rfl rfl ?_
      refine r_pass rfl rfl rfl rfl ?_
      refine r_pick_f rfl rfl rfl ?_
      refine r_nil ?_
      refine r_tn ?_
      refine r_cond_f rfl ?_
      refine r_skip ?_
      refine r_bn ?_
      refine r_tn ?_
      refine r_region ?_
      refine r_move rfl rfl ?_
      refine r_add rfl rfl rfl (w64 (by omega)) ?_
      refine r_assign rfl rfl ?_
      refine r_nil ?_
      refine r_tn ?_
      exact r_againN (i + 1) (by omega) (by omega) ⟨rfl, rfl, by first | exact congrArg (fun z : Nat => some (Value.int .i64 (z : Int))) (cnt_no (both_f1 hb55)).symm | exact congrArg (fun z : Nat => some (Value.int .i64 (z : Int))) (cnt_no (both_f2 hc)).symm | rfl, rfl, trivial⟩ (fun w hw => hw.sub)
  · refine r_exit ?_
    refine r_te ?_
    refine r_te ?_
    refine r_be ?_
    refine r_tn ?_
    refine r_seq ?_
    refine r_region ?_
    have hi3 : i = 8192 := by have h := of_decide_eq_false hc; omega
    subst hi3
    refine r_move rfl rfl ?_
    refine r_call rfl rfl rfl (by kernel_rfl) rfl (fun w hw => by exact forward07 P b36 8192 w (own_rd (A := some ⟨b36, 0, none⟩) (m := 8192) (c := 8192) hw)) ?_
    refine r_allocV (cs := planeV noneQ) (by kernel_rfl) rfl fun b19 => ?_
    refine r_storeV rfl rfl rfl (planeV_size _) (planeV_size _) (planeV_one _) ?_
    refine r_nil ?_
    refine r_tn ?_
    refine r_seq ?_
    refine r_region ?_
    refine r_move rfl rfl ?_
    refine r_call rfl rfl rfl (by kernel_rfl) rfl (fun w hw => by exact forward07 (sprQ l (cb big) x y hires clip l.length) b44 8192 w (own_rd (A := some ⟨b44, 0, none⟩) (m := 8192) (c := 8192) hw)) ?_
    refine r_allocV (cs := planeV noneQ) (by kernel_rfl) rfl fun b20 => ?_
    refine r_storeV rfl rfl rfl (planeV_size _) (planeV_size _) (planeV_one _) ?_
    refine r_nil ?_
    refine r_tn ?_
    refine r_seq ?_
    refine r_region ?_
    refine r_loadV rfl rfl rfl rfl (planeV_size _) ?_
    refine r_loadV rfl rfl rfl rfl (planeV_size _) ?_
    refine r_call rfl rfl rfl (by kernel_rfl) rfl (fun w hw => by exact draw07 P (sprQ l (cb big) x y hires clip l.length) w) ?_
    refine r_move rfl rfl ?_
    refine r_extract rfl rfl rfl ?_
    refine r_extract rfl rfl rfl ?_
    refine r_allocV (cs := planeV noneQ) (by kernel_rfl) rfl fun b21 => ?_
    refine r_storeV rfl rfl rfl (planeV_size _) (planeV_size _) (planeV_one _) ?_
    refine r_assign rfl rfl ?_
    refine r_nil ?_
    refine r_tn ?_
    refine r_seq ?_
    refine r_mixedD { xb := [], rb := [b19, b20], rs := [75, 77], fs := [], acs := [74, 76] } (by kernel_rfl) (by kernel_rfl) (fun w hw k hk => by
      simp only [List.mem_cons, List.not_mem_nil, or_false] at hk
      rcases hk with rfl | rfl <;> exact Sat.lt hw) ?_
    refine r_loadV rfl rfl rfl rfl (planeV_size _) ?_
    refine r_call rfl rfl rfl (by kernel_rfl) rfl (fun w hw => by exact count07 (xorQ P (sprQ l (cb big) x y hires clip l.length)) w) ?_
    refine r_loadV rfl rfl rfl rfl (planeV_size _) ?_
    refine r_call rfl rfl rfl (by kernel_rfl) rfl (fun w hw => by exact count07 P w) ?_
    refine r_loadV rfl rfl rfl rfl (planeV_size _) ?_
    refine r_call rfl rfl rfl (by kernel_rfl) rfl (fun w hw => by exact count07 (sprQ l (cb big) x y hires clip l.length) w) ?_
    have q1 := cntR_le P 64
    have q2 := cntR_le (sprQ l (cb big) x y hires clip l.length) 64
    have q3 := cnt_le (bothN P (sprQ l (cb big) x y hires clip l.length)) 8192
    refine r_add rfl rfl rfl (w64 (by omega)) ?_
    refine r_move rfl rfl ?_
    refine r_mul rfl rfl rfl (w64 (by omega)) ?_
    refine r_sub rfl rfl rfl (w64 (by omega)) ?_
    refine r_eql rfl rfl rfl (decide_eq_true (by have h := cntR_xor P (sprQ l (cb big) x y hires clip l.length); omega)) ?_
    refine r_move rfl rfl ?_
    refine r_go rfl rfl ?_
    refine r_move rfl rfl ?_
    refine r_go rfl rfl ?_
    refine r_move rfl rfl ?_
    refine r_go rfl rfl ?_
    refine r_gtr (p := decide (0 < cnt (bothN P (sprQ l (cb big) x y hires clip l.length)) 8192)) rfl rfl rfl (by congr 1; exact propext ⟨fun _ => by omega, fun _ => by omega⟩) ?_
    refine r_go rfl rfl ?_
    refine r_eql_bool (p := true) rfl rfl rfl rfl (by rw [hitK_eq]; exact beq_self_eq_true _) ?_
    refine r_pick_t rfl rfl rfl ?_
    refine r_assign rfl rfl ?_
    refine r_nil ?_
    refine r_tn ?_
    refine r_ret ?_
    exact r_done1 (.inl rfl) rfl (res_tmp rfl) fun w hw => ⟨rfl, hw.clear⟩

theorem PlaneCounts_walk (fr st ct : Int) (A : Option Addr) (c : Nat) (l : List Int) (big : Bool) (x y : Int) (hires clip : Bool) (W : World) (_ : (Lit.int .i64 fr).wf = true) (_ : (Lit.int .i64 st).wf = true) (_ : (Lit.int .i64 ct).wf = true) (hA : Rd W A (l.map (Value.int .u16))) (hm : l.length ≤ 140737488351232) (hw0 : ∀ n, n ∈ l → (Lit.int .u16 n).wf = true) (hx0 : (Lit.int .i64 x).wf = true) (hy0 : (Lit.int .i64 y).wf = true) :
    Calls Try.prog 13 #[.agg #[.int .i64 fr, .int .i64 st, .int .i64 ct], .slice A l.length c, .bool big, .int .i64 x, .int .i64 y, .bool hires, .bool clip] W fun e w' => e = .returned (.bool true) ∧ Sat W [] [] w' := by
  have hw := all_u16 hw0
  cases hR : rightM7 l.length x y hires with
  | false => exact pcounts_no fr st ct A c l big x y hires clip W hR
  | true =>
    obtain ⟨hl, x1, y1, rfl, rfl, hx, hy⟩ := right_get hR
    exact pcounts_yes fr st ct A c l big x1 y1 hires clip W hw hA hl hx hy hR
end Go.Proofs.Ytahanpobeekhiaa
