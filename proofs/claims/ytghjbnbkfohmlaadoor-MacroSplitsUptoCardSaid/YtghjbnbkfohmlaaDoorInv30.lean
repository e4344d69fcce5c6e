/-
  Macros (chapter 30): MacroInverse.
-/
import Derived.Test.YtghjbnbkfohmlaaDoorAwake30
import Derived.Test.YtghjbnbkfohmlaaDoorRefC30
namespace Go.Proofs.YtghjbnbkfohmlaaDoor
open Go Go.RowKit
set_option linter.unusedVariables false
set_option linter.unusedSimpArgs false
set_option maxHeartbeats 2000000
set_option maxRecDepth 4000
attribute [local irreducible] mix

theorem cmdsL_len {fs : List (List Ev)} (h : ∀ f ∈ fs, okF f) : (cmdsL fs).length ≤ 52 * fs.length + 1 := cmds_len fs 0 true 51 fun f hf => (h f hf).1
theorem cmdsL_small {fs : List (List Ev)} (h : fs.length ≤ 100) : ∀ l ∈ cmdsL fs, l.length ≤ 1000000 := fun l hl => Nat.le_trans (cmds_small fs 0 true (by omega) l hl) (by decide)
attribute [local irreducible] evsL ownsOf rightB cmdsL waitT evT stOf


theorem MacroInverse_walk (fs : List (List Ev)) (A : Option Addr) (c : Nat) (hv1 : List Value) (w : World) (hG : Glob30 w) (hA : Rd w A hv1) (hF1 : FrRd w hv1 fs) :
    Calls Tryd.prog 6 #[.slice A fs.length c] w fun e w' => e = .returned (.bool true) ∧ Sat w [] [] w' := by
  refine enter Tryd.func6 rfl rfl rfl ?_
  refine r_seq ?_
  refine r_region ?_
  refine r_assign rfl rfl ?_
  refine r_nil ?_
  refine r_tn ?_
  refine r_seq ?_
  refine r_seq ?_
  refine r_region ?_
  refine r_call rfl rfl rfl (by kernel_rfl) rfl (fun w hw => by exact awake30 w (hG.keep hw.clear)) ?_
  refine r_not rfl rfl rfl ?_
  refine r_move rfl rfl ?_
  refine r_go rfl rfl ?_
  refine r_move rfl rfl ?_
  refine r_go rfl rfl ?_
  refine r_call rfl rfl rfl (by kernel_rfl) rfl (fun w hw => by exact refRight30 fs A c hv1 w (hA.keep hw.clear) (hF1.keep hw.clear)) ?_
  refine r_go rfl rfl ?_
  refine r_not rfl rfl rfl ?_
  refine r_pick_f rfl rfl rfl ?_
  refine r_nil ?_
  refine r_tn ?_
  refine r_cond rfl (fun hc => ?_) (fun hc => ?_)
  · refine r_seq ?_
    refine r_region ?_
    refine r_call rfl rfl rfl (by kernel_rfl) rfl (fun w hw => by exact awake30 w (hG.keep hw.clear)) ?_
    refine r_assign rfl rfl ?_
    refine r_nil ?_
    refine r_tn ?_
    refine r_ret ?_
    refine r_tr ?_
    exact r_done1 (.inl rfl) rfl (res_tmp rfl) fun w hw => ⟨rfl, hw.clear⟩
  · refine r_skip ?_
    refine r_tn ?_
    refine r_seq ?_
    refine r_region ?_
    have hr : rightB fs = true := by cases e : rightB fs with | true => rfl | false => rw [e] at hc; cases hc
    obtain ⟨hl100, hfr⟩ := (right_iff fs).1 hr
    have hE := cmds_expand (fs := fs) (by omega) (fun f hf => (hfr f hf).2)
    have hsh : ∀ f ∈ fs, f.length ≤ 1000000000000 := fun f hf => by have h := (hfr f hf).1; omega
    have hcl := cmdsL_len hfr
    refine Run.startL ?_
    refine r_move rfl rfl ?_
    refine r_callx rfl rfl rfl (by kernel_rfl) rfl (fun w hw => by exact commandsF30 fs hl100 hfr A c hv1 w (hA.keep hw.clear) (hF1.keep hw.clear) (hG.keep hw.clear)) ?_
    rintro ⟨A16, c16⟩ _
    refine r_assign rfl rfl ?_
    refine r_nil ?_
    refine r_tn ?_
    refine r_seq ?_
    refine r_region ?_
    refine r_move rfl rfl ?_
    refine r_callE (X := [.own 9 1 (.slice A16 (cmdsL fs).length c16) (cmdsL fs).length ((cmdsL fs).map txV)]) (L0 := []) (by first | rfl | exact (by simp)) rfl rfl rfl (by kernel_rfl) rfl (fun w hw => by exact expandE30 A16 c16 (cmdsL fs).length (cmdsL fs) fs rfl hE.1 hE.2 (by have h := cmdsL_len hfr; omega) (cmdsL_small hl100) w (hG.keep hw.clear) (own_rd (A := A16) (m := (cmdsL fs).length) (c := c16) hw)) ?_
    rintro ⟨B, d, _, _, hu, M⟩ hF2
    have hF2 : FrL hu fs M := hF2
    refine Run.less (H' := .own 25 1 (.slice B fs.length d) fs.length hu :: .own 9 1 (.slice A16 (cmdsL fs).length c16) (cmdsL fs).length ((cmdsL fs).map txV) :: ownsOf (M ++ [])) (fun w hw => hw.sub) ?_
    rw [List.append_nil]
    refine r_move rfl rfl ?_
    refine r_extract (v := .slice B fs.length d) rfl rfl rfl ?_
    refine r_extract (v := .int .i64 0) rfl rfl rfl ?_
    refine r_extract (v := .int .i64 0) rfl rfl rfl ?_
    refine r_assign rfl rfl ?_
    refine r_assign rfl rfl ?_
    refine r_assign rfl rfl ?_
    refine r_nil ?_
    refine r_tn ?_
    refine r_seq ?_
    refine r_region ?_
    refine r_move rfl rfl ?_
    refine r_move rfl rfl ?_
    refine r_callx rfl rfl rfl (by kernel_rfl) rfl (fun w hw => by exact refCommands30 fs hl100 hfr A c hv1 w (hA.keep hw.clear) (hF1.keep hw.clear)) ?_
    rintro ⟨A25, c25⟩ _
    refine r_call rfl rfl rfl (by kernel_rfl) rfl (fun w hw => by exact refTexts24 (cmdsL fs) (by omega) A16 A25 c16 c25 w (own_rd (A := A16) (m := (cmdsL fs).length) (c := c16) hw) (own_rd (A := A25) (m := (cmdsL fs).length) (c := c25) hw)) ?_
    refine r_move rfl rfl ?_
    refine r_go rfl rfl ?_
    refine r_move rfl rfl ?_
    refine r_go rfl rfl ?_
    refine r_eql (p := true) rfl rfl rfl rfl ?_
    refine r_pick_t rfl rfl rfl ?_
    refine r_move rfl rfl ?_
    refine r_go rfl rfl ?_
    refine r_move rfl rfl ?_
    refine r_go rfl rfl ?_
    refine r_move rfl rfl ?_
    refine r_go rfl rfl ?_
    refine r_call rfl rfl rfl (by kernel_rfl) rfl (fun w hw => by exact refSame30 fs (by omega) B A d c hu hv1 w (own_rd (A := B) (m := fs.length) (c := d) hw) (hF2.rd (fun x hx => hw.ok x (by simp [hx]))) (hA.keep hw.clear) (hF1.keep hw.clear) hsh) ?_
    refine r_pick_t rfl rfl rfl ?_
    refine r_move rfl rfl ?_
    refine r_go rfl rfl ?_
    refine r_move rfl rfl ?_
    refine r_go rfl rfl ?_
    refine r_call rfl rfl rfl (by kernel_rfl) rfl (fun w hw => by have h := length30 A16 c16 (cmdsL fs) hE.2 (by omega) (cmdsL_small hl100) w (hG.keep hw.clear) (own_rd (A := A16) (m := (cmdsL fs).length) (c := c16) hw); rw [hE.1] at h; exact h) ?_
    refine r_go rfl rfl ?_
    refine r_move rfl rfl ?_
    refine r_go rfl rfl ?_
    refine r_len rfl rfl rfl ?_
    refine r_go rfl rfl ?_
    refine r_eql (p := true) rfl rfl rfl (decide_eq_true rfl) ?_
    refine r_pick_t rfl rfl rfl ?_
    refine r_assign rfl rfl ?_
    refine r_nil ?_
    refine r_tn ?_
    refine r_ret ?_
    exact r_done1 (.inl rfl) rfl (res_tmp rfl) fun w hw => ⟨rfl, hw.clear⟩
end Go.Proofs.YtghjbnbkfohmlaaDoor
