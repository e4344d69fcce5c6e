/-
  Macros (chapter 30): awake.
-/
import Derived.Test.YtghjbnbkfohmlaaDoorAwk30
namespace Go.Proofs.YtghjbnbkfohmlaaDoor
open Go Go.RowKit
set_option linter.unusedVariables false
set_option linter.unusedSimpArgs false
set_option maxHeartbeats 2000000
set_option maxRecDepth 4000
attribute [local irreducible] mix

theorem FrRd.at {w : World} {hv : List Value} {fs : List (List Ev)} (h : FrRd w hv fs) {i : Nat} (hi : i < fs.length) {A : Option Addr} {c : Nat} (e : hv[i]? = some (.slice A fs[i].length c)) : Rd w A (evsL fs[i]) := by
  obtain ⟨B, d, e2, r⟩ := h.2 i hi
  rw [e] at e2
  injection e2 with e2
  injection e2 with e3 _ _
  rw [e3]
  exact r
theorem aw_okF : ∀ f ∈ aw1, okF f := by
  have h : rightB aw1 = true := by decide
  exact ((right_iff aw1).1 h).2
attribute [local irreducible] evsL ownsOf rightB cmdsL waitT evT stOf okF


theorem awake30  (w : World) (hG : Glob30 w) :
    Calls Tryd.prog 8 #[] w fun e w' => e = .returned (.bool true) ∧ Sat w [] [] w' := by
  refine enter Tryd.func8 rfl rfl rfl ?_
  refine r_seq ?_
  refine r_region ?_
  refine r_assign rfl rfl ?_
  refine r_nil ?_
  refine r_tn ?_
  refine r_seq ?_
  refine r_region ?_
  refine Run.startL ?_
  refine r_lit (sz := 1) (pv := [(0, txV [112, 114, 101, 115, 115, 32, 49]), (1, txV [119, 97, 105, 116, 32, 50]), (2, txV [114, 101, 108, 101, 97, 115, 101, 32, 49])]) (cells := #[txV [112, 114, 101, 115, 115, 32, 49], txV [119, 97, 105, 116, 32, 50], txV [114, 101, 108, 101, 97, 115, 101, 32, 49]]) rfl rfl rfl rfl rfl rfl (by kernel_rfl) rfl (fun b11 => ?_) (by decide)
  refine r_callE (X := [.own 9 1 (.slice (some ⟨b11, 0, none⟩) 3 3) 3 #[txV [112, 114, 101, 115, 115, 32, 49], txV [119, 97, 105, 116, 32, 50], txV [114, 101, 108, 101, 97, 115, 101, 32, 49]].toList]) (L0 := []) (by first | rfl | exact (by simp)) rfl rfl rfl (by kernel_rfl) rfl (fun w hw => by exact expandE30 (some ⟨b11, 0, none⟩) 3 3 awL1 aw1 rfl aw_st1.1 aw_st1.2 (by decide) (small_of (by decide)) w (hG.keep hw.clear) (own_rd (A := some ⟨b11, 0, none⟩) (m := 3) (c := 3) hw)) ?_
  rintro ⟨A, c, _, _, hv, L⟩ hF1
  have hF1 : FrL hv aw1 L := hF1
  refine Run.less (H' := .own 25 1 (.slice A aw1.length c) aw1.length hv :: ownsOf (L ++ [])) (fun w hw => hw.sub) ?_
  rw [List.append_nil]
  refine r_move rfl rfl ?_
  refine r_extract (v := .slice A aw1.length c) rfl rfl rfl ?_
  refine r_extract (v := .int .i64 0) rfl rfl rfl ?_
  refine r_extract (v := .int .i64 0) rfl rfl rfl ?_
  refine r_assign rfl rfl ?_
  refine r_assign rfl rfl ?_
  refine r_assign rfl rfl ?_
  refine r_nil ?_
  refine r_tn ?_
  refine r_seq ?_
  refine r_region ?_
  refine r_lit (sz := 1) (pv := [(0, txV [116, 97, 112, 32, 49, 32, 50])]) (cells := #[txV [116, 97, 112, 32, 49, 32, 50]]) rfl rfl rfl rfl rfl rfl (by kernel_rfl) rfl (fun b17 => ?_) (by decide)
  refine r_callE (X := [.own 9 1 (.slice (some ⟨b17, 0, none⟩) 1 1) 1 #[txV [116, 97, 112, 32, 49, 32, 50]].toList, .own 25 1 (.slice A aw1.length c) aw1.length hv]) (L0 := L) (by first | rfl | exact (by simp)) rfl rfl rfl (by kernel_rfl) rfl (fun w hw => by exact expandE30 (some ⟨b17, 0, none⟩) 1 1 awT aw1 rfl aw_st2.1 aw_st2.2 (by decide) (small_of (by decide)) w (hG.keep hw.clear) (own_rd (A := some ⟨b17, 0, none⟩) (m := 1) (c := 1) hw)) ?_
  rintro ⟨B, d, _, _, hu, M⟩ hF2
  have hF2 : FrL hu aw1 M := hF2
  refine Run.less (H' := .own 25 1 (.slice B aw1.length d) aw1.length hu :: .own 25 1 (.slice A aw1.length c) aw1.length hv :: ownsOf (M ++ L)) (fun w hw => hw.sub) ?_
  refine r_move rfl rfl ?_
  refine r_extract (v := .slice B aw1.length d) rfl rfl rfl ?_
  refine r_extract (v := .int .i64 0) rfl rfl rfl ?_
  refine r_extract (v := .int .i64 0) rfl rfl rfl ?_
  refine r_assign rfl rfl ?_
  refine r_assign rfl rfl ?_
  refine r_assign rfl rfl ?_
  refine r_nil ?_
  refine r_tn ?_
  refine r_seq ?_
  refine r_region ?_
  refine r_lit (sz := 1) (pv := [(0, txV [112, 114, 101, 115, 115, 32, 49]), (1, txV [119, 97, 105, 116, 32, 48])]) (cells := #[txV [112, 114, 101, 115, 115, 32, 49], txV [119, 97, 105, 116, 32, 48]]) rfl rfl rfl rfl rfl rfl (by kernel_rfl) rfl (fun b23 => ?_) (by decide)
  refine r_call rfl rfl rfl (by kernel_rfl) rfl (fun w hw => by exact (by have h := expandBad30 (some ⟨b23, 0, none⟩) 2 awB aw_bad.1 (by decide) (small_of (by decide)) w (hG.keep hw.clear) (own_rd (A := some ⟨b23, 0, none⟩) (m := 2) (c := 2) hw); rw [aw_bad.2] at h; exact h)) ?_
  refine r_move rfl rfl ?_
  refine r_extract (v := .slice none 0 0) rfl rfl rfl ?_
  refine r_extract (v := .int .i64 1) rfl rfl rfl ?_
  refine r_extract (v := .int .i64 6) rfl rfl rfl ?_
  refine r_assign rfl rfl ?_
  refine r_assign rfl rfl ?_
  refine r_assign rfl rfl ?_
  refine r_nil ?_
  refine r_tn ?_
  refine r_seq ?_
  refine r_region ?_
  refine r_have (fun w hw => own_some (A := A) (m := aw1.length) (c := c) hw (by decide)) fun hq => ?_
  obtain ⟨g, rfl⟩ := hq
  obtain ⟨A0, c0, e0, _⟩ := hF1.2 0 (by decide)
  obtain ⟨A1, c1, e1, _⟩ := hF1.2 1 (by decide)
  refine r_have (fun w hw => ev_some (((hF1.right M).rd (fun x hx => hw.ok x (by simp [hx]))).at (by decide) e0) (j := 0) (by decide)) fun hq => ?_
  obtain ⟨b0, o0, rfl⟩ := hq
  refine r_move rfl rfl ?_
  refine r_len rfl rfl rfl ?_
  refine r_eql (p := true) rfl rfl rfl rfl ?_
  refine r_move rfl rfl ?_
  refine r_go rfl rfl ?_
  refine r_move rfl rfl ?_
  refine r_go rfl rfl ?_
  refine r_indexSl (sz := 1) (o' := 0 + 0) rfl rfl rfl rfl rfl (by decide) (by decide) rfl ?_
  refine r_go rfl rfl ?_
  refine r_loadC (p := ⟨g, 0 + 0, none⟩) (v := .slice (some ⟨b0, o0, none⟩) (aw1[0]'(by decide)).length c0) rfl rfl rfl (fun w hw => (own_rd (A := (some ⟨g, 0, none⟩)) (m := aw1.length) (c := c) hw).cell e0 rfl) ?_
  refine r_go rfl rfl ?_
  refine r_len rfl rfl rfl ?_
  refine r_go rfl rfl ?_
  refine r_eql (p := true) rfl rfl rfl rfl ?_
  refine r_pick_t rfl rfl rfl ?_
  refine r_move rfl rfl ?_
  refine r_go rfl rfl ?_
  refine r_move rfl rfl ?_
  refine r_go rfl rfl ?_
  refine r_indexSl (sz := 1) (o' := 0 + 0) rfl rfl rfl rfl rfl (by decide) (by decide) rfl ?_
  refine r_go rfl rfl ?_
  refine r_loadC (p := ⟨g, 0 + 0, none⟩) (v := .slice (some ⟨b0, o0, none⟩) (aw1[0]'(by decide)).length c0) rfl rfl rfl (fun w hw => (own_rd (A := (some ⟨g, 0, none⟩)) (m := aw1.length) (c := c) hw).cell e0 rfl) ?_
  refine r_go rfl rfl ?_
  refine r_indexSl (sz := 2) (o' := o0 + 0 * 2) rfl rfl rfl rfl rfl (by decide) (by decide) rfl ?_
  refine r_go rfl rfl ?_
  refine r_loadRd (m := 2) (vs := [.int .i64 1, .bool true]) rfl rfl rfl rfl rfl (fun w hw => ev_rd (((hF1.right M).rd (fun x hx => hw.ok x (by simp [hx]))).at (by decide) e0) (j := 0) (by decide)) ?_
  refine r_go rfl rfl ?_
  refine r_build (cells := #[.int .i64 1, .bool true]) rfl rfl (by kernel_rfl) ?_
  refine r_go rfl rfl ?_
  refine r_eqlAgg (p := true) rfl rfl rfl keFlat rfl rfl (cellsEq_self (ks := [.i .i64, .b]) rfl) ?_
  refine r_pick_t rfl rfl rfl ?_
  refine r_move rfl rfl ?_
  refine r_go rfl rfl ?_
  refine r_move rfl rfl ?_
  refine r_go rfl rfl ?_
  refine r_indexSl (sz := 1) (o' := 0 + 1) rfl rfl rfl rfl rfl (by decide) (by decide) rfl ?_
  refine r_go rfl rfl ?_
  refine r_loadC (p := ⟨g, 0 + 1, none⟩) (v := .slice A1 (aw1[1]'(by decide)).length c1) rfl rfl rfl (fun w hw => (own_rd (A := (some ⟨g, 0, none⟩)) (m := aw1.length) (c := c) hw).cell e1 rfl) ?_
  refine r_go rfl rfl ?_
  refine r_len rfl rfl rfl ?_
  refine r_go rfl rfl ?_
  refine r_eql (p := true) rfl rfl rfl rfl ?_
  refine r_pick_t rfl rfl rfl ?_
  refine r_move rfl rfl ?_
  refine r_go rfl rfl ?_
  refine r_move rfl rfl ?_
  refine r_go rfl rfl ?_
  refine r_eql (p := true) rfl rfl rfl rfl ?_
  refine r_pick_t rfl rfl rfl ?_
  refine r_move rfl rfl ?_
  refine r_go rfl rfl ?_
  refine r_move rfl rfl ?_
  refine r_go rfl rfl ?_
  refine r_eql (p := true) rfl rfl rfl rfl ?_
  refine r_pick_t rfl rfl rfl ?_
  refine r_move rfl rfl ?_
  refine r_go rfl rfl ?_
  refine r_move rfl rfl ?_
  refine r_go rfl rfl ?_
  refine r_move rfl rfl ?_
  refine r_go rfl rfl ?_
  refine r_call rfl rfl rfl (by kernel_rfl) rfl (fun w hw => by exact refSame30 aw1 (by decide) (some ⟨g, 0, none⟩) B c d hv hu w (own_rd (A := (some ⟨g, 0, none⟩)) (m := aw1.length) (c := c) hw) ((hF1.right M).rd (fun x hx => hw.ok x (by simp [hx]))) (own_rd (A := B) (m := aw1.length) (c := d) hw) ((hF2.left L).rd (fun x hx => hw.ok x (by simp [hx]))) (by decide)) ?_
  refine r_pick_t rfl rfl rfl ?_
  refine r_move rfl rfl ?_
  refine r_go rfl rfl ?_
  refine r_move rfl rfl ?_
  refine r_go rfl rfl ?_
  refine r_eql (p := true) rfl rfl rfl rfl ?_
  refine r_pick_t rfl rfl rfl ?_
  refine r_move rfl rfl ?_
  refine r_go rfl rfl ?_
  refine r_move rfl rfl ?_
  refine r_go rfl rfl ?_
  refine r_eql (p := true) rfl rfl rfl rfl ?_
  refine r_pick_t rfl rfl rfl ?_
  refine r_move rfl rfl ?_
  refine r_go rfl rfl ?_
  refine r_move rfl rfl ?_
  refine r_go rfl rfl ?_
  refine r_eql (p := true) rfl rfl rfl rfl ?_
  refine r_pick_t rfl rfl rfl ?_
  refine r_move rfl rfl ?_
  refine r_go rfl rfl ?_
  refine r_move rfl rfl ?_
  refine r_go rfl rfl ?_
  refine r_callx rfl rfl rfl (by kernel_rfl) rfl (fun w hw => by exact commandsF30 aw1 (by decide) aw_okF (some ⟨g, 0, none⟩) c hv w (own_rd (A := (some ⟨g, 0, none⟩)) (m := aw1.length) (c := c) hw) ((hF1.right M).rd (fun x hx => hw.ok x (by simp [hx]))) (hG.keep hw.clear)) ?_
  rintro ⟨A81, c81⟩ _
  rw [aw_cmds]
  refine r_go rfl rfl ?_
  refine r_lit (sz := 1) (pv := [(0, txV [112, 114, 101, 115, 115, 32, 49]), (1, txV [119, 97, 105, 116, 32, 50]), (2, txV [114, 101, 108, 101, 97, 115, 101, 32, 49])]) (cells := #[txV [112, 114, 101, 115, 115, 32, 49], txV [119, 97, 105, 116, 32, 50], txV [114, 101, 108, 101, 97, 115, 101, 32, 49]]) rfl rfl rfl rfl rfl rfl (by kernel_rfl) rfl (fun b82 => ?_) (by decide)
  refine r_go rfl rfl ?_
  refine r_call rfl rfl rfl (by kernel_rfl) rfl (fun w hw => by exact refTexts24 awL1 (by decide) A81 (some ⟨b82, 0, none⟩) c81 3 w (own_rd (A := A81) (m := awL1.length) (c := c81) hw) (own_rd (A := some ⟨b82, 0, none⟩) (m := 3) (c := 3) hw)) ?_
  refine r_pick_t rfl rfl rfl ?_
  refine r_move rfl rfl ?_
  refine r_go rfl rfl ?_
  refine r_lit (sz := 1) (pv := [(0, txV [119, 97, 105, 116, 32, 55])]) (cells := #[txV [119, 97, 105, 116, 32, 55]]) rfl rfl rfl rfl rfl rfl (by kernel_rfl) rfl (fun b86 => ?_) (by decide)
  refine r_go rfl rfl ?_
  refine r_call rfl rfl rfl (by kernel_rfl) rfl (fun w hw => by exact (by have h := length30 (some ⟨b86, 0, none⟩) 1 awW aw_w7.2 (by decide) (small_of (by decide)) w (hG.keep hw.clear) (own_rd (A := some ⟨b86, 0, none⟩) (m := 1) (c := 1) hw); rw [aw_w7.1] at h; exact h)) ?_
  refine r_go rfl rfl ?_
  refine r_eql (p := true) rfl rfl rfl rfl ?_
  refine r_pick_t rfl rfl rfl ?_
  refine r_move rfl rfl ?_
  refine r_go rfl rfl ?_
  refine r_lit (sz := 1) (pv := [(0, txV [119, 97, 105, 116])]) (cells := #[txV [119, 97, 105, 116]]) rfl rfl rfl rfl rfl rfl (by kernel_rfl) rfl (fun b91 => ?_) (by decide)
  refine r_go rfl rfl ?_
  refine r_call rfl rfl rfl (by kernel_rfl) rfl (fun w hw => by exact lengthBad30 (some ⟨b91, 0, none⟩) 1 awN aw_wn (by decide) (small_of (by decide)) w (hG.keep hw.clear) (own_rd (A := some ⟨b91, 0, none⟩) (m := 1) (c := 1) hw)) ?_
  refine r_go rfl rfl ?_
  refine r_eql (p := true) rfl rfl rfl rfl ?_
  refine r_pick_t rfl rfl rfl ?_
  refine r_assign rfl rfl ?_
  refine r_nil ?_
  refine r_tn ?_
  refine r_ret ?_
  exact r_done1 (.inl rfl) rfl (res_tmp rfl) fun w hw => ⟨rfl, hw.clear⟩
end Go.Proofs.YtghjbnbkfohmlaaDoor
