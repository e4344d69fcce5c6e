/-
  Rendering (chapter 24): RenderMatchesReference.
-/
import Derived.Test.YtdkgnnieehidbaaDoorRefB24
namespace Go.Proofs.YtdkgnnieehidbaaDoor
open Go Go.RowKit
set_option linter.unusedVariables false
set_option linter.unusedSimpArgs false
set_option maxHeartbeats 2000000
set_option maxRecDepth 4000
attribute [local irreducible] mix

theorem card_pattern {c : Card} (h : okC c) : (cardV c).extract 15 (15 + 16) = (c.pat.map (Value.int .u8)).toArray := by
  apply Array.ext'
  apply List.ext_getElem?
  intro i
  rw [Array.getElem?_toList, Array.getElem?_extract, cardV_size h]
  by_cases hi : i < 16
  · rw [if_pos (by omega)]
    have e : (c.pat.map (Value.int .u8))[i]? = some (.int .u8 (c.pat[i]'(by rw [h.2]; omega))) := by simp [h.2, hi]
    rw [card_pat h e]
    exact e.symm
  · rw [if_neg (by omega)]
    refine (List.getElem?_eq_none ?_).symm
    have h2 : c.pat.length = 16 := h.2
    rw [List.length_map]
    omega
def recT (r : Rec) : List (List UInt8) := linesL r.P r.hires ++ [bif r.sound then [115, 111, 117, 110, 100, 32, 111, 110] else [115, 111, 117, 110, 100, 32, 111, 102, 102], [112, 105, 116, 99, 104, 32] ++ Lib.itoa r.pitch, waveB r.pat, statR r]
theorem recT_len (r : Rec) : (recT r).length = ht r.hires + 4 := by
  unfold recT
  rw [List.length_append, linesL_len]
  rfl
theorem recRow_map (r : Rec) : recRow r = (recT r).map txV := by
  unfold recRow recT
  rw [List.map_append, ← lrow_map]
  rfl
attribute [local irreducible] planesV recV lineB waveB linesL validR recOf statR


theorem RenderMatchesReference_walk (c : Card) (hires : Bool) (hc0 : okC c) (hcb : ∀ z ∈ c.pat, 0 ≤ z ∧ z ≤ 255) (hcp : 0 ≤ c.pitch ∧ c.pitch ≤ 255) (w : World) (hG : Globs w) :
    Calls Tryd.prog 3 #[.agg (cardV c), .bool hires] w fun e w' => e = .returned (.bool true) ∧ Sat w [] [] w' := by
  refine enter Tryd.func3 rfl rfl rfl ?_
  refine r_seq ?_
  refine r_region ?_
  refine r_boxV rfl rfl fun b2 => ?_
  refine r_assign rfl rfl ?_
  refine r_nil ?_
  refine r_tn ?_
  refine r_seq ?_
  refine r_seq ?_
  refine r_region ?_
  refine r_call rfl rfl rfl (by kernel_rfl) rfl (fun w hw => by exact awake24 w (hG.keep hw)) ?_
  refine r_not rfl rfl rfl ?_
  refine r_nil ?_
  refine r_tn ?_
  refine r_cond_f rfl ?_
  refine r_skip ?_
  refine r_tn ?_
  refine r_seq ?_
  refine r_region ?_
  refine r_loadV rfl rfl rfl rfl (cardV_size hc0) ?_
  refine r_callx rfl rfl rfl (by kernel_rfl) rfl (fun w hw => by exact of23 c hc0 w) ?_
  rintro i hi
  refine Run.less (fun w hw => by have h1 := hw.perm List.perm_append_comm; simp only [List.nil_append, List.cons_append, List.append_assoc] at h1; exact h1) ?_
  obtain ⟨r, hr⟩ : ∃ r, recOf c = r := ⟨_, rfl⟩
  have hp : r.pat.length = 16 := by rw [← hr, recOf_pat]; exact hc0.2
  have hb : ∀ z ∈ r.pat, 0 ≤ z ∧ z ≤ 255 := by rw [← hr, recOf_pat]; exact hcb
  have hpi : 0 ≤ r.pitch ∧ r.pitch ≤ 255 := by rw [← hr, recOf_pitch]; exact hcp
  have hpc : c.pat = r.pat := by rw [← hr, recOf_pat]
  rw [hr] at hi ⊢
  refine r_allocV (cs := #[.slice none 0 0, .bool false, .bool false, .slice none 0 0, .int .u8 0, .int .i64 0, .int .i64 0, .int .i64 0, .int .i64 0]) (by kernel_rfl) rfl fun b5 => ?_
  refine r_storeV rfl rfl rfl rfl rfl rfl ?_
  refine r_nil ?_
  refine r_tn ?_
  refine r_seq ?_
  refine r_seq ?_
  refine r_mixedD { xb := [], rb := [b5], rs := [16, 26], fs := [], acs := [12, 14, 24] } (by kernel_rfl) (by kernel_rfl) (fun w hw k hk => by
    simp only [List.mem_cons, List.not_mem_nil, or_false] at hk
    rcases hk with rfl <;> exact Sat.lt hw) ?_
  refine r_fieldAddr (off := 0) (o' := 0) rfl rfl rfl rfl ?_
  refine r_load1 rfl rfl rfl (by rfl) ?_
  refine r_call rfl rfl rfl (by kernel_rfl) rfl (fun w hw => by exact forward24 r.P i.a i.c i.f w (hi w (fun x hx => hw.ok x (by simp [hx]))).1 (hi w (fun x hx => hw.ok x (by simp [hx]))).2.2) ?_
  refine r_move rfl rfl ?_
  refine r_callx rfl rfl rfl (by kernel_rfl) rfl (fun w hw => by exact lines24 r.P hires w) ?_
  rintro b14 _
  refine r_fieldAddr (off := 0) (o' := 0) rfl rfl rfl rfl ?_
  refine r_load1 rfl rfl rfl (by rfl) ?_
  refine r_move rfl rfl ?_
  refine r_callx rfl rfl rfl (by kernel_rfl) rfl (fun w hw => by exact refLines24 r.P hires i.a i.c i.f w (hi w (fun x hx => hw.ok x (by simp [hx]))).1 (hi w (fun x hx => hw.ok x (by simp [hx]))).2.2) ?_
  rintro ⟨A18, c18⟩ _
  refine r_call rfl rfl rfl (by kernel_rfl) rfl (fun w hw => by exact (by have h := refTexts24 (linesL r.P hires) (by rw [linesL_len]; cases hires <;> decide) (some ⟨b14, 0, none⟩) (A18) (ht hires) c18 w (by have h1 := own_rd (A := some ⟨b14, 0, none⟩) (m := ht hires) (c := (ht hires)) hw; rw [lrow_map] at h1; exact h1) (by have h1 := own_rd (A := A18) (m := ht hires) (c := c18) hw; rw [lrow_map] at h1; exact h1); rw [linesL_len] at h; exact h)) ?_
  refine r_not rfl rfl rfl ?_
  refine r_move rfl rfl ?_
  refine r_go rfl rfl ?_
  refine r_fieldAddr (off := 15) (o' := 15) rfl rfl rfl rfl ?_
  refine r_go rfl rfl ?_
  refine r_loadN (m := 16) (vs := (r.pat.map (Value.int .u8)).toArray) rfl rfl rfl rfl (by rw [cardV_size hc0]; decide) (by rw [← hpc]; exact card_pattern hc0) ?_
  refine r_go rfl rfl ?_
  refine r_call rfl rfl rfl (by kernel_rfl) rfl (fun w hw => by exact wave24 r.pat hp hb w) ?_
  refine r_go rfl rfl ?_
  refine r_fieldAddr (off := 3) (o' := 3) rfl rfl rfl rfl ?_
  refine r_go rfl rfl ?_
  refine r_load1 (v := .slice (some ⟨i.b, 0, none⟩) 16 i.d) rfl rfl rfl rfl ?_
  refine r_go rfl rfl ?_
  refine r_call rfl rfl rfl (by kernel_rfl) rfl (fun w hw => by exact refWave24 r.pat (some ⟨i.b, 0, none⟩) i.d hp hb w (hi w (fun x hx => hw.ok x (by simp [hx]))).2.1) ?_
  refine r_go rfl rfl ?_
  refine r_neq_string (a := tx (waveB r.pat)) (b := tx (waveB r.pat)) (p := false) rfl rfl rfl (by rw [beq_self_eq_true]; rfl) ?_
  refine r_pick_f rfl rfl rfl ?_
  refine r_nil ?_
  refine r_tn ?_
  refine r_cond_f rfl ?_
  refine r_skip ?_
  refine r_tn ?_
  refine r_seq ?_
  refine r_seq ?_
  refine r_region ?_
  refine r_loadV rfl rfl rfl rfl rfl ?_
  refine r_call rfl rfl rfl (by kernel_rfl) rfl (fun w hw => by exact refValid23 r i w (hi w (fun x hx => hw.ok x (by simp [hx])))) ?_
  refine r_not rfl rfl rfl ?_
  refine r_nil ?_
  refine r_tn ?_
  refine r_cond rfl (fun hc => ?_) (fun hc => ?_)
  · refine r_seq ?_
    refine r_region ?_
    refine r_assign rfl rfl ?_
    refine r_nil ?_
    refine r_tn ?_
    refine r_ret ?_
    refine r_tr ?_
    exact r_done1 (.inl rfl) rfl (res_tmp rfl) fun w hw => ⟨rfl, hw.clear⟩
  · refine r_skip ?_
    refine r_tn ?_
    refine r_seq ?_
    refine r_mixedD { xb := [], rb := [b5], rs := [37, 44], fs := [], acs := [35, 42, 43] } (by kernel_rfl) (by kernel_rfl) (fun w hw k hk => by
      simp only [List.mem_cons, List.not_mem_nil, or_false] at hk
      rcases hk with rfl <;> exact Sat.lt hw) ?_
    have hv : validR r = true := by simpa using hc
    have hst : statusB r.kind r.cause r.pc r.cycle = true := valid_status hv
    refine r_fieldAddr (off := 5) (o' := 5) rfl rfl rfl rfl ?_
    refine r_loadN (m := 4) (vs := #[.int .i64 r.kind, .int .i64 r.cause, .int .i64 r.pc, .int .i64 r.cycle]) rfl rfl rfl rfl (by show 5 + 4 ≤ 9; decide) rfl ?_
    refine r_call rfl rfl rfl (by kernel_rfl) rfl (fun w hw => by exact statG24 r hst w (hG.keep hw)) ?_
    refine r_fieldAddr (off := 5) (o' := 5) rfl rfl rfl rfl ?_
    refine r_loadN (m := 4) (vs := #[.int .i64 r.kind, .int .i64 r.cause, .int .i64 r.pc, .int .i64 r.cycle]) rfl rfl rfl rfl (by show 5 + 4 ≤ 9; decide) rfl ?_
    refine r_call rfl rfl rfl (by kernel_rfl) rfl (fun w hw => by exact refStatG24 r hst w) ?_
    refine r_eql_string (a := tx (statR r)) (b := tx (statR r)) (p := true) rfl rfl rfl (by rw [beq_self_eq_true]) ?_
    refine r_move rfl rfl ?_
    refine r_go rfl rfl ?_
    refine r_loadV rfl rfl rfl rfl rfl ?_
    refine r_go rfl rfl ?_
    refine r_call rfl rfl rfl (by kernel_rfl) rfl (fun w hw => by exact of24 r i hp w (hi w (fun x hx => hw.ok x (by simp [hx])))) ?_
    refine r_go rfl rfl ?_
    refine r_callx rfl rfl rfl (by kernel_rfl) rfl (fun w hw => by exact record24 r hp hb hpi hst w (hG.keep hw)) ?_
    rintro ⟨A43, c43⟩ _
    refine r_go rfl rfl ?_
    refine r_loadV rfl rfl rfl rfl rfl ?_
    refine r_go rfl rfl ?_
    refine r_callx rfl rfl rfl (by kernel_rfl) rfl (fun w hw => by exact refRecord24 r i hp hb hpi hst w (hi w (fun x hx => hw.ok x (by simp [hx])))) ?_
    rintro ⟨A45, c45⟩ _
    refine r_go rfl rfl ?_
    refine r_call rfl rfl rfl (by kernel_rfl) rfl (fun w hw => by exact (by have h := refTexts24 (recT r) (by rw [recT_len]; cases r.hires <;> decide) (A43) (A45) c43 c45 w (by have h1 := own_rd (A := A43) (m := ht r.hires + 4) (c := c43) hw; rw [recRow_map] at h1; exact h1) (by have h1 := own_rd (A := A45) (m := ht r.hires + 4) (c := c45) hw; rw [recRow_map] at h1; exact h1); rw [recT_len] at h; exact h)) ?_
    refine r_pick_t rfl rfl rfl ?_
    refine r_assign rfl rfl ?_
    refine r_nil ?_
    refine r_tn ?_
    refine r_ret ?_
    exact r_done1 (.inl rfl) rfl (res_tmp rfl) fun w hw => ⟨rfl, hw.clear⟩
end Go.Proofs.YtdkgnnieehidbaaDoor
