/-
  Rendering (chapter 24): RenderInverse.
-/
import Derived.Test.YtdkgnnieehidbaaDoorSizes24
namespace Go.Proofs.YtdkgnnieehidbaaDoor
open Go Go.RowKit
set_option linter.unusedVariables false
set_option linter.unusedSimpArgs false
set_option maxHeartbeats 2000000
set_option maxRecDepth 4000
attribute [local irreducible] mix

theorem valid_in {r : Rec} (h : validR r = true) : inP r.hires r.P := by
  intro k hk y x hy hx hp
  refine (fitsB_iff (r.P k) r.hires).1 ?_ y hy x hx hp
  cases hf : fitsB (r.P k) r.hires
  · rw [valid_no r hk hf] at h; cases h
  · rfl
attribute [local irreducible] planesV recV lineB waveB linesL validR recOf


theorem RenderInverse_walk (c : Card) (hc0 : okC c) (hcb : ∀ z ∈ c.pat, 0 ≤ z ∧ z ≤ 255) (hcp : 0 ≤ c.pitch ∧ c.pitch ≤ 255) (w : World) (hG : Globs w) :
    Calls Tryd.prog 4 #[.agg (cardV c)] w fun e w' => e = .returned (.bool true) ∧ Sat w [] [] w' := by
  refine enter Tryd.func4 rfl rfl rfl ?_
  refine r_seq ?_
  refine r_region ?_
  refine r_boxV rfl rfl fun b1 => ?_
  refine r_assign rfl rfl ?_
  refine r_nil ?_
  refine r_tn ?_
  refine r_seq ?_
  refine r_region ?_
  refine r_loadV rfl rfl rfl rfl (cardV_size hc0) ?_
  refine r_callx rfl rfl rfl (by kernel_rfl) rfl (fun w hw => by exact of23 c hc0 w) ?_
  rintro i hi
  refine Run.less (fun w hw => by have h1 := hw.perm List.perm_append_comm; simp only [List.nil_append, List.cons_append, List.append_assoc] at h1; exact h1) ?_
  obtain ⟨r0, hr0⟩ : ∃ r0, recOf c = r0 := ⟨_, rfl⟩
  rw [hr0] at hi ⊢
  obtain ⟨r, hr⟩ : ∃ r : Rec, r = { r0 with kind := 0, cause := 0, pc := 0, cycle := 0 } := ⟨_, rfl⟩
  replace hi : ∀ w1, OkAll i.R w1 → RefIs w1 r i := fun w1 h1 => by have h2 := hi w1 h1; subst hr; exact h2
  refine r_allocV (cs := #[.slice none 0 0, .bool false, .bool false, .slice none 0 0, .int .u8 0, .int .i64 0, .int .i64 0, .int .i64 0, .int .i64 0]) (by kernel_rfl) rfl fun b3 => ?_
  refine r_storeV rfl rfl rfl rfl rfl rfl ?_
  refine r_nil ?_
  refine r_tn ?_
  refine r_seq ?_
  refine r_region ?_
  refine r_build (cells := #[.int .i64 0, .int .i64 0, .int .i64 0, .int .i64 0]) rfl rfl (by kernel_rfl) ?_
  refine r_fieldAddr (off := 5) (o' := 5) rfl rfl rfl rfl ?_
  refine r_store (m := 4) (cs' := refV r i) rfl rfl rfl rfl (by show 5 + 4 ≤ 9; decide) rfl (by rw [hr]; rfl) ?_
  refine r_nil ?_
  refine r_tn ?_
  refine r_seq ?_
  refine r_seq ?_
  refine r_region ?_
  refine r_call rfl rfl rfl (by kernel_rfl) rfl (fun w hw => by exact awake24 w (hG.keep hw)) ?_
  refine r_not rfl rfl rfl ?_
  refine r_move rfl rfl ?_
  refine r_go rfl rfl ?_
  refine r_loadV rfl rfl rfl rfl rfl ?_
  refine r_go rfl rfl ?_
  refine r_call rfl rfl rfl (by kernel_rfl) rfl (fun w hw => by exact refValid23 r i w (hi w (fun x hx => hw.ok x (by simp [hx])))) ?_
  refine r_go rfl rfl ?_
  refine r_not rfl rfl rfl ?_
  refine r_pick_f rfl rfl rfl ?_
  refine r_nil ?_
  refine r_tn ?_
  refine r_cond rfl (fun hc => ?_) (fun hc => ?_)
  · refine r_seq ?_
    refine r_region ?_
    refine r_call rfl rfl rfl (by kernel_rfl) rfl (fun w hw => by exact awake24 w (hG.keep hw)) ?_
    refine r_assign rfl rfl ?_
    refine r_nil ?_
    refine r_tn ?_
    refine r_ret ?_
    refine r_tr ?_
    exact r_done1 (.inl rfl) rfl (res_tmp rfl) fun w hw => ⟨rfl, hw.clear⟩
  · refine r_skip ?_
    refine r_tn ?_
    refine r_seq ?_
    refine r_tree { xb := [], rb := [b3], rs := [21, 24], fs := [], acs := [4, 22] } (.take 0 (.take 1 (.take 3 (.take 4 (.fork 2 (.fork 5 (.fork 6 (.take 7 (.take 8 (.take 9 (.take 10 (.take 11 (.take 12 (.take 13 (.take 14 .done)))))))) 11 (.take 6 (.take 7 (.take 8 (.take 9 (.take 10 (.take 12 (.take 13 (.take 14 .done))))))))) 11 (.take 5 (.take 6 (.take 7 (.take 8 (.take 9 (.take 10 (.take 12 (.take 13 (.take 14 .done)))))))))) 11 (.take 2 (.take 5 (.take 6 (.take 7 (.take 8 (.take 9 (.take 10 (.take 12 (.take 13 (.take 14 .done))))))))))))))) (by kernel_rfl) (by kernel_rfl) (fun w hw k hk => by
      simp only [List.mem_cons, List.not_mem_nil, or_false] at hk
      rcases hk with rfl <;> exact Sat.lt hw) ?_
    refine r_take rfl ?_
    have hin : inP r.hires r.P := valid_in (by simpa using hc)
    refine r_fieldAddr (off := 0) (o' := 0) rfl rfl rfl rfl ?_
    refine r_nil ?_
    refine r_take rfl ?_
    refine r_load1 rfl rfl rfl (by rfl) ?_
    refine r_nil ?_
    refine r_take rfl ?_
    refine r_fieldAddr (off := 1) (o' := 1) rfl rfl rfl rfl ?_
    refine r_nil ?_
    refine r_take rfl ?_
    refine r_load1 (v := .bool r.hires) rfl rfl rfl rfl ?_
    refine r_nil ?_
    refine r_fork rfl rfl ?_ ?_
    · refine r_call rfl rfl rfl (by kernel_rfl) rfl (fun w hw => by exact forward24 r.P i.a i.c i.f w (hi w (fun x hx => hw.ok x (by simp [hx]))).1 (hi w (fun x hx => hw.ok x (by simp [hx]))).2.2) ?_
      refine r_nil ?_
      refine r_fork rfl rfl ?_ ?_
      · refine r_callx rfl rfl rfl (by kernel_rfl) rfl (fun w hw => by exact lines24 r.P r.hires w) ?_
        rintro b25 _
        refine r_nil ?_
        refine r_fork rfl rfl ?_ ?_
        · refine r_call rfl rfl rfl (by kernel_rfl) rfl (fun w hw => by exact parseLines24 r.P r.hires hin (some ⟨b25, 0, none⟩) _ w (own_rd (A := some ⟨b25, 0, none⟩) (m := ht r.hires) (c := ht r.hires) hw)) ?_
          refine r_nil ?_
          refine r_take rfl ?_
          refine r_move rfl rfl ?_
          refine r_nil ?_
          refine r_take rfl ?_
          refine r_extract rfl rfl rfl ?_
          refine r_nil ?_
          refine r_take rfl ?_
          refine r_extract rfl rfl rfl ?_
          refine r_nil ?_
          refine r_take rfl ?_
          refine r_extract rfl rfl rfl ?_
          refine r_nil ?_
          refine r_take rfl ?_
          refine r_allocV (cs := planesV (fun _ => noneQ)) zero46 rfl fun b4 => ?_
          refine r_nil ?_
          refine r_take rfl ?_
          refine r_storeV rfl rfl rfl (planesV_size _) (planesV_size _) (planesV_one _) ?_
          refine r_nil ?_
          refine r_take rfl ?_
          refine r_assign rfl rfl ?_
          refine r_nil ?_
          refine r_take rfl ?_
          refine r_assign rfl rfl ?_
          refine r_nil ?_
          refine r_treeEnd ?_
          refine r_tn ?_
          refine r_seq ?_
          refine r_mixedD { xb := [], rb := [b4], rs := [30], fs := [], acs := [33] } (by kernel_rfl) (by kernel_rfl) (fun w hw k hk => by
            simp only [List.mem_cons, List.not_mem_nil, or_false] at hk
            rcases hk with rfl <;> exact Sat.lt hw) ?_
          refine r_loadV rfl rfl rfl rfl (planesV_size _) ?_
          refine r_fieldAddr (off := 0) (o' := 0) rfl rfl rfl rfl ?_
          refine r_load1 rfl rfl rfl (by rfl) ?_
          refine r_call rfl rfl rfl (by kernel_rfl) rfl (fun w hw => by exact forward24 r.P i.a i.c i.f w (hi w (fun x hx => hw.ok x (by simp [hx]))).1 (hi w (fun x hx => hw.ok x (by simp [hx]))).2.2) ?_
          refine r_eqlAgg (p := true) rfl rfl rfl p46Flat (p46_ok _) (p46_ok _) (p46_self _) ?_
          refine r_move rfl rfl ?_
          refine r_go rfl rfl ?_
          refine r_move rfl rfl ?_
          refine r_go rfl rfl ?_
          refine r_fieldAddr (off := 1) (o' := 1) rfl rfl rfl rfl ?_
          refine r_go rfl rfl ?_
          refine r_load1 (v := .bool r.hires) rfl rfl rfl rfl ?_
          refine r_go rfl rfl ?_
          refine r_eql_bool (p := true) rfl rfl rfl rfl (by rw [beq_self_eq_true]) ?_
          refine r_pick_t rfl rfl rfl ?_
          refine r_move rfl rfl ?_
          refine r_go rfl rfl ?_
          refine r_move rfl rfl ?_
          refine r_go rfl rfl ?_
          refine r_eql (p := true) rfl rfl rfl rfl ?_
          refine r_pick_t rfl rfl rfl ?_
          refine r_assign rfl rfl ?_
          refine r_nil ?_
          refine r_tn ?_
          refine r_ret ?_
          exact r_done1 (.inl rfl) rfl (res_tmp rfl) fun w hw => ⟨rfl, hw.clear⟩
        · refine r_allocV (cs := planesV (fun _ => noneQ)) zero46 rfl fun b4 => ?_
          refine r_nil ?_
          refine r_take rfl ?_
          refine r_call rfl rfl rfl (by kernel_rfl) rfl (fun w hw => by exact parseLines24 r.P r.hires hin (some ⟨b25, 0, none⟩) _ w (own_rd (A := some ⟨b25, 0, none⟩) (m := ht r.hires) (c := ht r.hires) hw)) ?_
          refine r_nil ?_
          refine r_take rfl ?_
          refine r_move rfl rfl ?_
          refine r_nil ?_
          refine r_take rfl ?_
          refine r_extract rfl rfl rfl ?_
          refine r_nil ?_
          refine r_take rfl ?_
          refine r_extract rfl rfl rfl ?_
          refine r_nil ?_
          refine r_take rfl ?_
          refine r_extract rfl rfl rfl ?_
          refine r_nil ?_
          refine r_take rfl ?_
          refine r_storeV rfl rfl rfl (planesV_size _) (planesV_size _) (planesV_one _) ?_
          refine r_nil ?_
          refine r_take rfl ?_
          refine r_assign rfl rfl ?_
          refine r_nil ?_
          refine r_take rfl ?_
          refine r_assign rfl rfl ?_
          refine r_nil ?_
          refine r_treeEnd ?_
          refine r_tn ?_
          refine r_seq ?_
          refine r_mixedD { xb := [], rb := [b4], rs := [30], fs := [], acs := [33] } (by kernel_rfl) (by kernel_rfl) (fun w hw k hk => by
            simp only [List.mem_cons, List.not_mem_nil, or_false] at hk
            rcases hk with rfl <;> exact Sat.lt hw) ?_
          refine r_loadV rfl rfl rfl rfl (planesV_size _) ?_
          refine r_fieldAddr (off := 0) (o' := 0) rfl rfl rfl rfl ?_
          refine r_load1 rfl rfl rfl (by rfl) ?_
          refine r_call rfl rfl rfl (by kernel_rfl) rfl (fun w hw => by exact forward24 r.P i.a i.c i.f w (hi w (fun x hx => hw.ok x (by simp [hx]))).1 (hi w (fun x hx => hw.ok x (by simp [hx]))).2.2) ?_
          refine r_eqlAgg (p := true) rfl rfl rfl p46Flat (p46_ok _) (p46_ok _) (p46_self _) ?_
          refine r_move rfl rfl ?_
          refine r_go rfl rfl ?_
          refine r_move rfl rfl ?_
          refine r_go rfl rfl ?_
          refine r_fieldAddr (off := 1) (o' := 1) rfl rfl rfl rfl ?_
          refine r_go rfl rfl ?_
          refine r_load1 (v := .bool r.hires) rfl rfl rfl rfl ?_
          refine r_go rfl rfl ?_
          refine r_eql_bool (p := true) rfl rfl rfl rfl (by rw [beq_self_eq_true]) ?_
          refine r_pick_t rfl rfl rfl ?_
          refine r_move rfl rfl ?_
          refine r_go rfl rfl ?_
          refine r_move rfl rfl ?_
          refine r_go rfl rfl ?_
          refine r_eql (p := true) rfl rfl rfl rfl ?_
          refine r_pick_t rfl rfl rfl ?_
          refine r_assign rfl rfl ?_
          refine r_nil ?_
          refine r_tn ?_
          refine r_ret ?_
          exact r_done1 (.inl rfl) rfl (res_tmp rfl) fun w hw => ⟨rfl, hw.clear⟩
      · refine r_allocV (cs := planesV (fun _ => noneQ)) zero46 rfl fun b4 => ?_
        refine r_nil ?_
        refine r_take rfl ?_
        refine r_callx rfl rfl rfl (by kernel_rfl) rfl (fun w hw => by exact lines24 r.P r.hires w) ?_
        rintro b25 _
        refine r_nil ?_
        refine r_take rfl ?_
        refine r_call rfl rfl rfl (by kernel_rfl) rfl (fun w hw => by exact parseLines24 r.P r.hires hin (some ⟨b25, 0, none⟩) _ w (own_rd (A := some ⟨b25, 0, none⟩) (m := ht r.hires) (c := ht r.hires) hw)) ?_
        refine r_nil ?_
        refine r_take rfl ?_
        refine r_move rfl rfl ?_
        refine r_nil ?_
        refine r_take rfl ?_
        refine r_extract rfl rfl rfl ?_
        refine r_nil ?_
        refine r_take rfl ?_
        refine r_extract rfl rfl rfl ?_
        refine r_nil ?_
        refine r_take rfl ?_
        refine r_extract rfl rfl rfl ?_
        refine r_nil ?_
        refine r_take rfl ?_
        refine r_storeV rfl rfl rfl (planesV_size _) (planesV_size _) (planesV_one _) ?_
        refine r_nil ?_
        refine r_take rfl ?_
        refine r_assign rfl rfl ?_
        refine r_nil ?_
        refine r_take rfl ?_
        refine r_assign rfl rfl ?_
        refine r_nil ?_
        refine r_treeEnd ?_
        refine r_tn ?_
        refine r_seq ?_
        refine r_mixedD { xb := [], rb := [b4], rs := [30], fs := [], acs := [33] } (by kernel_rfl) (by kernel_rfl) (fun w hw k hk => by
          simp only [List.mem_cons, List.not_mem_nil, or_false] at hk
          rcases hk with rfl <;> exact Sat.lt hw) ?_
        refine r_loadV rfl rfl rfl rfl (planesV_size _) ?_
        refine r_fieldAddr (off := 0) (o' := 0) rfl rfl rfl rfl ?_
        refine r_load1 rfl rfl rfl (by rfl) ?_
        refine r_call rfl rfl rfl (by kernel_rfl) rfl (fun w hw => by exact forward24 r.P i.a i.c i.f w (hi w (fun x hx => hw.ok x (by simp [hx]))).1 (hi w (fun x hx => hw.ok x (by simp [hx]))).2.2) ?_
        refine r_eqlAgg (p := true) rfl rfl rfl p46Flat (p46_ok _) (p46_ok _) (p46_self _) ?_
        refine r_move rfl rfl ?_
        refine r_go rfl rfl ?_
        refine r_move rfl rfl ?_
        refine r_go rfl rfl ?_
        refine r_fieldAddr (off := 1) (o' := 1) rfl rfl rfl rfl ?_
        refine r_go rfl rfl ?_
        refine r_load1 (v := .bool r.hires) rfl rfl rfl rfl ?_
        refine r_go rfl rfl ?_
        refine r_eql_bool (p := true) rfl rfl rfl rfl (by rw [beq_self_eq_true]) ?_
        refine r_pick_t rfl rfl rfl ?_
        refine r_move rfl rfl ?_
        refine r_go rfl rfl ?_
        refine r_move rfl rfl ?_
        refine r_go rfl rfl ?_
        refine r_eql (p := true) rfl rfl rfl rfl ?_
        refine r_pick_t rfl rfl rfl ?_
        refine r_assign rfl rfl ?_
        refine r_nil ?_
        refine r_tn ?_
        refine r_ret ?_
        exact r_done1 (.inl rfl) rfl (res_tmp rfl) fun w hw => ⟨rfl, hw.clear⟩
    · refine r_allocV (cs := planesV (fun _ => noneQ)) zero46 rfl fun b4 => ?_
      refine r_nil ?_
      refine r_take rfl ?_
      refine r_call rfl rfl rfl (by kernel_rfl) rfl (fun w hw => by exact forward24 r.P i.a i.c i.f w (hi w (fun x hx => hw.ok x (by simp [hx]))).1 (hi w (fun x hx => hw.ok x (by simp [hx]))).2.2) ?_
      refine r_nil ?_
      refine r_take rfl ?_
      refine r_callx rfl rfl rfl (by kernel_rfl) rfl (fun w hw => by exact lines24 r.P r.hires w) ?_
      rintro b25 _
      refine r_nil ?_
      refine r_take rfl ?_
      refine r_call rfl rfl rfl (by kernel_rfl) rfl (fun w hw => by exact parseLines24 r.P r.hires hin (some ⟨b25, 0, none⟩) _ w (own_rd (A := some ⟨b25, 0, none⟩) (m := ht r.hires) (c := ht r.hires) hw)) ?_
      refine r_nil ?_
      refine r_take rfl ?_
      refine r_move rfl rfl ?_
      refine r_nil ?_
      refine r_take rfl ?_
      refine r_extract rfl rfl rfl ?_
      refine r_nil ?_
      refine r_take rfl ?_
      refine r_extract rfl rfl rfl ?_
      refine r_nil ?_
      refine r_take rfl ?_
      refine r_extract rfl rfl rfl ?_
      refine r_nil ?_
      refine r_take rfl ?_
      refine r_storeV rfl rfl rfl (planesV_size _) (planesV_size _) (planesV_one _) ?_
      refine r_nil ?_
      refine r_take rfl ?_
      refine r_assign rfl rfl ?_
      refine r_nil ?_
      refine r_take rfl ?_
      refine r_assign rfl rfl ?_
      refine r_nil ?_
      refine r_treeEnd ?_
      refine r_tn ?_
      refine r_seq ?_
      refine r_mixedD { xb := [], rb := [b4], rs := [30], fs := [], acs := [33] } (by kernel_rfl) (by kernel_rfl) (fun w hw k hk => by
        simp only [List.mem_cons, List.not_mem_nil, or_false] at hk
        rcases hk with rfl <;> exact Sat.lt hw) ?_
      refine r_loadV rfl rfl rfl rfl (planesV_size _) ?_
      refine r_fieldAddr (off := 0) (o' := 0) rfl rfl rfl rfl ?_
      refine r_load1 rfl rfl rfl (by rfl) ?_
      refine r_call rfl rfl rfl (by kernel_rfl) rfl (fun w hw => by exact forward24 r.P i.a i.c i.f w (hi w (fun x hx => hw.ok x (by simp [hx]))).1 (hi w (fun x hx => hw.ok x (by simp [hx]))).2.2) ?_
      refine r_eqlAgg (p := true) rfl rfl rfl p46Flat (p46_ok _) (p46_ok _) (p46_self _) ?_
      refine r_move rfl rfl ?_
      refine r_go rfl rfl ?_
      refine r_move rfl rfl ?_
      refine r_go rfl rfl ?_
      refine r_fieldAddr (off := 1) (o' := 1) rfl rfl rfl rfl ?_
      refine r_go rfl rfl ?_
      refine r_load1 (v := .bool r.hires) rfl rfl rfl rfl ?_
      refine r_go rfl rfl ?_
      refine r_eql_bool (p := true) rfl rfl rfl rfl (by rw [beq_self_eq_true]) ?_
      refine r_pick_t rfl rfl rfl ?_
      refine r_move rfl rfl ?_
      refine r_go rfl rfl ?_
      refine r_move rfl rfl ?_
      refine r_go rfl rfl ?_
      refine r_eql (p := true) rfl rfl rfl rfl ?_
      refine r_pick_t rfl rfl rfl ?_
      refine r_assign rfl rfl ?_
      refine r_nil ?_
      refine r_tn ?_
      refine r_ret ?_
      exact r_done1 (.inl rfl) rfl (res_tmp rfl) fun w hw => ⟨rfl, hw.clear⟩
end Go.Proofs.YtdkgnnieehidbaaDoor
