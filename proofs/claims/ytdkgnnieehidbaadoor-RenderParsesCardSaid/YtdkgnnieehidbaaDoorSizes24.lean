/-
  Rendering (chapter 24): RenderSizes.
-/
import Derived.Test.YtdkgnnieehidbaaDoorAwake24
namespace Go.Proofs.YtdkgnnieehidbaaDoor
open Go Go.RowKit
set_option linter.unusedVariables false
set_option linter.unusedSimpArgs false
set_option maxHeartbeats 2000000
set_option maxRecDepth 4000
attribute [local irreducible] mix

section
variable {P : Program} {n : Nat} {w0 : World} {S : List Nat} {E : List (Nat × Value)} {H H' : List Res}
theorem Run.less {Gl : Act → World → Prop} (hs : ∀ w, Sat w0 S H w → Sat w0 S H' w) (h : Run n w0 S E H' Gl) : Run n w0 S E H Gl := fun a w ha hw => h a w ha (hs w hw)
end
theorem build46 : buildOf Tryd.prog 46 [] = some (planesV fun _ => noneQ) := by kernel_rfl
theorem lrow_at (P : Nat → Nat → Nat → Bool) (hires : Bool) {j : Nat} (h : j < ht hires) : ((List.range (ht hires)).map fun y => Value.string (tx (lineB P hires y)))[j]? = some (txV (lineB P hires j)) := by
  simp [h]
  rfl
theorem colN_none (x y : Nat) : colN (fun _ => noneQ) x y = 0 := by
  unfold colN
  have e : (fun i => pixQ ((fun _ : Nat => noneQ) i) (x : Int) (y : Int)) = fun _ => false := by
    funext i
    unfold pixQ getB
    show (_ && (_ && false)) = false
    rw [Bool.and_false, Bool.and_false]
  rw [e]
  rfl
theorem line_none (hires : Bool) (y : Nat) {k : Nat} (h : k < wd hires) : (tx (lineB (fun _ => noneQ) hires y))[k]? = some 46 := by
  have hl : k < (lineB (fun _ => noneQ) hires y).length := by rw [lineB_len]; exact h
  rw [tx_at _ hl, lineB_at, colN_none]
  rfl
theorem recOf_pat (c : Card) : (recOf c).pat = c.pat := rfl
theorem recOf_pitch (c : Card) : (recOf c).pitch = c.pitch := rfl
theorem recOf_hires (c : Card) : (recOf c).hires = c.hires := rfl
theorem valid_status {r : Rec} (h : validR r = true) : statusB r.kind r.cause r.pc r.cycle = true := by
  unfold validR at h
  rw [Bool.and_eq_true] at h
  exact h.2
attribute [local irreducible] planesV recV lineB waveB linesL validR recOf


theorem RenderSizes_walk (c : Card) (hc0 : okC c) (hcb : ∀ z ∈ c.pat, 0 ≤ z ∧ z ≤ 255) (hcp : 0 ≤ c.pitch ∧ c.pitch ≤ 255) (w : World) (hG : Globs w) :
    Calls Tryd.prog 6 #[.agg (cardV c)] w fun e w' => e = .returned (.bool true) ∧ Sat w [] [] w' := by
  cases hch : c.hires
  · refine enter Tryd.func6 rfl rfl rfl ?_
    refine r_seq ?_
    refine r_region ?_
    refine r_boxV rfl rfl fun b1 => ?_
    refine r_assign rfl rfl ?_
    refine r_nil ?_
    refine r_tn ?_
    refine r_seq ?_
    refine r_seq ?_
    refine r_region ?_
    refine r_call rfl rfl rfl (by kernel_rfl) rfl (fun w hw => by exact awake24 w (hG.keep hw)) ?_
    refine r_not rfl rfl rfl ?_
    refine r_nil ?_
    refine r_tn ?_
    refine r_cond_f rfl ?_
    refine r_skip ?_
    refine r_tn ?_
    refine r_seq ?_
    refine r_region ?_
    refine r_loadV rfl rfl rfl rfl (cardV_size hc0) ?_
    refine r_callx rfl rfl rfl (by kernel_rfl) rfl (fun w hw => by exact of23 c hc0 w) ?_
    rintro i hi
    refine Run.less (fun w hw => by have h1 := hw.perm List.perm_append_comm; simp only [List.nil_append, List.cons_append, List.append_assoc] at h1; exact h1) ?_
    obtain ⟨r, hr⟩ : ∃ r, recOf c = r := ⟨_, rfl⟩
    have hp : r.pat.length = 16 := by rw [← hr, recOf_pat]; exact hc0.2
    have hb : ∀ z ∈ r.pat, 0 ≤ z ∧ z ≤ 255 := by rw [← hr, recOf_pat]; exact hcb
    have hpi : 0 ≤ r.pitch ∧ r.pitch ≤ 255 := by rw [← hr, recOf_pitch]; exact hcp
    have hrh : r.hires = false := by rw [← hr, recOf_hires]; exact hch
    rw [hr] at hi ⊢
    refine r_allocV (cs := #[.slice none 0 0, .bool false, .bool false, .slice none 0 0, .int .u8 0, .int .i64 0, .int .i64 0, .int .i64 0, .int .i64 0]) (by kernel_rfl) rfl fun b3 => ?_
    refine r_storeV rfl rfl rfl rfl rfl rfl ?_
    refine r_nil ?_
    refine r_tn ?_
    refine r_seq ?_
    refine r_region ?_
    refine r_assign rfl rfl ?_
    refine r_nil ?_
    refine r_tn ?_
    refine r_seq ?_
    refine r_seq ?_
    refine r_region ?_
    refine r_fieldAddr (off := 1) (o' := 1) rfl rfl rfl rfl ?_
    refine r_load1 (v := .bool false) rfl rfl rfl (by show some (Value.bool r.hires) = _; rw [hrh]) ?_
    refine r_nil ?_
    refine r_tn ?_
    refine r_cond_f rfl ?_
    refine r_skip ?_
    refine r_tn ?_
    refine r_seq ?_
    refine r_mixedD { xb := [], rb := [b3], rs := [19], fs := [], acs := [17] } (by kernel_rfl) (by kernel_rfl) (fun w hw k hk => by
      simp only [List.mem_cons, List.not_mem_nil, or_false] at hk
      rcases hk with rfl <;> exact Sat.lt hw) ?_
    refine r_fieldAddr (off := 0) (o' := 0) rfl rfl rfl rfl ?_
    refine r_load1 rfl rfl rfl (by rfl) ?_
    refine r_call rfl rfl rfl (by kernel_rfl) rfl (fun w hw => by exact forward24 r.P i.a i.c i.f w (hi w (fun x hx => hw.ok x (by simp [hx]))).1 (hi w (fun x hx => hw.ok x (by simp [hx]))).2.2) ?_
    refine r_fieldAddr (off := 1) (o' := 1) rfl rfl rfl rfl ?_
    refine r_load1 (v := .bool false) rfl rfl rfl (by show some (Value.bool r.hires) = _; rw [hrh]) ?_
    refine r_callx rfl rfl rfl (by kernel_rfl) rfl (fun w hw => by exact lines24 r.P false w) ?_
    rintro b20 _
    refine r_assign rfl rfl ?_
    refine r_nil ?_
    refine r_tn ?_
    refine r_seq ?_
    refine r_region ?_
    refine r_build (cells := planesV (fun _ => noneQ)) rfl rfl build46 ?_
    refine r_fieldAddr (off := 1) (o' := 1) rfl rfl rfl rfl ?_
    refine r_load1 (v := .bool false) rfl rfl rfl (by show some (Value.bool r.hires) = _; rw [hrh]) ?_
    refine r_callx rfl rfl rfl (by kernel_rfl) rfl (fun w hw => by exact lines24 (fun _ => noneQ) false w) ?_
    rintro b24 _
    refine r_assign rfl rfl ?_
    refine r_nil ?_
    refine r_tn ?_
    refine r_seq ?_
    refine r_seq ?_
    refine r_region ?_
    refine r_move rfl rfl ?_
    refine r_len rfl rfl rfl ?_
    refine r_move rfl rfl ?_
    refine r_neq (p := false) rfl rfl rfl rfl ?_
    refine r_move rfl rfl ?_
    refine r_go rfl rfl ?_
    refine r_move rfl rfl ?_
    refine r_go rfl rfl ?_
    refine r_len rfl rfl rfl ?_
    refine r_go rfl rfl ?_
    refine r_move rfl rfl ?_
    refine r_go rfl rfl ?_
    refine r_neq (p := false) rfl rfl rfl rfl ?_
    refine r_pick_f rfl rfl rfl ?_
    refine r_nil ?_
    refine r_tn ?_
    refine r_cond_f rfl ?_
    refine r_skip ?_
    refine r_tn ?_
    refine r_seq ?_
    refine r_seq ?_
    refine r_region ?_
    refine r_assign rfl rfl ?_
    refine r_nil ?_
    refine r_tn ?_
    refine r_block ?_
    refine r_loopN (fun j => [(3, .pointer (some ⟨b3, 0, none⟩)), (4, .int .i64 32), (5, .slice (some ⟨b20, 0, none⟩) (ht false) (ht false)), (6, .slice (some ⟨b24, 0, none⟩) (ht false) (ht false)), (7, .int .i64 (j : Int))]) (fun j => (.own 9 1 (.slice (some ⟨b20, 0, none⟩) (ht false) (ht false)) (ht false) ((List.range (ht false)).map fun y => .string (tx (lineB (r.P) false y))) :: .own 9 1 (.slice (some ⟨b24, 0, none⟩) (ht false) (ht false)) (ht false) ((List.range (ht false)).map fun y => .string (tx (lineB (fun _ => noneQ) false y))) :: .blk b3 (.cells (refV r i) 35 (0, 0)) :: i.R)) (fun j => j ≤ ht false) (ht false) 0 (by omega) ⟨rfl, rfl, rfl, rfl, rfl, trivial⟩ (fun w hw => hw.sub) fun j hj => ?_
    refine r_seq ?_
    refine r_seq ?_
    refine r_region ?_
    refine r_move rfl rfl ?_
    refine r_move rfl rfl ?_
    refine r_lss (p := decide (j < ht false)) rfl rfl rfl (decide_eq_decide.2 ⟨fun h => by have e : ht false = 32 := rfl; omega, fun h => by have e : ht false = 32 := rfl; omega⟩) ?_
    refine r_nil ?_
    refine r_tn ?_
    refine r_cond rfl (fun hc => ?_) (fun hc => ?_)
    · refine r_skip ?_
      refine r_tn ?_
      refine r_seq ?_
      refine r_block ?_
      refine r_seq ?_
      refine r_seq ?_
      refine r_region ?_
      have hj2 : j < ht false := of_decide_eq_true hc
      clear hc
      have eN : ht false = 32 := rfl
      refine r_move rfl rfl ?_
      refine r_move rfl rfl ?_
      refine r_indexSl (sz := 1) (o' := 0 + j) rfl rfl rfl rfl rfl (by omega) (by omega) (by omega) ?_
      refine r_loadC (p := ⟨b20, 0 + j, none⟩) (v := txV (lineB (r.P) false j)) rfl rfl rfl (fun w hw => (own_rd (A := some ⟨b20, 0, none⟩) (m := ht false) (c := ht false) hw).cell (lrow_at (r.P) false hj2) rfl) ?_
      refine r_lenStr rfl rfl rfl ?_
      refine r_move rfl rfl ?_
      refine r_mul (r := 64) rfl rfl rfl (w64 (by decide)) ?_
      refine r_neq (p := false) rfl rfl rfl (by rw [tx_size, lineB_len]; rfl) ?_
      refine r_move rfl rfl ?_
      refine r_go rfl rfl ?_
      refine r_move rfl rfl ?_
      refine r_go rfl rfl ?_
      refine r_move rfl rfl ?_
      refine r_go rfl rfl ?_
      refine r_indexSl (sz := 1) (o' := 0 + j) rfl rfl rfl rfl rfl (by omega) (by omega) (by omega) ?_
      refine r_go rfl rfl ?_
      refine r_loadC (p := ⟨b24, 0 + j, none⟩) (v := txV (lineB (fun _ => noneQ) false j)) rfl rfl rfl (fun w hw => (own_rd (A := some ⟨b24, 0, none⟩) (m := ht false) (c := ht false) hw).cell (lrow_at (fun _ => noneQ) false hj2) rfl) ?_
      refine r_go rfl rfl ?_
      refine r_lenStr rfl rfl rfl ?_
      refine r_go rfl rfl ?_
      refine r_move rfl rfl ?_
      refine r_go rfl rfl ?_
      refine r_mul (r := 64) rfl rfl rfl (w64 (by decide)) ?_
      refine r_go rfl rfl ?_
      refine r_neq (p := false) rfl rfl rfl (by rw [tx_size, lineB_len]; rfl) ?_
      refine r_pick_f rfl rfl rfl ?_
      refine r_nil ?_
      refine r_tn ?_
      refine r_cond_f rfl ?_
      refine r_skip ?_
      refine r_tn ?_
      refine r_seq ?_
      refine r_region ?_
      refine r_assign rfl rfl ?_
      refine r_nil ?_
      refine r_tn ?_
      refine r_block ?_
      refine r_loopN (fun k => [(3, .pointer (some ⟨b3, 0, none⟩)), (4, .int .i64 32), (5, .slice (some ⟨b20, 0, none⟩) (ht false) (ht false)), (6, .slice (some ⟨b24, 0, none⟩) (ht false) (ht false)), (7, .int .i64 (j : Int)), (8, .int .i64 (k : Int))]) (fun k => (.own 9 1 (.slice (some ⟨b20, 0, none⟩) (ht false) (ht false)) (ht false) ((List.range (ht false)).map fun y => .string (tx (lineB (r.P) false y))) :: .own 9 1 (.slice (some ⟨b24, 0, none⟩) (ht false) (ht false)) (ht false) ((List.range (ht false)).map fun y => .string (tx (lineB (fun _ => noneQ) false y))) :: .blk b3 (.cells (refV r i) 35 (0, 0)) :: i.R)) (fun k => k ≤ wd false) (wd false) 0 (by omega) ⟨rfl, rfl, rfl, rfl, rfl, rfl, trivial⟩ (fun w hw => hw.sub) fun k hk => ?_
      refine r_seq ?_
      refine r_seq ?_
      refine r_region ?_
      refine r_move rfl rfl ?_
      refine r_move rfl rfl ?_
      refine r_mul (r := 64) rfl rfl rfl (w64 (by decide)) ?_
      refine r_lss (p := decide (k < wd false)) rfl rfl rfl (decide_eq_decide.2 ⟨fun h => by have e : wd false = 64 := rfl; omega, fun h => by have e : wd false = 64 := rfl; omega⟩) ?_
      refine r_nil ?_
      refine r_tn ?_
      refine r_cond rfl (fun hc => ?_) (fun hc => ?_)
      · refine r_skip ?_
        refine r_tn ?_
        refine r_seq ?_
        refine r_block ?_
        refine r_seq ?_
        refine r_region ?_
        have hk2 : k < wd false := of_decide_eq_true hc
        clear hc
        have eM : wd false = 64 := rfl
        refine r_move rfl rfl ?_
        refine r_move rfl rfl ?_
        refine r_indexSl (sz := 1) (o' := 0 + j) rfl rfl rfl rfl rfl (by omega) (by omega) (by omega) ?_
        refine r_loadC (p := ⟨b24, 0 + j, none⟩) (v := txV (lineB (fun _ => noneQ) false j)) rfl rfl rfl (fun w hw => (own_rd (A := some ⟨b24, 0, none⟩) (m := ht false) (c := ht false) hw).cell (lrow_at (fun _ => noneQ) false hj2) rfl) ?_
        refine r_move rfl rfl ?_
        refine r_idxStr (i' := k) (z := 46) rfl rfl rfl rfl rfl (line_none false j hk2) ?_
        refine r_neq (p := false) rfl rfl rfl rfl ?_
        refine r_nil ?_
        refine r_tn ?_
        refine r_cond_f rfl ?_
        refine r_skip ?_
        refine r_bn ?_
        refine r_tn ?_
        refine r_region ?_
        refine r_move rfl rfl ?_
        refine r_add rfl rfl rfl (w64 (by omega)) ?_
        refine r_assign rfl rfl ?_
        refine r_nil ?_
        refine r_tn ?_
        exact r_againN (k + 1) (by omega) (by omega) ⟨rfl, rfl, rfl, rfl, rfl, rfl, trivial⟩ (fun w hw => hw.sub)
      · refine r_exit ?_
        refine r_te ?_
        refine r_te ?_
        refine r_be ?_
        refine r_bn ?_
        refine r_tn ?_
        refine r_region ?_
        refine r_move rfl rfl ?_
        refine r_add rfl rfl rfl (w64 (by omega)) ?_
        refine r_assign rfl rfl ?_
        refine r_nil ?_
        refine r_tn ?_
        exact r_againN (j + 1) (by omega) (by omega) ⟨rfl, rfl, rfl, rfl, rfl, trivial⟩ (fun w hw => hw.sub)
    · refine r_exit ?_
      refine r_te ?_
      refine r_te ?_
      refine r_be ?_
      refine r_tn ?_
      refine r_seq ?_
      refine r_region ?_
      have hj3 : j = ht false := by have h : ¬ j < ht false := of_decide_eq_false hc; omega
      subst hj3
      clear hc
      refine r_loadV rfl rfl rfl rfl rfl ?_
      refine r_call rfl rfl rfl (by kernel_rfl) rfl (fun w hw => by exact refValid23 r i w (hi w (fun x hx => hw.ok x (by simp [hx])))) ?_
      refine r_not rfl rfl rfl ?_
      refine r_move rfl rfl ?_
      refine r_split 74 rfl (fun hb74 => ?_) (fun hb74 => ?_)
      · refine r_pass rfl rfl rfl rfl ?_
        refine r_pass rfl rfl rfl rfl ?_
        refine r_pass rfl rfl rfl rfl ?_
        refine r_pass rfl rfl rfl rfl ?_
        refine r_pass rfl rfl rfl rfl ?_
        refine r_pass rfl rfl rfl rfl ?_
        refine r_pass rfl rfl rfl rfl ?_
        refine r_pick_t rfl rfl rfl ?_
        refine r_assign rfl rfl ?_
        refine r_nil ?_
        refine r_tn ?_
        refine r_ret ?_
        exact r_done1 (.inl rfl) rfl (res_tmp rfl) fun w hw => ⟨rfl, hw.clear⟩
      · refine r_go rfl rfl ?_
        have hv : validR r = true := by simpa using hb74
        have hst : statusB r.kind r.cause r.pc r.cycle = true := valid_status hv
        refine r_loadV rfl rfl rfl rfl rfl ?_
        refine r_go rfl rfl ?_
        refine r_call rfl rfl rfl (by kernel_rfl) rfl (fun w hw => by exact of24 r i hp w (hi w (fun x hx => hw.ok x (by simp [hx])))) ?_
        refine r_go rfl rfl ?_
        refine r_callx rfl rfl rfl (by kernel_rfl) rfl (fun w hw => by exact record24 r hp hb hpi hst w (hG.keep hw)) ?_
        rintro ⟨A77, c77⟩ _
        refine r_go rfl rfl ?_
        refine r_len rfl rfl rfl ?_
        refine r_go rfl rfl ?_
        refine r_move rfl rfl ?_
        refine r_go rfl rfl ?_
        refine r_add (r := 32 + 4) rfl rfl rfl rfl ?_
        refine r_go rfl rfl ?_
        refine r_eql (p := true) rfl rfl rfl (by rw [hrh]; rfl) ?_
        refine r_pick_f rfl rfl rfl ?_
        refine r_assign rfl rfl ?_
        refine r_nil ?_
        refine r_tn ?_
        refine r_ret ?_
        exact r_done1 (.inl rfl) rfl (res_tmp rfl) fun w hw => ⟨rfl, hw.clear⟩
  · refine enter Tryd.func6 rfl rfl rfl ?_
    refine r_seq ?_
    refine r_region ?_
    refine r_boxV rfl rfl fun b1 => ?_
    refine r_assign rfl rfl ?_
    refine r_nil ?_
    refine r_tn ?_
    refine r_seq ?_
    refine r_seq ?_
    refine r_region ?_
    refine r_call rfl rfl rfl (by kernel_rfl) rfl (fun w hw => by exact awake24 w (hG.keep hw)) ?_
    refine r_not rfl rfl rfl ?_
    refine r_nil ?_
    refine r_tn ?_
    refine r_cond_f rfl ?_
    refine r_skip ?_
    refine r_tn ?_
    refine r_seq ?_
    refine r_region ?_
    refine r_loadV rfl rfl rfl rfl (cardV_size hc0) ?_
    refine r_callx rfl rfl rfl (by kernel_rfl) rfl (fun w hw => by exact of23 c hc0 w) ?_
    rintro i hi
    refine Run.less (fun w hw => by have h1 := hw.perm List.perm_append_comm; simp only [List.nil_append, List.cons_append, List.append_assoc] at h1; exact h1) ?_
    obtain ⟨r, hr⟩ : ∃ r, recOf c = r := ⟨_, rfl⟩
    have hp : r.pat.length = 16 := by rw [← hr, recOf_pat]; exact hc0.2
    have hb : ∀ z ∈ r.pat, 0 ≤ z ∧ z ≤ 255 := by rw [← hr, recOf_pat]; exact hcb
    have hpi : 0 ≤ r.pitch ∧ r.pitch ≤ 255 := by rw [← hr, recOf_pitch]; exact hcp
    have hrh : r.hires = true := by rw [← hr, recOf_hires]; exact hch
    rw [hr] at hi ⊢
    refine r_allocV (cs := #[.slice none 0 0, .bool false, .bool false, .slice none 0 0, .int .u8 0, .int .i64 0, .int .i64 0, .int .i64 0, .int .i64 0]) (by kernel_rfl) rfl fun b3 => ?_
    refine r_storeV rfl rfl rfl rfl rfl rfl ?_
    refine r_nil ?_
    refine r_tn ?_
    refine r_seq ?_
    refine r_region ?_
    refine r_assign rfl rfl ?_
    refine r_nil ?_
    refine r_tn ?_
    refine r_seq ?_
    refine r_seq ?_
    refine r_region ?_
    refine r_fieldAddr (off := 1) (o' := 1) rfl rfl rfl rfl ?_
    refine r_load1 (v := .bool true) rfl rfl rfl (by show some (Value.bool r.hires) = _; rw [hrh]) ?_
    refine r_nil ?_
    refine r_tn ?_
    refine r_cond_t rfl ?_
    refine r_region ?_
    refine r_assign rfl rfl ?_
    refine r_nil ?_
    refine r_tn ?_
    refine r_seq ?_
    refine r_mixedD { xb := [], rb := [b3], rs := [19], fs := [], acs := [17] } (by kernel_rfl) (by kernel_rfl) (fun w hw k hk => by
      simp only [List.mem_cons, List.not_mem_nil, or_false] at hk
      rcases hk with rfl <;> exact Sat.lt hw) ?_
    refine r_fieldAddr (off := 0) (o' := 0) rfl rfl rfl rfl ?_
    refine r_load1 rfl rfl rfl (by rfl) ?_
    refine r_call rfl rfl rfl (by kernel_rfl) rfl (fun w hw => by exact forward24 r.P i.a i.c i.f w (hi w (fun x hx => hw.ok x (by simp [hx]))).1 (hi w (fun x hx => hw.ok x (by simp [hx]))).2.2) ?_
    refine r_fieldAddr (off := 1) (o' := 1) rfl rfl rfl rfl ?_
    refine r_load1 (v := .bool true) rfl rfl rfl (by show some (Value.bool r.hires) = _; rw [hrh]) ?_
    refine r_callx rfl rfl rfl (by kernel_rfl) rfl (fun w hw => by exact lines24 r.P true w) ?_
    rintro b20 _
    refine r_assign rfl rfl ?_
    refine r_nil ?_
    refine r_tn ?_
    refine r_seq ?_
    refine r_region ?_
    refine r_build (cells := planesV (fun _ => noneQ)) rfl rfl build46 ?_
    refine r_fieldAddr (off := 1) (o' := 1) rfl rfl rfl rfl ?_
    refine r_load1 (v := .bool true) rfl rfl rfl (by show some (Value.bool r.hires) = _; rw [hrh]) ?_
    refine r_callx rfl rfl rfl (by kernel_rfl) rfl (fun w hw => by exact lines24 (fun _ => noneQ) true w) ?_
    rintro b24 _
    refine r_assign rfl rfl ?_
    refine r_nil ?_
    refine r_tn ?_
    refine r_seq ?_
    refine r_seq ?_
    refine r_region ?_
    refine r_move rfl rfl ?_
    refine r_len rfl rfl rfl ?_
    refine r_move rfl rfl ?_
    refine r_neq (p := false) rfl rfl rfl rfl ?_
    refine r_move rfl rfl ?_
    refine r_go rfl rfl ?_
    refine r_move rfl rfl ?_
    refine r_go rfl rfl ?_
    refine r_len rfl rfl rfl ?_
    refine r_go rfl rfl ?_
    refine r_move rfl rfl ?_
    refine r_go rfl rfl ?_
    refine r_neq (p := false) rfl rfl rfl rfl ?_
    refine r_pick_f rfl rfl rfl ?_
    refine r_nil ?_
    refine r_tn ?_
    refine r_cond_f rfl ?_
    refine r_skip ?_
    refine r_tn ?_
    refine r_seq ?_
    refine r_seq ?_
    refine r_region ?_
    refine r_assign rfl rfl ?_
    refine r_nil ?_
    refine r_tn ?_
    refine r_block ?_
    refine r_loopN (fun j => [(3, .pointer (some ⟨b3, 0, none⟩)), (4, .int .i64 64), (5, .slice (some ⟨b20, 0, none⟩) (ht true) (ht true)), (6, .slice (some ⟨b24, 0, none⟩) (ht true) (ht true)), (7, .int .i64 (j : Int))]) (fun j => (.own 9 1 (.slice (some ⟨b20, 0, none⟩) (ht true) (ht true)) (ht true) ((List.range (ht true)).map fun y => .string (tx (lineB (r.P) true y))) :: .own 9 1 (.slice (some ⟨b24, 0, none⟩) (ht true) (ht true)) (ht true) ((List.range (ht true)).map fun y => .string (tx (lineB (fun _ => noneQ) true y))) :: .blk b3 (.cells (refV r i) 35 (0, 0)) :: i.R)) (fun j => j ≤ ht true) (ht true) 0 (by omega) ⟨rfl, rfl, rfl, rfl, rfl, trivial⟩ (fun w hw => hw.sub) fun j hj => ?_
    refine r_seq ?_
    refine r_seq ?_
    refine r_region ?_
    refine r_move rfl rfl ?_
    refine r_move rfl rfl ?_
    refine r_lss (p := decide (j < ht true)) rfl rfl rfl (decide_eq_decide.2 ⟨fun h => by have e : ht true = 64 := rfl; omega, fun h => by have e : ht true = 64 := rfl; omega⟩) ?_
    refine r_nil ?_
    refine r_tn ?_
    refine r_cond rfl (fun hc => ?_) (fun hc => ?_)
    · refine r_skip ?_
      refine r_tn ?_
      refine r_seq ?_
      refine r_block ?_
      refine r_seq ?_
      refine r_seq ?_
      refine r_region ?_
      have hj2 : j < ht true := of_decide_eq_true hc
      clear hc
      have eN : ht true = 64 := rfl
      refine r_move rfl rfl ?_
      refine r_move rfl rfl ?_
      refine r_indexSl (sz := 1) (o' := 0 + j) rfl rfl rfl rfl rfl (by omega) (by omega) (by omega) ?_
      refine r_loadC (p := ⟨b20, 0 + j, none⟩) (v := txV (lineB (r.P) true j)) rfl rfl rfl (fun w hw => (own_rd (A := some ⟨b20, 0, none⟩) (m := ht true) (c := ht true) hw).cell (lrow_at (r.P) true hj2) rfl) ?_
      refine r_lenStr rfl rfl rfl ?_
      refine r_move rfl rfl ?_
      refine r_mul (r := 128) rfl rfl rfl (w64 (by decide)) ?_
      refine r_neq (p := false) rfl rfl rfl (by rw [tx_size, lineB_len]; rfl) ?_
      refine r_move rfl rfl ?_
      refine r_go rfl rfl ?_
      refine r_move rfl rfl ?_
      refine r_go rfl rfl ?_
      refine r_move rfl rfl ?_
      refine r_go rfl rfl ?_
      refine r_indexSl (sz := 1) (o' := 0 + j) rfl rfl rfl rfl rfl (by omega) (by omega) (by omega) ?_
      refine r_go rfl rfl ?_
      refine r_loadC (p := ⟨b24, 0 + j, none⟩) (v := txV (lineB (fun _ => noneQ) true j)) rfl rfl rfl (fun w hw => (own_rd (A := some ⟨b24, 0, none⟩) (m := ht true) (c := ht true) hw).cell (lrow_at (fun _ => noneQ) true hj2) rfl) ?_
      refine r_go rfl rfl ?_
      refine r_lenStr rfl rfl rfl ?_
      refine r_go rfl rfl ?_
      refine r_move rfl rfl ?_
      refine r_go rfl rfl ?_
      refine r_mul (r := 128) rfl rfl rfl (w64 (by decide)) ?_
      refine r_go rfl rfl ?_
      refine r_neq (p := false) rfl rfl rfl (by rw [tx_size, lineB_len]; rfl) ?_
      refine r_pick_f rfl rfl rfl ?_
      refine r_nil ?_
      refine r_tn ?_
      refine r_cond_f rfl ?_
      refine r_skip ?_
      refine r_tn ?_
      refine r_seq ?_
      refine r_region ?_
      refine r_assign rfl rfl ?_
      refine r_nil ?_
      refine r_tn ?_
      refine r_block ?_
      refine r_loopN (fun k => [(3, .pointer (some ⟨b3, 0, none⟩)), (4, .int .i64 64), (5, .slice (some ⟨b20, 0, none⟩) (ht true) (ht true)), (6, .slice (some ⟨b24, 0, none⟩) (ht true) (ht true)), (7, .int .i64 (j : Int)), (8, .int .i64 (k : Int))]) (fun k => (.own 9 1 (.slice (some ⟨b20, 0, none⟩) (ht true) (ht true)) (ht true) ((List.range (ht true)).map fun y => .string (tx (lineB (r.P) true y))) :: .own 9 1 (.slice (some ⟨b24, 0, none⟩) (ht true) (ht true)) (ht true) ((List.range (ht true)).map fun y => .string (tx (lineB (fun _ => noneQ) true y))) :: .blk b3 (.cells (refV r i) 35 (0, 0)) :: i.R)) (fun k => k ≤ wd true) (wd true) 0 (by omega) ⟨rfl, rfl, rfl, rfl, rfl, rfl, trivial⟩ (fun w hw => hw.sub) fun k hk => ?_
      refine r_seq ?_
      refine r_seq ?_
      refine r_region ?_
      refine r_move rfl rfl ?_
      refine r_move rfl rfl ?_
      refine r_mul (r := 128) rfl rfl rfl (w64 (by decide)) ?_
      refine r_lss (p := decide (k < wd true)) rfl rfl rfl (decide_eq_decide.2 ⟨fun h => by have e : wd true = 128 := rfl; omega, fun h => by have e : wd true = 128 := rfl; omega⟩) ?_
      refine r_nil ?_
      refine r_tn ?_
      refine r_cond rfl (fun hc => ?_) (fun hc => ?_)
      · refine r_skip ?_
        refine r_tn ?_
        refine r_seq ?_
        refine r_block ?_
        refine r_seq ?_
        refine r_region ?_
        have hk2 : k < wd true := of_decide_eq_true hc
        clear hc
        have eM : wd true = 128 := rfl
        refine r_move rfl rfl ?_
        refine r_move rfl rfl ?_
        refine r_indexSl (sz := 1) (o' := 0 + j) rfl rfl rfl rfl rfl (by omega) (by omega) (by omega) ?_
        refine r_loadC (p := ⟨b24, 0 + j, none⟩) (v := txV (lineB (fun _ => noneQ) true j)) rfl rfl rfl (fun w hw => (own_rd (A := some ⟨b24, 0, none⟩) (m := ht true) (c := ht true) hw).cell (lrow_at (fun _ => noneQ) true hj2) rfl) ?_
        refine r_move rfl rfl ?_
        refine r_idxStr (i' := k) (z := 46) rfl rfl rfl rfl rfl (line_none true j hk2) ?_
        refine r_neq (p := false) rfl rfl rfl rfl ?_
        refine r_nil ?_
        refine r_tn ?_
        refine r_cond_f rfl ?_
        refine r_skip ?_
        refine r_bn ?_
        refine r_tn ?_
        refine r_region ?_
        refine r_move rfl rfl ?_
        refine r_add rfl rfl rfl (w64 (by omega)) ?_
        refine r_assign rfl rfl ?_
        refine r_nil ?_
        refine r_tn ?_
        exact r_againN (k + 1) (by omega) (by omega) ⟨rfl, rfl, rfl, rfl, rfl, rfl, trivial⟩ (fun w hw => hw.sub)
      · refine r_exit ?_
        refine r_te ?_
        refine r_te ?_
        refine r_be ?_
        refine r_bn ?_
        refine r_tn ?_
        refine r_region ?_
        refine r_move rfl rfl ?_
        refine r_add rfl rfl rfl (w64 (by omega)) ?_
        refine r_assign rfl rfl ?_
        refine r_nil ?_
        refine r_tn ?_
        exact r_againN (j + 1) (by omega) (by omega) ⟨rfl, rfl, rfl, rfl, rfl, trivial⟩ (fun w hw => hw.sub)
    · refine r_exit ?_
      refine r_te ?_
      refine r_te ?_
      refine r_be ?_
      refine r_tn ?_
      refine r_seq ?_
      refine r_region ?_
      have hj3 : j = ht true := by have h : ¬ j < ht true := of_decide_eq_false hc; omega
      subst hj3
      clear hc
      refine r_loadV rfl rfl rfl rfl rfl ?_
      refine r_call rfl rfl rfl (by kernel_rfl) rfl (fun w hw => by exact refValid23 r i w (hi w (fun x hx => hw.ok x (by simp [hx])))) ?_
      refine r_not rfl rfl rfl ?_
      refine r_move rfl rfl ?_
      refine r_split 74 rfl (fun hb74 => ?_) (fun hb74 => ?_)
      · refine r_pass rfl rfl rfl rfl ?_
        refine r_pass rfl rfl rfl rfl ?_
        refine r_pass rfl rfl rfl rfl ?_
        refine r_pass rfl rfl rfl rfl ?_
        refine r_pass rfl rfl rfl rfl ?_
        refine r_pass rfl rfl rfl rfl ?_
        refine r_pass rfl rfl rfl rfl ?_
        refine r_pick_t rfl rfl rfl ?_
        refine r_assign rfl rfl ?_
        refine r_nil ?_
        refine r_tn ?_
        refine r_ret ?_
        exact r_done1 (.inl rfl) rfl (res_tmp rfl) fun w hw => ⟨rfl, hw.clear⟩
      · refine r_go rfl rfl ?_
        have hv : validR r = true := by simpa using hb74
        have hst : statusB r.kind r.cause r.pc r.cycle = true := valid_status hv
        refine r_loadV rfl rfl rfl rfl rfl ?_
        refine r_go rfl rfl ?_
        refine r_call rfl rfl rfl (by kernel_rfl) rfl (fun w hw => by exact of24 r i hp w (hi w (fun x hx => hw.ok x (by simp [hx])))) ?_
        refine r_go rfl rfl ?_
        refine r_callx rfl rfl rfl (by kernel_rfl) rfl (fun w hw => by exact record24 r hp hb hpi hst w (hG.keep hw)) ?_
        rintro ⟨A77, c77⟩ _
        refine r_go rfl rfl ?_
        refine r_len rfl rfl rfl ?_
        refine r_go rfl rfl ?_
        refine r_move rfl rfl ?_
        refine r_go rfl rfl ?_
        refine r_add (r := 64 + 4) rfl rfl rfl rfl ?_
        refine r_go rfl rfl ?_
        refine r_eql (p := true) rfl rfl rfl (by rw [hrh]; rfl) ?_
        refine r_pick_f rfl rfl rfl ?_
        refine r_assign rfl rfl ?_
        refine r_nil ?_
        refine r_tn ?_
        refine r_ret ?_
        exact r_done1 (.inl rfl) rfl (res_tmp rfl) fun w hw => ⟨rfl, hw.clear⟩
end Go.Proofs.YtdkgnnieehidbaaDoor
