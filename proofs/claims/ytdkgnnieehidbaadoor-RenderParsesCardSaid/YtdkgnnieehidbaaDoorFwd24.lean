/-
  Rendering (chapter 24): forward, of.
-/
import Derived.Test.YtdkgnnieehidbaaDoorParse24
namespace Go.Proofs.YtdkgnnieehidbaaDoor
open Go Go.RowKit
set_option linter.unusedVariables false
set_option linter.unusedSimpArgs false
set_option maxHeartbeats 2000000
set_option maxRecDepth 4000
attribute [local irreducible] mix
theorem recV_set {r r2 : Rec} {i : Nat} {v : Value} (hP : r2.P = r.P) (ht : (tailL r).set i v = tailL r2) : (recV r).setIfInBounds (512 + i) v = recV r2 := by
  unfold recV recL
  rw [List.setIfInBounds_toArray, List.set_append_right _ _ (by rw [planesL_len]; omega), planesL_len, Nat.add_sub_cancel_left, ht, hP]
theorem tail_setp {r : Rec} (h : r.pat.length = 16) {k : Nat} (hk : k < 16) (v : Int) : (tailL r).set (2 + k) (.int .u8 v) = tailL { r with pat := r.pat.set k v } := by
  unfold tailL
  rw [List.set_append_right _ _ (by simp), show 2 + k - [Value.bool r.hires, Value.bool r.sound].length = k by simp, List.set_append_left _ _ (by simp; omega), ← List.map_set]
def patK (p : List Int) (k : Nat) : List Int := p.take k ++ List.replicate (16 - k) 0
theorem patK_len {p : List Int} (h : p.length = 16) {k : Nat} (hk : k ≤ 16) : (patK p k).length = 16 := by
  unfold patK
  rw [List.length_append, List.length_take, List.length_replicate]; omega
theorem patK_set {p : List Int} (h : p.length = 16) {k : Nat} (hk : k < 16) : (patK p k).set k (p.getD k 0) = patK p (k + 1) := by
  have e : List.replicate (16 - k) (0 : Int) = 0 :: List.replicate (16 - (k + 1)) 0 := by rw [show 16 - k = (16 - (k + 1)) + 1 by omega, List.replicate_succ]
  have e2 : (p.take k).length = k := by rw [List.length_take]; omega
  have hk2 : k < p.length := by omega
  unfold patK
  rw [e, List.set_append_right _ _ (by omega), e2, Nat.sub_self, List.set_cons_zero, List.take_add_one, List.append_assoc]
  congr 1
  simp [hk2]

theorem planesV_at (P : Nat → Nat → Nat → Bool) {j : Nat} (h : j < 512) : (planesV P)[j]? = some (.int .u64 ((cellP (P (j / 128)) (j % 128) : Nat) : Int)) := by
  show (planesL P).toArray[j]? = _
  rw [List.getElem?_toArray]
  exact planesL_at P h
theorem planesV_row (P : Nat → Nat → Nat → Bool) {i y : Nat} (hi : i < 4) (h : y < 64) (q : Nat → Bool) : splice (planesV P) (128 * i + 2 * y) (rowV q) = planesV (setPl P i (setRow (P i) y q)) := by
  unfold splice
  apply Array.ext_getElem?
  intro j
  have e : (rowV q).size = 2 := rfl
  rw [e]
  have hl : (planesV P).toList.length = 512 := by rw [Array.length_toList, planesV_size]
  have hp : ∀ j, (planesV P).toList[j]? = (planesV P)[j]? := fun j => Array.getElem?_toList
  have hr : ∀ j, (rowV q).toList[j]? = (rowV q)[j]? := fun j => Array.getElem?_toList
  have hc : ∀ j, ¬ (j / 128 = i ∧ j % 128 / 2 = y) → cellP (setPl P i (setRow (P i) y q) (j / 128)) (j % 128) = cellP (P (j / 128)) (j % 128) := fun j hj => by
    unfold cellP setPl
    by_cases e1 : j / 128 = i
    · rw [if_pos e1, ← e1]
      unfold setRow
      rw [if_neg (fun e2 => hj ⟨e1, e2⟩)]
    · rw [if_neg e1]
  rw [List.getElem?_toArray, List.append_assoc, List.getElem?_append, List.length_take, hl, List.getElem?_take]
  by_cases h1 : j < 128 * i + 2 * y
  · rw [if_pos (by omega), if_pos h1, hp, planesV_at P (by omega), planesV_at _ (by omega), hc j (by omega)]
  · rw [if_neg (by omega), show min (128 * i + 2 * y) 512 = 128 * i + 2 * y by omega, List.getElem?_append, hr, rowV_at]
    have e2 : (rowV q).toList.length = 2 := rfl
    rw [e2]
    by_cases h2 : j < 128 * i + 2 * y + 2
    · rw [if_pos (by omega), planesV_at _ (by omega)]
      have d1 : j / 128 = i := by omega
      have d2 : j % 128 / 2 = y := by omega
      unfold cellP setPl setRow
      rw [d1, if_pos rfl, d2]
      by_cases h3 : j - (128 * i + 2 * y) = 0
      · rw [if_pos h3, if_pos (by omega), if_pos rfl]
      · rw [if_neg h3, if_pos (by omega), if_neg (by omega), if_pos rfl]
    · rw [if_neg (by omega), List.getElem?_drop, hp, show 128 * i + 2 * y + 2 + (j - (128 * i + 2 * y) - 2) = j by omega]
      by_cases h3 : j < 512
      · rw [planesV_at P h3, planesV_at _ h3, hc j (by omega)]
      · rw [Array.getElem?_eq_none (by rw [planesV_size]; omega), Array.getElem?_eq_none (by rw [planesV_size]; omega)]
def fsQ (P : Nat → Nat → Nat → Bool) (i y j : Nat) : Nat → Nat → Bool := if j < i then P j else if j = i then partQ (P j) y else noneQ
theorem fsQ_zero (P : Nat → Nat → Nat → Bool) : planesV (fsQ P 0 0) = planesV (fun _ => noneQ) := by
  congr 1
  funext j
  unfold fsQ
  rw [if_neg (by omega)]
  split
  · rfl
  · rfl
theorem fsQ_step (P : Nat → Nat → Nat → Bool) (i y : Nat) : setPl (fsQ P i y) i (setRow (fsQ P i y i) y (P i y)) = fsQ P i (y + 1) := by
  funext j
  unfold setPl
  by_cases e : j = i
  · subst e
    rw [if_pos rfl]
    unfold fsQ
    rw [if_neg (by omega), if_pos rfl, if_neg (by omega), if_pos rfl]
    exact partQ_succ (P j) y
  · rw [if_neg e]
    unfold fsQ
    by_cases h : j < i
    · rw [if_pos h, if_pos h]
    · rw [if_neg h, if_neg h, if_neg e, if_neg e]
theorem fsQ_next (P : Nat → Nat → Nat → Bool) (i : Nat) : planesV (fsQ P i 64) = planesV (fsQ P (i + 1) 0) := by
  refine planesV_congr fun j hj y hy x hx => ?_
  unfold fsQ
  by_cases e : j < i
  · rw [if_pos e, if_pos (by omega)]
  · rw [if_neg e]
    by_cases e2 : j = i
    · rw [if_pos e2, if_pos (by omega)]
      unfold partQ
      rw [if_pos hy]
    · rw [if_neg e2, if_neg (by omega)]
      split
      · rfl
      · rfl
theorem fsQ_all (P : Nat → Nat → Nat → Bool) : planesV (fsQ P 4 0) = planesV P := by
  refine planesV_congr fun j hj y hy x hx => ?_
  unfold fsQ
  rw [if_pos hj]
def rec0 : Rec := ⟨fun _ => noneQ, false, false, List.replicate 16 0, 0, 0, 0, 0, 0⟩
theorem zeroRec : ((Tryd.prog.info? 55).bind (·.zero)) = some (.agg (recV rec0)) := by kernel_rfl
theorem recV_one (r : Rec) : (recV r).toList.all Value.oneCell' = true := by
  refine List.all_eq_true.2 fun v hv => ?_
  have hv : v ∈ planesL r.P ++ tailL r := hv
  rcases List.mem_append.1 hv with hv | hv
  · obtain ⟨x, _, rfl⟩ := List.mem_map.1 hv
    rfl
  · unfold tailL at hv
    simp only [List.mem_append, List.mem_cons, List.not_mem_nil, or_false, List.mem_map] at hv
    rcases hv with (rfl | rfl) | ⟨x, _, rfl⟩ | rfl | rfl | rfl | rfl | rfl <;> rfl
def ofA (r : Rec) (k : Nat) : Rec := ⟨r.P, r.hires, r.sound, patK r.pat k, r.pitch, r.kind, r.cause, r.pc, r.cycle⟩
theorem ofA_len {r : Rec} (h : r.pat.length = 16) {k : Nat} (hk : k ≤ 16) : (ofA r k).pat.length = 16 := patK_len h hk
theorem ofA_step {r : Rec} (h : r.pat.length = 16) {k : Nat} (hk : k < 16) : (recV (ofA r k)).setIfInBounds (514 + k) (.int .u8 (r.pat.getD k 0)) = recV (ofA r (k + 1)) := by
  rw [show 514 + k = 512 + (2 + k) by omega]
  refine recV_set rfl ?_
  rw [tail_setp (ofA_len h (by omega)) hk]
  show tailL ⟨_, _, _, (patK r.pat k).set k (r.pat.getD k 0), _, _, _, _, _⟩ = _
  rw [patK_set h hk]
  rfl
theorem ofA_end {r : Rec} (h : r.pat.length = 16) : recV (ofA r 16) = recV r := by
  have e : patK r.pat 16 = r.pat := by
    unfold patK
    rw [List.take_of_length_le (by omega)]
    exact List.append_nil _
  unfold ofA
  rw [e]
theorem build55 (r : Rec) : buildOf Tryd.prog 55 [(0, .agg (planesV r.P)), (1, .bool r.hires), (2, .bool r.sound), (4, .int .u8 r.pitch), (5, .agg #[.int .i64 r.kind, .int .i64 r.cause, .int .i64 r.pc, .int .i64 r.cycle])] = some (recV (ofA r 0)) := by kernel_rfl
attribute [local irreducible] planesV recV fsQ ofA


theorem forward24 (P : Nat → Nat → Nat → Bool) (a c : Nat) (f : Nat → Nat) (w : World) (hA : Rd w (some ⟨a, 0, none⟩) (plS4 f 4)) (hP : ∀ j, j < 4 → Rd w (some ⟨f j, 0, none⟩) (boolsN 8192 (flatP (P j)))) :
    Calls Tryd.prog 11 #[.slice (some ⟨a, 0, none⟩) 4 c] w fun e w' => e = .returned (.agg (planesV P)) ∧ Sat w [] [] w' := by
  refine enter Tryd.func11 rfl rfl rfl ?_
  refine r_seq ?_
  refine r_region ?_
  refine r_allocV (cs := planesV (fun _ => noneQ)) zero46 rfl fun b2 => ?_
  refine r_nil ?_
  refine r_tn ?_
  refine r_seq ?_
  refine r_region ?_
  refine r_allocV (cs := planesV (fun _ => noneQ)) zero46 rfl fun b3 => ?_
  refine r_nil ?_
  refine r_tn ?_
  refine r_seq ?_
  refine r_seq ?_
  refine r_region ?_
  refine r_assign rfl rfl ?_
  refine r_nil ?_
  refine r_tn ?_
  refine r_block ?_
  refine r_loopN (fun i => [(0, .slice (some ⟨a, 0, none⟩) 4 c), (2, .pointer (some ⟨b2, 0, none⟩)), (3, .pointer (some ⟨b3, 0, none⟩)), (4, .int .i64 (i : Int))]) (fun i => [.blk b2 (.cells (planesV (fun _ => noneQ)) 46 (0, 0)), .blk b3 (.cells (planesV (fsQ P i 0)) 46 (0, 0))]) (fun i => i ≤ 4) 4 0 (by omega) ⟨rfl, rfl, rfl, rfl, trivial⟩ (fun w hw => by rw [fsQ_zero]; have h2 : Sat _ _ [.blk b2 (.cells (planesV (fun _ => noneQ)) 46 (0, 0)), .blk b3 (.cells (planesV (fun _ => noneQ)) 46 (0, 0))] w := hw.sub; exact h2) fun i hi => ?_
  refine r_seq ?_
  refine r_seq ?_
  refine r_region ?_
  refine r_move rfl rfl ?_
  refine r_lss rfl rfl rfl rfl ?_
  refine r_nil ?_
  refine r_tn ?_
  refine r_cond rfl (fun hc => ?_) (fun hc => ?_)
  · refine r_skip ?_
    refine r_tn ?_
    refine r_seq ?_
    refine r_block ?_
    refine r_seq ?_
    have hi4 : i < 4 := by have h := of_decide_eq_true hc; omega
    clear hc
    refine r_region ?_
    refine r_assign rfl rfl ?_
    refine r_nil ?_
    refine r_tn ?_
    refine r_block ?_
    refine r_loopN (fun k => [(0, .slice (some ⟨a, 0, none⟩) 4 c), (2, .pointer (some ⟨b2, 0, none⟩)), (3, .pointer (some ⟨b3, 0, none⟩)), (4, .int .i64 (i : Int)), (5, .int .i64 (k : Int))]) (fun k => [.blk b2 (.cells (planesV (fun _ => noneQ)) 46 (0, 0)), .blk b3 (.cells (planesV (fsQ P i k)) 46 (0, 0))]) (fun k => k ≤ 64) 64 0 (by omega) ⟨rfl, rfl, rfl, rfl, rfl, trivial⟩ (fun w hw => hw.sub) fun k hk => ?_
    refine r_seq ?_
    refine r_seq ?_
    refine r_region ?_
    refine r_move rfl rfl ?_
    refine r_lss rfl rfl rfl rfl ?_
    refine r_nil ?_
    refine r_tn ?_
    refine r_cond rfl (fun hc => ?_) (fun hc => ?_)
    · refine r_skip ?_
      refine r_tn ?_
      refine r_seq ?_
      refine r_block ?_
      refine r_seq ?_
      refine r_region ?_
      have hk2 : k < 64 := by have h := of_decide_eq_true hc; omega
      clear hc
      refine r_move rfl rfl ?_
      refine r_move rfl rfl ?_
      refine r_indexSl (sz := 1) (o' := 0 + i) rfl rfl rfl rfl rfl (by omega) (by omega) (by omega) ?_
      refine r_loadC (p := ⟨a, 0 + i, none⟩) (v := .slice (some ⟨f i, 0, none⟩) 8192 8192) rfl rfl rfl (fun w hw => (hA.keep hw).cell (plS4_at f hi4) rfl) ?_
      refine r_move rfl rfl ?_
      refine r_call rfl rfl rfl (by kernel_rfl) rfl (fun w hw => by exact words07 (P i) k (f i) 8192 w ((hP i hi4).keep hw) hk2) ?_
      refine r_move rfl rfl ?_
      refine r_extract rfl rfl rfl ?_
      refine r_extract rfl rfl rfl ?_
      refine r_assign rfl rfl ?_
      refine r_assign rfl rfl ?_
      refine r_nil ?_
      refine r_tn ?_
      refine r_region ?_
      refine r_move rfl rfl ?_
      refine r_move rfl rfl ?_
      refine r_move rfl rfl ?_
      refine r_move rfl rfl ?_
      refine r_build (cells := rowV (P i k)) rfl rfl (by kernel_rfl) ?_
      refine r_indexArr (sz := 128) (o' := 128 * i) rfl rfl rfl rfl rfl (by omega) (by omega) (by omega) ?_
      refine r_fieldAddr (off := 0) rfl rfl rfl rfl ?_
      refine r_indexArr (sz := 2) (o' := 128 * i + 2 * k) rfl rfl rfl rfl rfl (by omega) (by omega) (by omega) ?_
      refine r_store (m := 2) (cs' := planesV (fsQ P i (k + 1))) rfl rfl rfl rfl (by rw [planesV_size]; omega) rfl ((planesV_row _ hi4 hk2 _).trans (congrArg planesV (fsQ_step P i k))) ?_
      refine r_nil ?_
      refine r_bn ?_
      refine r_tn ?_
      refine r_region ?_
      refine r_move rfl rfl ?_
      refine r_add rfl rfl rfl (w64 (by omega)) ?_
      refine r_assign rfl rfl ?_
      refine r_nil ?_
      refine r_tn ?_
      exact r_againN (k + 1) (by omega) (by omega) ⟨rfl, rfl, rfl, rfl, rfl, trivial⟩ (fun w hw => hw.sub)
    · refine r_exit ?_
      refine r_te ?_
      refine r_te ?_
      refine r_be ?_
      refine r_bn ?_
      refine r_tn ?_
      refine r_region ?_
      refine r_move rfl rfl ?_
      refine r_add rfl rfl rfl (w64 (by omega)) ?_
      refine r_assign rfl rfl ?_
      refine r_nil ?_
      refine r_tn ?_
      have hk3 : k = 64 := by have h := of_decide_eq_false hc; omega
      subst hk3
      exact r_againN (i + 1) (by omega) (by omega) ⟨rfl, rfl, rfl, rfl, trivial⟩ (fun w hw => by rw [← fsQ_next P i]; exact hw.sub)
  · refine r_exit ?_
    refine r_te ?_
    refine r_te ?_
    refine r_be ?_
    refine r_tn ?_
    refine r_seq ?_
    refine r_region ?_
    have hi3 : i = 4 := by have h := of_decide_eq_false hc; omega
    subst hi3
    rw [fsQ_all P]
    refine r_loadV rfl rfl rfl rfl (planesV_size _) ?_
    refine r_storeV rfl rfl rfl (planesV_size _) (planesV_size _) (planesV_one _) ?_
    refine r_nil ?_
    refine r_tn ?_
    refine r_ret ?_
    exact r_done1 (.inl rfl) rfl (res_cellV rfl rfl rfl (planesV_size _)) fun w hw => ⟨rfl, hw.clear⟩

theorem of24 (r : Rec) (i : RefIx) (hp : r.pat.length = 16) (w : World) (h : RefIs w r i) :
    Calls Tryd.prog 19 #[.agg (refV r i)] w fun e w' => e = .returned (.agg (recV r)) ∧ Sat w [] [] w' := by
  refine enter Tryd.func19 rfl rfl rfl ?_
  refine r_seq ?_
  refine r_region ?_
  refine r_boxV rfl rfl fun b1 => ?_
  refine r_allocV (cs := recV rec0) zeroRec rfl fun b2 => ?_
  refine r_nil ?_
  refine r_tn ?_
  refine r_seq ?_
  refine r_tree { xb := [], rb := [b1], rs := [6, 9, 11, 13, 15], fs := [], acs := [3, 7] } (.take 0 (.take 1 (.take 3 (.take 4 (.take 5 (.take 6 (.take 7 (.take 8 (.take 9 (.take 10 (.fork 2 (.take 11 (.take 12 (.take 13 .done))) 12 (.take 2 (.take 11 (.take 13 .done)))))))))))))) (by kernel_rfl) (by kernel_rfl) (fun w hw k hk => by
    simp only [List.mem_cons, List.not_mem_nil, or_false] at hk
    rcases hk with rfl <;> exact Sat.lt hw) ?_
  refine r_take rfl ?_
  refine r_fieldAddr (off := 0) (o' := 0) rfl rfl rfl rfl ?_
  refine r_nil ?_
  refine r_take rfl ?_
  refine r_load1 rfl rfl rfl (by rfl) ?_
  refine r_nil ?_
  refine r_take rfl ?_
  refine r_fieldAddr (off := 1) (o' := 1) rfl rfl rfl rfl ?_
  refine r_nil ?_
  refine r_take rfl ?_
  refine r_load1 rfl rfl rfl (by rfl) ?_
  refine r_nil ?_
  refine r_take rfl ?_
  refine r_fieldAddr (off := 2) (o' := 2) rfl rfl rfl rfl ?_
  refine r_nil ?_
  refine r_take rfl ?_
  refine r_load1 rfl rfl rfl (by rfl) ?_
  refine r_nil ?_
  refine r_take rfl ?_
  refine r_fieldAddr (off := 4) (o' := 4) rfl rfl rfl rfl ?_
  refine r_nil ?_
  refine r_take rfl ?_
  refine r_load1 rfl rfl rfl (by rfl) ?_
  refine r_nil ?_
  refine r_take rfl ?_
  refine r_fieldAddr (off := 5) (o' := 5) rfl rfl rfl rfl ?_
  refine r_nil ?_
  refine r_take rfl ?_
  refine r_loadN (m := 4) (vs := #[.int .i64 r.kind, .int .i64 r.cause, .int .i64 r.pc, .int .i64 r.cycle]) rfl rfl rfl rfl (by show 5 + 4 ≤ 9; decide) (by rfl) ?_
  refine r_nil ?_
  refine r_fork rfl rfl ?_ ?_
  · refine r_call rfl rfl rfl (by kernel_rfl) rfl (fun w hw => by exact forward24 r.P i.a i.c i.f w (h.keep hw).1 (h.keep hw).2.2) ?_
    refine r_nil ?_
    refine r_take rfl ?_
    refine r_build (cells := recV (ofA r 0)) rfl rfl (build55 r) ?_
    refine r_nil ?_
    refine r_take rfl ?_
    refine r_allocV (cs := recV rec0) zeroRec rfl fun b3 => ?_
    refine r_nil ?_
    refine r_take rfl ?_
    refine r_storeV rfl rfl rfl (recV_size (ofA_len hp (by omega))) (recV_size rfl) (recV_one _) ?_
    refine r_nil ?_
    refine r_treeEnd ?_
    refine r_tn ?_
    refine r_seq ?_
    refine r_seq ?_
    refine r_region ?_
    refine r_assign rfl rfl ?_
    refine r_nil ?_
    refine r_tn ?_
    refine r_block ?_
    refine r_loopN (fun k => [(1, .pointer (some ⟨b1, 0, none⟩)), (2, .pointer (some ⟨b2, 0, none⟩)), (3, .pointer (some ⟨b3, 0, none⟩)), (4, .int .i64 (k : Int))]) (fun k => [.blk b1 (.cells (refV r i) 35 (0, 0)), .blk b2 (.cells (recV (rec0)) 55 (0, 0)), .blk b3 (.cells (recV (ofA r k)) 55 (0, 0))]) (fun k => k ≤ 16) 16 0 (by omega) ⟨rfl, rfl, rfl, rfl, trivial⟩ (fun w hw => hw.sub) fun k hk => ?_
    refine r_seq ?_
    refine r_seq ?_
    refine r_region ?_
    refine r_move rfl rfl ?_
    refine r_lss rfl rfl rfl rfl ?_
    refine r_nil ?_
    refine r_tn ?_
    refine r_cond rfl (fun hc => ?_) (fun hc => ?_)
    · refine r_skip ?_
      refine r_tn ?_
      refine r_seq ?_
      refine r_block ?_
      refine r_region ?_
      have hk2 : k < 16 := by have h := of_decide_eq_true hc; omega
      clear hc
      refine r_move rfl rfl ?_
      refine r_fieldAddr (off := 3) (o' := 3) rfl rfl rfl rfl ?_
      refine r_load1 rfl rfl rfl (by rfl) ?_
      refine r_move rfl rfl ?_
      refine r_indexSl (sz := 1) (o' := 0 + k) rfl rfl rfl rfl rfl (by omega) (by omega) (by omega) ?_
      refine r_loadC (p := ⟨i.b, 0 + k, none⟩) (v := .int .u8 (r.pat.getD k 0)) rfl rfl rfl (fun w hw => (h.keep hw).2.1.cell (by simp [hp, hk2]) rfl) ?_
      refine r_fieldAddr (off := 514) (o' := 514) rfl rfl rfl rfl ?_
      refine r_indexArr (sz := 1) (o' := 514 + k) rfl rfl rfl rfl rfl (by omega) (by omega) (by omega) ?_
      refine r_store (m := 1) (cs' := recV (ofA r (k + 1))) rfl rfl rfl rfl (by rw [recV_size (ofA_len hp (by omega))]; omega) rfl ((splice_one _ _ _ (by rw [recV_size (ofA_len hp (by omega))]; omega)).trans (ofA_step hp hk2)) ?_
      refine r_nil ?_
      refine r_bn ?_
      refine r_tn ?_
      refine r_region ?_
      refine r_move rfl rfl ?_
      refine r_add rfl rfl rfl (w64 (by omega)) ?_
      refine r_assign rfl rfl ?_
      refine r_nil ?_
      refine r_tn ?_
      exact r_againN (k + 1) (by omega) (by omega) ⟨rfl, rfl, rfl, rfl, trivial⟩ (fun w hw => hw.sub)
    · refine r_exit ?_
      refine r_te ?_
      refine r_te ?_
      refine r_be ?_
      refine r_tn ?_
      refine r_seq ?_
      refine r_region ?_
      have hk3 : k = 16 := by have h := of_decide_eq_false hc; omega
      subst hk3
      rw [ofA_end hp]
      refine r_loadV rfl rfl rfl rfl (recV_size hp) ?_
      refine r_storeV rfl rfl rfl (recV_size hp) (recV_size rfl) (recV_one _) ?_
      refine r_nil ?_
      refine r_tn ?_
      refine r_ret ?_
      exact r_done1 (.inl rfl) rfl (res_cellV rfl rfl rfl (recV_size hp)) fun w hw => ⟨rfl, hw.clear⟩
  · refine r_allocV (cs := recV rec0) zeroRec rfl fun b3 => ?_
    refine r_nil ?_
    refine r_take rfl ?_
    refine r_call rfl rfl rfl (by kernel_rfl) rfl (fun w hw => by exact forward24 r.P i.a i.c i.f w (h.keep hw).1 (h.keep hw).2.2) ?_
    refine r_nil ?_
    refine r_take rfl ?_
    refine r_build (cells := recV (ofA r 0)) rfl rfl (build55 r) ?_
    refine r_nil ?_
    refine r_take rfl ?_
    refine r_storeV rfl rfl rfl (recV_size (ofA_len hp (by omega))) (recV_size rfl) (recV_one _) ?_
    refine r_nil ?_
    refine r_treeEnd ?_
    refine r_tn ?_
    refine r_seq ?_
    refine r_seq ?_
    refine r_region ?_
    refine r_assign rfl rfl ?_
    refine r_nil ?_
    refine r_tn ?_
    refine r_block ?_
    refine r_loopN (fun k => [(1, .pointer (some ⟨b1, 0, none⟩)), (2, .pointer (some ⟨b2, 0, none⟩)), (3, .pointer (some ⟨b3, 0, none⟩)), (4, .int .i64 (k : Int))]) (fun k => [.blk b1 (.cells (refV r i) 35 (0, 0)), .blk b2 (.cells (recV (rec0)) 55 (0, 0)), .blk b3 (.cells (recV (ofA r k)) 55 (0, 0))]) (fun k => k ≤ 16) 16 0 (by omega) ⟨rfl, rfl, rfl, rfl, trivial⟩ (fun w hw => hw.sub) fun k hk => ?_
    refine r_seq ?_
    refine r_seq ?_
    refine r_region ?_
    refine r_move rfl rfl ?_
    refine r_lss rfl rfl rfl rfl ?_
    refine r_nil ?_
    refine r_tn ?_
    refine r_cond rfl (fun hc => ?_) (fun hc => ?_)
    · refine r_skip ?_
      refine r_tn ?_
      refine r_seq ?_
      refine r_block ?_
      refine r_region ?_
      have hk2 : k < 16 := by have h := of_decide_eq_true hc; omega
      clear hc
      refine r_move rfl rfl ?_
      refine r_fieldAddr (off := 3) (o' := 3) rfl rfl rfl rfl ?_
      refine r_load1 rfl rfl rfl (by rfl) ?_
      refine r_move rfl rfl ?_
      refine r_indexSl (sz := 1) (o' := 0 + k) rfl rfl rfl rfl rfl (by omega) (by omega) (by omega) ?_
      refine r_loadC (p := ⟨i.b, 0 + k, none⟩) (v := .int .u8 (r.pat.getD k 0)) rfl rfl rfl (fun w hw => (h.keep hw).2.1.cell (by simp [hp, hk2]) rfl) ?_
      refine r_fieldAddr (off := 514) (o' := 514) rfl rfl rfl rfl ?_
      refine r_indexArr (sz := 1) (o' := 514 + k) rfl rfl rfl rfl rfl (by omega) (by omega) (by omega) ?_
      refine r_store (m := 1) (cs' := recV (ofA r (k + 1))) rfl rfl rfl rfl (by rw [recV_size (ofA_len hp (by omega))]; omega) rfl ((splice_one _ _ _ (by rw [recV_size (ofA_len hp (by omega))]; omega)).trans (ofA_step hp hk2)) ?_
      refine r_nil ?_
      refine r_bn ?_
      refine r_tn ?_
      refine r_region ?_
      refine r_move rfl rfl ?_
      refine r_add rfl rfl rfl (w64 (by omega)) ?_
      refine r_assign rfl rfl ?_
      refine r_nil ?_
      refine r_tn ?_
      exact r_againN (k + 1) (by omega) (by omega) ⟨rfl, rfl, rfl, rfl, trivial⟩ (fun w hw => hw.sub)
    · refine r_exit ?_
      refine r_te ?_
      refine r_te ?_
      refine r_be ?_
      refine r_tn ?_
      refine r_seq ?_
      refine r_region ?_
      have hk3 : k = 16 := by have h := of_decide_eq_false hc; omega
      subst hk3
      rw [ofA_end hp]
      refine r_loadV rfl rfl rfl rfl (recV_size hp) ?_
      refine r_storeV rfl rfl rfl (recV_size hp) (recV_size rfl) (recV_one _) ?_
      refine r_nil ?_
      refine r_tn ?_
      refine r_ret ?_
      exact r_done1 (.inl rfl) rfl (res_cellV rfl rfl rfl (recV_size hp)) fun w hw => ⟨rfl, hw.clear⟩
end Go.Proofs.YtdkgnnieehidbaaDoor
