/-
  The stack (chapter 17): Push, Pop and List return what a list of numbers tells, for every stack that they themselves make.
-/
import Derived.Test.YtapknkmlgmckkaaChecked
import Derived.Test.YtapknkmlgmckkaaSlice
namespace Go.Proofs.Ytapknkmlgmckkaa
open Go Go.RowKit
set_option linter.unusedVariables false

/-- the cells of a stack that holds the numbers of a list -/
def stk (l : List Int) : Array Value := ((l ++ List.replicate (16 - l.length) 0).map (Value.int .i64) ++ [.int .i64 l.length]).toArray

theorem stk_size {l : List Int} (h : l.length ≤ 16) : (stk l).size = 17 := by simp [stk]; omega
theorem stk_depth {l : List Int} (h : l.length ≤ 16) : (stk l)[16]? = some (.int .i64 l.length) := by
  simp only [stk, List.getElem?_toArray]
  rw [List.getElem?_append_right (by first | omega | (simp; omega))]
  have : 16 - (List.map (Value.int IntKind.i64) (l ++ List.replicate (16 - l.length) 0)).length = 0 := by simp; omega
  rw [this]; rfl
theorem stk_at {l : List Int} (h : l.length ≤ 16) {i : Nat} (hi : i < l.length) : (stk l)[i]? = some (.int .i64 l[i]) := by
  simp only [stk, List.getElem?_toArray]
  rw [List.getElem?_append_left (by first | omega | (simp; omega)), List.getElem?_map, List.getElem?_append_left hi]
  simp
theorem stk_zero {l : List Int} {i : Nat} (hi : l.length ≤ i) (h : i < 16) : (stk l)[i]? = some (.int .i64 0) := by
  simp only [stk, List.getElem?_toArray]
  rw [List.getElem?_append_left (by first | omega | (simp; omega)), List.getElem?_map, List.getElem?_append_right hi, List.getElem?_replicate, if_pos (by omega)]
  rfl
theorem stk_one (l : List Int) : (stk l).toList.all Value.oneCell' = true := by
  refine List.all_eq_true.2 fun v hv => ?_
  simp only [stk, List.mem_append, List.mem_map, List.mem_singleton] at hv
  rcases hv with ⟨x, _, rfl⟩ | rfl <;> rfl
theorem stk_push {l : List Int} {a : Int} (h : l.length < 16) : ((stk l).setIfInBounds l.length (.int .i64 a)).setIfInBounds 16 (.int .i64 (l.length + 1)) = stk (l ++ [a]) := by
  apply Array.ext_getElem?
  intro i
  have h1 := stk_size (l := l) (by omega)
  have h2 := stk_size (l := l ++ [a]) (by first | omega | (simp; omega))
  rw [Array.getElem?_setIfInBounds, Array.getElem?_setIfInBounds]
  simp only [Array.size_setIfInBounds, h1]
  by_cases h16 : 16 = i
  · subst h16
    rw [if_pos rfl, if_pos (by omega), show (16 : Nat) = 16 from rfl, stk_depth (by first | omega | (simp; omega))]
    simp
  · rw [if_neg h16]
    by_cases hl : l.length = i
    · subst hl
      rw [if_pos rfl, if_pos (by omega), stk_at (by first | omega | (simp; omega)) (by simp)]
      simp
    · rw [if_neg hl]
      by_cases hlt : i < l.length
      · rw [stk_at (by omega) hlt, stk_at (by first | omega | (simp; omega)) (by first | omega | (simp; omega))]
        simp [List.getElem_append_left hlt]
      · by_cases hlt16 : i < 16
        · rw [stk_zero (by omega) hlt16, stk_zero (by first | omega | (simp; omega)) hlt16]
        · rw [Array.getElem?_eq_none (by omega), Array.getElem?_eq_none (by omega)]
theorem stk_pop {l : List Int} {a : Int} (h : l.length < 16) : ((stk (l ++ [a])).setIfInBounds l.length (.int .i64 0)).setIfInBounds 16 (.int .i64 l.length) = stk l := by
  apply Array.ext_getElem?
  intro i
  have h1 := stk_size (l := l) (by omega)
  have h2 := stk_size (l := l ++ [a]) (by first | omega | (simp; omega))
  rw [Array.getElem?_setIfInBounds, Array.getElem?_setIfInBounds]
  simp only [Array.size_setIfInBounds, h2]
  by_cases h16 : 16 = i
  · subst h16
    rw [if_pos rfl, if_pos (by omega), stk_depth (by omega)]
  · rw [if_neg h16]
    by_cases hl : l.length = i
    · subst hl
      rw [if_pos rfl, if_pos (by omega), stk_zero (by omega) (by omega)]
    · rw [if_neg hl]
      by_cases hlt : i < l.length
      · rw [stk_at (by omega) hlt, stk_at (by first | omega | (simp; omega)) (by first | omega | (simp; omega))]
        simp [List.getElem_append_left hlt]
      · by_cases hlt16 : i < 16
        · rw [stk_zero (by first | omega | (simp; omega)) hlt16, stk_zero (by omega) hlt16]
        · rw [Array.getElem?_eq_none (by omega), Array.getElem?_eq_none (by omega)]
theorem stk_depth_set {l : List Int} (h : l.length ≤ 16) {i : Nat} (hi : i < 16) (v : Value) : ((stk l).setIfInBounds i v)[16]? = some (.int .i64 l.length) := by
  rw [Array.getElem?_setIfInBounds_ne (by omega), stk_depth h]


theorem push1 (b c : Nat) (l : List Int) (hl : l.length < 16) (a : Int) (w : World) (hS : Sat w [b, c] [.blk b (.cells (stk l) 26 (0, 0)), .blk c (.cells #[.int .i64 a] 3 (0, 0))] w) :
    Calls Try.prog 39 #[.pointer (some ⟨b, 0, none⟩), .pointer (some ⟨c, 0, none⟩)] w fun e w' => e = .returned (.tuple #[]) ∧
      Sat w [b, c] [.blk b (.cells ((stk l).setIfInBounds l.length (.int .i64 a)) 26 (0, 0)), .blk c (.cells #[.int .i64 a] 3 (0, 0))] w' := by
  have hz := stk_size (l := l) (by omega)
  refine enterS Try.func39 rfl rfl rfl hS ?_
  refine r_mixed (by kernel_rfl) (by kernel_rfl) ?_
  refine r_move rfl rfl ?_
  refine r_move rfl rfl ?_
  refine r_nilCheck rfl rfl ?_
  refine r_fieldAddr (off := 16) rfl rfl rfl rfl ?_
  refine r_load1 rfl rfl rfl (stk_depth (by omega)) ?_
  refine r_load1 rfl rfl rfl (by rfl) ?_
  refine r_nilCheck rfl rfl ?_
  refine r_fieldAddr (off := 0) rfl rfl rfl rfl ?_
  refine r_indexArr (sz := 1) rfl rfl rfl rfl rfl (by omega) (by omega) (show _ = l.length by simp) ?_
  refine r_store1 rfl rfl rfl rfl rfl (by omega) ?_
  refine r_nil ?_
  exact r_done0 (.inr rfl) rfl  fun w hw => ⟨rfl, hw⟩

theorem pop1 (b c : Nat) (l : List Int) (hl : l.length < 16) (a t : Int) (w : World) (hS : Sat w [b, c] [.blk b (.cells (stk (l ++ [a])) 26 (0, 0)), .blk c (.cells #[.int .i64 t] 3 (0, 0))] w) :
    Calls Try.prog 40 #[.pointer (some ⟨b, 0, none⟩), .pointer (some ⟨c, 0, none⟩)] w fun e w' => e = .returned (.tuple #[]) ∧
      Sat w [b, c] [.blk b (.cells ((stk (l ++ [a])).setIfInBounds l.length (.int .i64 0)) 26 (0, 0)), .blk c (.cells #[.int .i64 a] 3 (0, 0))] w' := by
  have hl2 : (l ++ [a]).length ≤ 16 := by simp; omega
  have hl3 : (l ++ [a]).length = l.length + 1 := by simp
  have hz := stk_size hl2
  have hat : (stk (l ++ [a]))[l.length]? = some (.int .i64 a) := by rw [stk_at hl2 (by omega)]; simp
  refine enterS Try.func40 rfl rfl rfl hS ?_
  refine r_have (fun w hw => Sat.ne (b1 := b) (b2 := c) hw) fun hne0_b => ?_
  refine r_mixedD { xb := [c], rb := [b], rs := [7], fs := [1], acs := [] } (by kernel_rfl) (by kernel_rfl) (fun w hw k hk => by
    simp only [List.mem_cons, List.not_mem_nil, or_false] at hk
    rcases hk with rfl <;> exact Sat.lt hw) ?_
  refine r_move rfl rfl ?_
  refine r_move rfl rfl ?_
  refine r_nilCheck rfl rfl ?_
  refine r_fieldAddr (off := 16) (o' := 16) rfl rfl rfl rfl ?_
  refine r_load1 rfl rfl rfl (stk_depth hl2) ?_
  refine r_sub rfl rfl rfl (show _ = (l.length : Int) by rw [hl3]; exact (w64 (by omega)).trans (by omega)) ?_
  refine r_move rfl rfl ?_
  refine r_move rfl rfl ?_
  refine r_nilCheck rfl rfl ?_
  refine r_fieldAddr (off := 16) (o' := 16) rfl rfl rfl rfl ?_
  refine r_load1 rfl rfl rfl (stk_depth hl2) ?_
  refine r_sub rfl rfl rfl (show _ = (l.length : Int) by rw [hl3]; exact (w64 (by omega)).trans (by omega)) ?_
  refine r_nilCheck rfl rfl ?_
  refine r_fieldAddr (off := 0) (o' := 0) rfl rfl rfl rfl ?_
  refine r_indexArr (sz := 1) rfl rfl rfl rfl rfl (by omega) (by omega) (show _ = l.length by simp) ?_
  refine r_load1 rfl rfl rfl hat ?_
  refine r_store1 rfl rfl rfl rfl rfl (Nat.le_of_ble_eq_true rfl) ?_
  refine r_nilCheck rfl rfl ?_
  refine r_fieldAddr (off := 0) (o' := 0) rfl rfl rfl rfl ?_
  refine r_indexArr (sz := 1) rfl rfl rfl rfl rfl (by omega) (by omega) (show _ = l.length by simp) ?_
  refine r_store1 rfl rfl rfl rfl rfl (by omega) ?_
  refine r_nil ?_
  exact r_done0 (.inr rfl) rfl  fun w hw => ⟨rfl, hw⟩

theorem change_push (c : Nat) (l : List Int) (hl : l.length < 16) (a : Int) (w : World) (hS : Sat w [c] [.blk c (.cells #[.int .i64 a] 3 (0, 0))] w) :
    Calls Try.prog 38 #[.agg (stk l), .int .i64 1, .int .i64 2, .func (.func 39) #[] #[.pointer (some ⟨c, 0, none⟩)]] w fun e w' =>
      e = .returned (.tuple #[.agg (stk (l ++ [a])), .int .i64 0]) ∧ Sat w [c] [.blk c (.cells #[.int .i64 a] 3 (0, 0))] w' := by
  refine enterS Try.func38 rfl rfl rfl hS ?_
  refine r_seq ?_
  refine r_region ?_
  refine r_box rfl rfl fun b4 => ?_
  refine r_alloc rfl rfl fun b8 => ?_
  refine r_assign rfl rfl ?_
  refine r_nil ?_
  refine r_tn ?_
  refine r_seq ?_
  refine r_seq ?_
  refine r_region ?_
  refine r_fieldAddr (off := 16) (o' := 16) rfl rfl rfl rfl ?_
  refine r_load1 rfl rfl rfl (stk_depth (by omega)) ?_
  refine r_move rfl rfl ?_
  refine r_add rfl rfl rfl (w64 (by omega)) ?_
  refine r_assign rfl rfl ?_
  refine r_nil ?_
  refine r_tn ?_
  refine r_seq ?_
  refine r_region ?_
  refine r_move rfl rfl ?_
  refine r_lss rfl rfl rfl (decide_eq_false (by omega)) ?_
  refine r_move rfl rfl ?_
  refine r_go rfl rfl ?_
  refine r_move rfl rfl ?_
  refine r_go rfl rfl ?_
  refine r_gtr rfl rfl rfl (decide_eq_false (by omega)) ?_
  refine r_pick_f rfl rfl rfl ?_
  refine r_nil ?_
  refine r_tn ?_
  refine r_cond_f rfl ?_
  refine r_skip ?_
  refine r_tn ?_
  refine r_seq ?_
  refine r_region ?_
  refine r_move rfl rfl ?_
  refine r_callb20 (b1 := b4) (b2 := c) rfl rfl rfl (by kernel_rfl) rfl (fun w hw => push1 b4 c l hl a w hw) ?_
  refine r_nil ?_
  refine r_tn ?_
  refine r_seq ?_
  refine r_region ?_
  refine r_fieldAddr (off := 16) (o' := 16) rfl rfl rfl rfl ?_
  refine r_load1 rfl rfl rfl (stk_depth_set (by omega) (by omega) _) ?_
  refine r_move rfl rfl ?_
  refine r_add rfl rfl rfl (w64 (by omega)) ?_
  refine r_fieldAddr (off := 16) (o' := 16) rfl rfl rfl rfl ?_
  refine r_store1 rfl rfl rfl rfl rfl (by rw [Array.size_setIfInBounds, stk_size (by omega)]; omega) ?_
  rw [stk_push hl]
  refine r_nil ?_
  refine r_tn ?_
  refine r_seq ?_
  refine r_region ?_
  refine r_loadV rfl rfl rfl rfl (stk_size (by first | omega | (simp; omega))) ?_
  refine r_storeV rfl rfl rfl (stk_size (by first | omega | (simp; omega))) rfl (stk_one _) ?_
  refine r_assign rfl rfl ?_
  refine r_nil ?_
  refine r_tn ?_
  refine r_ret ?_
  exact r_done2 (.inl rfl) rfl (res_cellV rfl rfl rfl (stk_size (by first | omega | (simp; omega)))) (res_tmp rfl) fun w hw => ⟨rfl, hw.pick (HasBlk.pick (b := c)) |>.only⟩

theorem change_full (f : Value) (l : List Int) (hl : l.length = 16) (w : World) :
    Calls Try.prog 38 #[.agg (stk l), .int .i64 1, .int .i64 2, f] w fun e w' => e = .returned (.tuple #[.agg (stk l), .int .i64 2]) ∧ Sat w [] [] w' := by
  refine enter Try.func38 rfl rfl rfl ?_
  refine r_seq ?_
  refine r_region ?_
  refine r_box rfl rfl fun b4 => ?_
  refine r_alloc rfl rfl fun b8 => ?_
  refine r_assign rfl rfl ?_
  refine r_nil ?_
  refine r_tn ?_
  refine r_seq ?_
  refine r_seq ?_
  refine r_region ?_
  refine r_fieldAddr (off := 16) (o' := 16) rfl rfl rfl rfl ?_
  refine r_load1 rfl rfl rfl (stk_depth (by omega)) ?_
  refine r_move rfl rfl ?_
  refine r_add rfl rfl rfl (w64 (by omega)) ?_
  refine r_assign rfl rfl ?_
  refine r_nil ?_
  refine r_tn ?_
  refine r_seq ?_
  refine r_region ?_
  refine r_move rfl rfl ?_
  refine r_lss rfl rfl rfl (decide_eq_false (by omega)) ?_
  refine r_move rfl rfl ?_
  refine r_go rfl rfl ?_
  refine r_move rfl rfl ?_
  refine r_go rfl rfl ?_
  refine r_gtr rfl rfl rfl (decide_eq_true (by omega)) ?_
  refine r_pick_f rfl rfl rfl ?_
  refine r_nil ?_
  refine r_tn ?_
  refine r_cond_t rfl ?_
  refine r_seq ?_
  refine r_region ?_
  refine r_loadV rfl rfl rfl rfl (stk_size (by omega)) ?_
  refine r_move rfl rfl ?_
  refine r_storeV rfl rfl rfl (stk_size (by omega)) rfl (stk_one _) ?_
  refine r_assign rfl rfl ?_
  refine r_nil ?_
  refine r_tn ?_
  refine r_ret ?_
  refine r_tr ?_
  exact r_done2 (.inl rfl) rfl (res_cellV rfl rfl rfl (stk_size (by omega))) (res_tmp rfl) fun w hw => ⟨rfl, hw.clear⟩

theorem change_pop (c : Nat) (l : List Int) (hl : l.length < 16) (a t : Int) (w : World) (hS : Sat w [c] [.blk c (.cells #[.int .i64 t] 3 (0, 0))] w) :
    Calls Try.prog 38 #[.agg (stk (l ++ [a])), .int .i64 (-1), .int .i64 3, .func (.func 40) #[] #[.pointer (some ⟨c, 0, none⟩)]] w fun e w' =>
      e = .returned (.tuple #[.agg (stk l), .int .i64 0]) ∧ Sat w [c] [.blk c (.cells #[.int .i64 a] 3 (0, 0))] w' := by
  have hl2 : (l ++ [a]).length ≤ 16 := by simp; omega
  have hl3 : (l ++ [a]).length = l.length + 1 := by simp
  refine enterS Try.func38 rfl rfl rfl hS ?_
  refine r_seq ?_
  refine r_region ?_
  refine r_box rfl rfl fun b4 => ?_
  refine r_alloc rfl rfl fun b8 => ?_
  refine r_assign rfl rfl ?_
  refine r_nil ?_
  refine r_tn ?_
  refine r_seq ?_
  refine r_seq ?_
  refine r_region ?_
  refine r_fieldAddr (off := 16) (o' := 16) rfl rfl rfl rfl ?_
  refine r_load1 rfl rfl rfl (stk_depth (by omega)) ?_
  refine r_move rfl rfl ?_
  refine r_add rfl rfl rfl (show _ = (l.length : Int) by rw [hl3]; exact (w64 (by omega)).trans (by omega)) ?_
  refine r_assign rfl rfl ?_
  refine r_nil ?_
  refine r_tn ?_
  refine r_seq ?_
  refine r_region ?_
  refine r_move rfl rfl ?_
  refine r_lss rfl rfl rfl (decide_eq_false (by omega)) ?_
  refine r_move rfl rfl ?_
  refine r_go rfl rfl ?_
  refine r_move rfl rfl ?_
  refine r_go rfl rfl ?_
  refine r_gtr rfl rfl rfl (decide_eq_false (by omega)) ?_
  refine r_pick_f rfl rfl rfl ?_
  refine r_nil ?_
  refine r_tn ?_
  refine r_cond_f rfl ?_
  refine r_skip ?_
  refine r_tn ?_
  refine r_seq ?_
  refine r_region ?_
  refine r_move rfl rfl ?_
  refine r_callb20 (b1 := b4) (b2 := c) rfl rfl rfl (by kernel_rfl) rfl (fun w hw => pop1 b4 c l hl a t w hw) ?_
  refine r_nil ?_
  refine r_tn ?_
  refine r_seq ?_
  refine r_region ?_
  refine r_fieldAddr (off := 16) (o' := 16) rfl rfl rfl rfl ?_
  refine r_load1 rfl rfl rfl (stk_depth_set (by omega) (by omega) _) ?_
  refine r_move rfl rfl ?_
  refine r_add rfl rfl rfl (show _ = (l.length : Int) by rw [hl3]; exact (w64 (by omega)).trans (by omega)) ?_
  refine r_fieldAddr (off := 16) (o' := 16) rfl rfl rfl rfl ?_
  refine r_store1 rfl rfl rfl rfl rfl (by rw [Array.size_setIfInBounds, stk_size (by omega)]; omega) ?_
  rw [stk_pop hl]
  refine r_nil ?_
  refine r_tn ?_
  refine r_seq ?_
  refine r_region ?_
  refine r_loadV rfl rfl rfl rfl (stk_size (by omega)) ?_
  refine r_storeV rfl rfl rfl (stk_size (by omega)) rfl (stk_one _) ?_
  refine r_assign rfl rfl ?_
  refine r_nil ?_
  refine r_tn ?_
  refine r_ret ?_
  exact r_done2 (.inl rfl) rfl (res_cellV rfl rfl rfl (stk_size (by first | omega | (simp; omega)))) (res_tmp rfl) fun w hw => ⟨rfl, hw.pick (HasBlk.pick (b := c)) |>.only⟩

theorem change_empty (f : Value) (w : World) :
    Calls Try.prog 38 #[.agg (stk []), .int .i64 (-1), .int .i64 3, f] w fun e w' => e = .returned (.tuple #[.agg (stk []), .int .i64 3]) ∧ Sat w [] [] w' := by
  have hl : ([] : List Int).length ≤ 16 := by simp
  refine enter Try.func38 rfl rfl rfl ?_
  refine r_seq ?_
  refine r_region ?_
  refine r_box rfl rfl fun b4 => ?_
  refine r_alloc rfl rfl fun b8 => ?_
  refine r_assign rfl rfl ?_
  refine r_nil ?_
  refine r_tn ?_
  refine r_seq ?_
  refine r_seq ?_
  refine r_region ?_
  refine r_fieldAddr (off := 16) (o' := 16) rfl rfl rfl rfl ?_
  refine r_load1 rfl rfl rfl (by rfl) ?_
  refine r_move rfl rfl ?_
  refine r_add rfl rfl rfl (w64 (by decide)) ?_
  refine r_assign rfl rfl ?_
  refine r_nil ?_
  refine r_tn ?_
  refine r_seq ?_
  refine r_region ?_
  refine r_move rfl rfl ?_
  refine r_lss rfl rfl rfl (decide_eq_true (by decide)) ?_
  refine r_move rfl rfl ?_
  refine r_pass rfl rfl rfl rfl ?_
  refine r_pass rfl rfl rfl rfl ?_
  refine r_pick_t rfl rfl rfl ?_
  refine r_nil ?_
  refine r_tn ?_
  refine r_cond_t rfl ?_
  refine r_seq ?_
  refine r_region ?_
  refine r_loadV rfl rfl rfl rfl rfl ?_
  refine r_move rfl rfl ?_
  refine r_storeV rfl rfl rfl rfl rfl rfl ?_
  refine r_assign rfl rfl ?_
  refine r_nil ?_
  refine r_tn ?_
  refine r_ret ?_
  refine r_tr ?_
  exact r_done2 (.inl rfl) rfl (res_cellV rfl rfl rfl rfl) (res_tmp rfl) fun w hw => ⟨rfl, hw.clear⟩

theorem Push_ok (l : List Int) (hl : l.length < 16) (a : Int) (w : World) :
    Calls Try.prog 15 #[.agg (stk l), .int .i64 a] w fun e w' => e = .returned (.tuple #[.agg (stk (l ++ [a])), .int .i64 0]) ∧ Sat w [] [] w' := by
  refine enter Try.func15 rfl rfl rfl ?_
  refine r_seq ?_
  refine r_region ?_
  refine r_box rfl rfl fun b2 => ?_
  refine r_box rfl rfl fun b3 => ?_
  refine r_alloc rfl rfl fun b4 => ?_
  refine r_assign rfl rfl ?_
  refine r_nil ?_
  refine r_tn ?_
  refine r_seq ?_
  refine r_region ?_
  refine r_loadV rfl rfl rfl rfl (stk_size (by omega)) ?_
  refine r_makeFunc rfl rfl rfl ?_
  refine r_callb0 (b := b3) rfl rfl rfl (by kernel_rfl) rfl (fun w hw => change_push b3 l hl a w hw) ?_
  refine r_extract rfl rfl rfl ?_
  refine r_extract rfl rfl rfl ?_
  refine r_storeV rfl rfl rfl (stk_size (by first | omega | (simp; omega))) rfl (stk_one _) ?_
  refine r_assign rfl rfl ?_
  refine r_nil ?_
  refine r_tn ?_
  refine r_ret ?_
  exact r_done2 (.inl rfl) rfl (res_cellV rfl rfl rfl (stk_size (by first | omega | (simp; omega)))) (res_tmp rfl) fun w hw => ⟨rfl, hw.clear⟩

theorem Push_full (l : List Int) (hl : l.length = 16) (a : Int) (w : World) :
    Calls Try.prog 15 #[.agg (stk l), .int .i64 a] w fun e w' => e = .returned (.tuple #[.agg (stk l), .int .i64 2]) ∧ Sat w [] [] w' := by
  refine enter Try.func15 rfl rfl rfl ?_
  refine r_seq ?_
  refine r_region ?_
  refine r_box rfl rfl fun b2 => ?_
  refine r_box rfl rfl fun b3 => ?_
  refine r_alloc rfl rfl fun b4 => ?_
  refine r_assign rfl rfl ?_
  refine r_nil ?_
  refine r_tn ?_
  refine r_seq ?_
  refine r_region ?_
  refine r_loadV rfl rfl rfl rfl (stk_size (by omega)) ?_
  refine r_makeFunc rfl rfl rfl ?_
  refine r_call rfl rfl rfl (by kernel_rfl) rfl (fun w hw => by exact change_full _ l hl w) ?_
  refine r_extract rfl rfl rfl ?_
  refine r_extract rfl rfl rfl ?_
  refine r_storeV rfl rfl rfl (stk_size (by omega)) rfl (stk_one _) ?_
  refine r_assign rfl rfl ?_
  refine r_nil ?_
  refine r_tn ?_
  refine r_ret ?_
  exact r_done2 (.inl rfl) rfl (res_cellV rfl rfl rfl (stk_size (by omega))) (res_tmp rfl) fun w hw => ⟨rfl, hw.clear⟩

theorem Pop_ok (l : List Int) (hl : l.length < 16) (a : Int) (w : World) :
    Calls Try.prog 16 #[.agg (stk (l ++ [a]))] w fun e w' => e = .returned (.tuple #[.agg (stk l), .int .i64 a, .int .i64 0]) ∧ Sat w [] [] w' := by
  refine enter Try.func16 rfl rfl rfl ?_
  refine r_seq ?_
  refine r_region ?_
  refine r_box rfl rfl fun b1 => ?_
  refine r_alloc rfl rfl fun b2 => ?_
  refine r_assign rfl rfl ?_
  refine r_assign rfl rfl ?_
  refine r_nil ?_
  refine r_tn ?_
  refine r_seq ?_
  refine r_region ?_
  refine r_alloc rfl rfl fun b5 => ?_
  refine r_store1 rfl rfl rfl rfl rfl (Nat.le_of_ble_eq_true rfl) ?_
  refine r_nil ?_
  refine r_tn ?_
  refine r_seq ?_
  refine r_region ?_
  refine r_loadV rfl rfl rfl rfl (stk_size (by first | omega | (simp; omega))) ?_
  refine r_makeFunc rfl rfl rfl ?_
  refine r_callb0 (b := b5) rfl rfl rfl (by kernel_rfl) rfl (fun w hw => change_pop b5 l hl a 0 w hw) ?_
  refine r_move rfl rfl ?_
  refine r_extract rfl rfl rfl ?_
  refine r_extract rfl rfl rfl ?_
  refine r_alloc rfl rfl fun b6 => ?_
  refine r_storeV rfl rfl rfl (stk_size (by omega)) rfl (stk_one _) ?_
  refine r_assign rfl rfl ?_
  refine r_nil ?_
  refine r_tn ?_
  refine r_seq ?_
  refine r_have (fun w hw => Sat.ne (b1 := b5) (b2 := b2) hw) fun hne0_b5 => ?_
  refine r_mixedD { xb := [b2], rb := [b5], rs := [15], fs := [2], acs := [] } (by kernel_rfl) (by kernel_rfl) (fun w hw k hk => by
    simp only [List.mem_cons, List.not_mem_nil, or_false] at hk
    rcases hk with rfl <;> exact Sat.lt hw) ?_
  refine r_loadV rfl rfl rfl rfl (stk_size (by omega)) ?_
  refine r_load1 rfl rfl rfl (by rfl) ?_
  refine r_move rfl rfl ?_
  refine r_storeV rfl rfl rfl (stk_size (by omega)) rfl (stk_one _) ?_
  refine r_assign rfl rfl ?_
  refine r_assign rfl rfl ?_
  refine r_nil ?_
  refine r_tn ?_
  refine r_ret ?_
  exact r_done3 (.inl rfl) rfl (res_cellV rfl rfl rfl (stk_size (by omega))) (res_tmp rfl) (res_tmp rfl) fun w hw => ⟨rfl, hw.clear⟩

theorem Pop_empty (w : World) :
    Calls Try.prog 16 #[.agg (stk [])] w fun e w' => e = .returned (.tuple #[.agg (stk []), .int .i64 0, .int .i64 3]) ∧ Sat w [] [] w' := by
  refine enter Try.func16 rfl rfl rfl ?_
  refine r_seq ?_
  refine r_region ?_
  refine r_box rfl rfl fun b1 => ?_
  refine r_alloc rfl rfl fun b2 => ?_
  refine r_assign rfl rfl ?_
  refine r_assign rfl rfl ?_
  refine r_nil ?_
  refine r_tn ?_
  refine r_seq ?_
  refine r_region ?_
  refine r_alloc rfl rfl fun b5 => ?_
  refine r_store1 rfl rfl rfl rfl rfl (Nat.le_of_ble_eq_true rfl) ?_
  refine r_nil ?_
  refine r_tn ?_
  refine r_seq ?_
  refine r_region ?_
  refine r_loadV rfl rfl rfl rfl rfl ?_
  refine r_makeFunc rfl rfl rfl ?_
  refine r_call rfl rfl rfl (by kernel_rfl) rfl (fun w hw => by exact change_empty _ w) ?_
  refine r_move rfl rfl ?_
  refine r_extract rfl rfl rfl ?_
  refine r_extract rfl rfl rfl ?_
  refine r_alloc rfl rfl fun b6 => ?_
  refine r_storeV rfl rfl rfl rfl rfl rfl ?_
  refine r_assign rfl rfl ?_
  refine r_nil ?_
  refine r_tn ?_
  refine r_seq ?_
  refine r_have (fun w hw => Sat.ne (b1 := b5) (b2 := b2) hw) fun hne0_b5 => ?_
  refine r_mixedD { xb := [b2], rb := [b5], rs := [15], fs := [2], acs := [] } (by kernel_rfl) (by kernel_rfl) (fun w hw k hk => by
    simp only [List.mem_cons, List.not_mem_nil, or_false] at hk
    rcases hk with rfl <;> exact Sat.lt hw) ?_
  refine r_loadV rfl rfl rfl rfl rfl ?_
  refine r_load1 rfl rfl rfl (by rfl) ?_
  refine r_move rfl rfl ?_
  refine r_storeV rfl rfl rfl rfl rfl rfl ?_
  refine r_assign rfl rfl ?_
  refine r_assign rfl rfl ?_
  refine r_nil ?_
  refine r_tn ?_
  refine r_ret ?_
  exact r_done3 (.inl rfl) rfl (res_cellV rfl rfl rfl rfl) (res_tmp rfl) (res_tmp rfl) fun w hw => ⟨rfl, hw.clear⟩
end Go.Proofs.Ytapknkmlgmckkaa
