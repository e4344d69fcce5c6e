/-
  Planes of pixels (chapter 07): their cells. No walk.
-/
import Derived.Test.YtdkgnnieehidbaaDoorRowsB
namespace Go.Proofs.YtdkgnnieehidbaaDoor
section
open Go Go.RowKit
set_option linter.unusedVariables false
set_option linter.unusedSimpArgs false
set_option maxHeartbeats 2000000
set_option maxRecDepth 4000

/-- the words of a plane -/
def cellP (P : Nat → Nat → Bool) (j : Nat) : Nat := if j % 2 = 0 then hiN (P (j / 2)) else loN (P (j / 2))
def planeV (P : Nat → Nat → Bool) : Array Value := ((List.range 128).map fun j => Value.int .u64 ((cellP P j : Nat) : Int)).toArray
theorem planeV_size (P : Nat → Nat → Bool) : (planeV P).size = 128 := by simp [planeV]
theorem planeV_at (P : Nat → Nat → Bool) {j : Nat} (h : j < 128) : (planeV P)[j]? = some (.int .u64 ((cellP P j : Nat) : Int)) := by simp [planeV, h]
theorem rowV_at (p : Nat → Bool) (i : Nat) : (rowV p)[i]? = if i = 0 then some (.int .u64 ((hiN p : Nat) : Int)) else if i = 1 then some (.int .u64 ((loN p : Nat) : Int)) else none := by
  rcases i with _ | _ | i <;> simp [rowV]
theorem cellP_hi (P : Nat → Nat → Bool) (y : Nat) : cellP P (2 * y) = hiN (P y) := by
  unfold cellP; rw [if_pos (by omega), show 2 * y / 2 = y by omega]
theorem cellP_lo (P : Nat → Nat → Bool) (y : Nat) : cellP P (2 * y + 1) = loN (P y) := by
  unfold cellP; rw [if_neg (by omega), show (2 * y + 1) / 2 = y by omega]
theorem planeV_row (P : Nat → Nat → Bool) {y : Nat} (h : y < 64) : (planeV P).extract (2 * y) (2 * y + 2) = rowV (P y) := by
  apply Array.ext_getElem?
  intro i
  rw [Array.getElem?_extract, rowV_at, planeV_size]
  by_cases h0 : i = 0
  · subst h0
    rw [if_pos (by omega), if_pos rfl, planeV_at P (by omega), Nat.add_zero, cellP_hi]
  · by_cases h1 : i = 1
    · subst h1
      rw [if_pos (by omega), if_neg h0, if_pos rfl, planeV_at P (by omega), cellP_lo]
    · rw [if_neg (by omega), if_neg h0, if_neg h1]
def setRow (P : Nat → Nat → Bool) (y : Nat) (q : Nat → Bool) (y1 : Nat) : Nat → Bool := if y1 = y then q else P y1
theorem planeV_set (P : Nat → Nat → Bool) {y : Nat} (h : y < 64) (q : Nat → Bool) : splice (planeV P) (2 * y) (rowV q) = planeV (setRow P y q) := by
  unfold splice
  apply Array.ext_getElem?
  intro j
  have e : (rowV q).size = 2 := rfl
  rw [e]
  have hl : (planeV P).toList.length = 128 := by rw [Array.length_toList, planeV_size]
  have hp : ∀ j, (planeV P).toList[j]? = (planeV P)[j]? := fun j => Array.getElem?_toList
  have hr : ∀ j, (rowV q).toList[j]? = (rowV q)[j]? := fun j => Array.getElem?_toList
  have hc : ∀ j, j / 2 ≠ y → cellP (setRow P y q) j = cellP P j := fun j hj => by unfold cellP setRow; rw [if_neg hj]
  rw [List.getElem?_toArray, List.append_assoc, List.getElem?_append, List.length_take, hl, List.getElem?_take]
  by_cases h1 : j < 2 * y
  · rw [if_pos (by omega), if_pos h1, hp, planeV_at P (by omega), planeV_at _ (by omega), hc j (by omega)]
  · rw [if_neg (by omega), show min (2 * y) 128 = 2 * y by omega, List.getElem?_append, hr, rowV_at]
    have e2 : (rowV q).toList.length = 2 := rfl
    rw [e2]
    by_cases h2 : j < 2 * y + 2
    · rw [if_pos (by omega)]
      by_cases h3 : j = 2 * y
      · subst h3
        rw [if_pos (by omega), planeV_at _ (by omega), cellP_hi]
        simp [setRow]
      · have h4 : j = 2 * y + 1 := by omega
        subst h4
        rw [if_neg (by omega), if_pos (by omega), planeV_at _ (by omega), cellP_lo]
        simp [setRow]
    · rw [if_neg (by omega), List.getElem?_drop, hp, show 2 * y + 2 + (j - 2 * y - 2) = j by omega]
      by_cases h5 : j < 128
      · rw [planeV_at P h5, planeV_at _ h5, hc j (by omega)]
      · rw [Array.getElem?_eq_none (by rw [planeV_size]; omega), Array.getElem?_eq_none (by rw [planeV_size]; omega)]
theorem planeV_one (P : Nat → Nat → Bool) : (planeV P).toList.all Value.oneCell' = true := by
  refine List.all_eq_true.2 fun v hv => ?_
  simp only [planeV, List.mem_map] at hv
  obtain ⟨x, _, rfl⟩ := hv
  rfl
theorem ok_ints (f : Nat → Int) : ∀ l : List Nat, cellsOk (List.replicate l.length (.i .u64)) (l.map fun j => Value.int .u64 (f j)) = true
  | [] => rfl
  | a :: l => by simp only [List.length_cons, List.replicate_succ, List.map_cons, cellsOk, ok_ints f l, Bool.and_true]; rfl
theorem planeV_ok (P : Nat → Nat → Bool) : cellsOk (List.replicate 128 (.i .u64)) (planeV P).toList = true := by
  have h := ok_ints (fun j => ((cellP P j : Nat) : Int)) (List.range 128)
  rw [List.length_range] at h
  exact h
theorem planeV_congr {P Q : Nat → Nat → Bool} (h : ∀ y, y < 64 → ∀ x, x < 128 → P y x = Q y x) : planeV P = planeV Q := by
  unfold planeV
  congr 1
  apply List.map_congr_left
  intro j hj
  have hj := List.mem_range.1 hj
  have e1 : hiN (P (j / 2)) = hiN (Q (j / 2)) := num_congr fun i hi => h _ (by omega) _ (by omega)
  have e2 : loN (P (j / 2)) = loN (Q (j / 2)) := num_congr fun i hi => h _ (by omega) _ (by omega)
  unfold cellP
  rw [e1, e2]
def eqQ (P Q : Nat → Nat → Bool) : Bool := (List.range 64).all fun y => eqB (P y) (Q y)
theorem eqQ_iff (P Q : Nat → Nat → Bool) : eqQ P Q = true ↔ ∀ y, y < 64 → ∀ x, x < 128 → P y x = Q y x := by
  simp only [eqQ, List.all_eq_true, List.mem_range]
  exact ⟨fun h y hy => (eqB_iff _ _).1 (h y hy), fun h y hy => (eqB_iff _ _).2 (h y hy)⟩
theorem planeV_inj {P Q : Nat → Nat → Bool} (h : planeV P = planeV Q) : ∀ y, y < 64 → ∀ x, x < 128 → P y x = Q y x := fun y hy =>
  rowV_inj (by rw [← planeV_row P hy, ← planeV_row Q hy, h])
theorem plane_eq (P Q : Nat → Nat → Bool) : cellsEq (planeV P).toList (planeV Q).toList = eqQ P Q := by
  cases hq : eqQ P Q with
  | true =>
    rw [planeV_congr ((eqQ_iff P Q).1 hq)]
    exact cellsEq_self (planeV_ok Q)
  | false =>
    cases he : cellsEq (planeV P).toList (planeV Q).toList with
    | false => rfl
    | true =>
      have h := (eqQ_iff P Q).2 (planeV_inj (Array.ext' (cellsEq_eq (planeV_ok P) (planeV_ok Q) he)))
      rw [hq] at h; cases h
theorem planeFlat : flatT Tryd.prog 45 (List.replicate 128 (.i .u64)) := ⟨by kernel_rfl, by kernel_rfl, by kernel_rfl⟩
def noneQ : Nat → Nat → Bool := fun _ => noneP
theorem Rd_row {w : World} {b : Nat} {P : Nat → Nat → Bool} (h : Rd w (some ⟨b, 0, none⟩) (planeV P).toList) {k : Nat} (hk : k < 64) : Rd w (some ⟨b, 2 * k, none⟩) (rowV (P k)).toList := fun j u hj => by
  refine ⟨b, 2 * k, rfl, ?_⟩
  rw [Array.getElem?_toList, rowV_at] at hj
  have hx : (planeV P).toList[2 * k + j]? = some u := by
    rw [Array.getElem?_toList]
    by_cases h0 : j = 0
    · subst h0
      rw [if_pos rfl] at hj
      rw [planeV_at P (by omega), Nat.add_zero, cellP_hi]; exact hj
    · rw [if_neg h0] at hj
      by_cases h1 : j = 1
      · subst h1
        rw [if_pos rfl] at hj
        rw [planeV_at P (by omega), cellP_lo]; exact hj
      · rw [if_neg h1] at hj; cases hj
  have := h.cell hx rfl
  simpa using this
def cntR (P : Nat → Nat → Bool) : Nat → Nat
  | 0 => 0
  | m + 1 => cntR P m + cnt (P m) 128
theorem cntR_le (P : Nat → Nat → Bool) : ∀ m, cntR P m ≤ 128 * m
  | 0 => Nat.le_refl _
  | m + 1 => by have h := cntR_le P m; have h2 := cnt_le (P m) 128; simp only [cntR]; omega
abbrev ht (hires : Bool) : Nat := if hires then 64 else 32
def partQ (f : Nat → Nat → Bool) (n y : Nat) : Nat → Bool := if y < n then f y else noneP
theorem partQ_succ (f : Nat → Nat → Bool) (k : Nat) : setRow (partQ f k) k (f k) = partQ f (k + 1) := by
  funext y
  unfold setRow partQ
  by_cases h : y = k
  · subst h; rw [if_pos rfl, if_pos (Nat.lt_succ_self _)]
  · rw [if_neg h]
    by_cases h2 : y < k
    · rw [if_pos h2, if_pos (by omega)]
    · rw [if_neg h2, if_neg (by omega)]
end
section
open Go Go.RowKit
set_option linter.unusedVariables false
set_option linter.unusedSimpArgs false
set_option maxHeartbeats 2000000
set_option maxRecDepth 4000
attribute [local irreducible] mix

theorem size07 (hires : Bool) (w : World) :
    Calls Tryd.prog 24 #[.bool hires] w fun e w' => e = .returned (.tuple #[.int .i64 (wd hires : Nat), .int .i64 (ht hires : Nat)]) ∧ Sat w [] [] w' := by
  cases hires
  · refine enter Tryd.func24 rfl rfl rfl ?_
    refine r_seq ?_
    refine r_region ?_
    refine r_assign rfl rfl ?_
    refine r_assign rfl rfl ?_
    refine r_nil ?_
    refine r_tn ?_
    refine r_seq ?_
    refine r_seq ?_
    refine r_region ?_
    refine r_move rfl rfl ?_
    refine r_nil ?_
    refine r_tn ?_
    refine r_cond_f rfl ?_
    refine r_skip ?_
    refine r_tn ?_
    refine r_seq ?_
    refine r_region ?_
    refine r_assign rfl rfl ?_
    refine r_assign rfl rfl ?_
    refine r_nil ?_
    refine r_tn ?_
    refine r_ret ?_
    exact r_done2 (.inl rfl) rfl (res_tmp rfl) (res_tmp rfl) fun w hw => ⟨rfl, hw.clear⟩
  · refine enter Tryd.func24 rfl rfl rfl ?_
    refine r_seq ?_
    refine r_region ?_
    refine r_assign rfl rfl ?_
    refine r_assign rfl rfl ?_
    refine r_nil ?_
    refine r_tn ?_
    refine r_seq ?_
    refine r_seq ?_
    refine r_region ?_
    refine r_move rfl rfl ?_
    refine r_nil ?_
    refine r_tn ?_
    refine r_cond_t rfl ?_
    refine r_seq ?_
    refine r_region ?_
    refine r_assign rfl rfl ?_
    refine r_assign rfl rfl ?_
    refine r_nil ?_
    refine r_tn ?_
    refine r_ret ?_
    refine r_tr ?_
    exact r_done2 (.inl rfl) rfl (res_tmp rfl) (res_tmp rfl) fun w hw => ⟨rfl, hw.clear⟩

theorem in64 {y : Int} (h1 : decide (0 ≤ y) = true) (h2 : decide (y < 64) = true) : 0 ≤ y ∧ y < 64 := ⟨of_decide_eq_true h1, of_decide_eq_true h2⟩
def pixQ (P : Nat → Nat → Bool) (x y : Int) : Bool := decide (0 ≤ y) && decide (y < 64) && getB (P y.toNat) x

theorem pixel07 (P : Nat → Nat → Bool) (x y : Int) (w : World) :
    Calls Tryd.prog 26 #[.agg (planeV P), .int .i64 x, .int .i64 y] w fun e w' => e = .returned (.bool (pixQ P x y)) ∧ Sat w [] [] w' := by
  refine enter Tryd.func26 rfl rfl rfl ?_
  refine r_seq ?_
  refine r_region ?_
  refine r_boxV rfl rfl fun b3 => ?_
  refine r_assign rfl rfl ?_
  refine r_nil ?_
  refine r_tn ?_
  refine r_seq ?_
  refine r_region ?_
  refine r_move rfl rfl ?_
  refine r_geq rfl rfl rfl rfl ?_
  refine r_move rfl rfl ?_
  refine r_split 9 rfl (fun hb9 => ?_) (fun hb9 => ?_)
  · refine r_go rfl rfl ?_
    refine r_move rfl rfl ?_
    refine r_go rfl rfl ?_
    refine r_lss rfl rfl rfl rfl ?_
    refine r_pick_t rfl rfl rfl ?_
    refine r_move rfl rfl ?_
    refine r_split 13 rfl (fun hb13 => ?_) (fun hb13 => ?_)
    · refine r_go rfl rfl ?_
      refine r_move rfl rfl ?_
      refine r_go rfl rfl ?_
      refine r_fieldAddr (off := 0) (o' := 0) rfl rfl rfl rfl ?_
      refine r_go rfl rfl ?_
      have hy := in64 hb9 hb13
      refine r_indexArr (sz := 2) (o' := 2 * (y.toNat)) rfl rfl rfl rfl rfl (by omega) (by omega) (by omega) ?_
      refine r_go rfl rfl ?_
      refine r_loadN (m := 2) rfl rfl rfl rfl (by rw [planeV_size]; omega) (planeV_row _ (by omega)) ?_
      refine r_go rfl rfl ?_
      refine r_move rfl rfl ?_
      refine r_go rfl rfl ?_
      refine r_call rfl rfl rfl (by kernel_rfl) rfl (fun w hw => by exact rowGet (P y.toNat) x w) ?_
      refine r_pick_t rfl rfl rfl ?_
      refine r_assign rfl rfl ?_
      refine r_nil ?_
      refine r_tn ?_
      refine r_ret ?_
      exact r_done1 (.inl rfl) rfl (res_tmp rfl) fun w hw => ⟨by simp_all [pixQ] <;> (first | done | (intros; omega)), hw.clear⟩
    · refine r_pass rfl rfl rfl rfl ?_
      refine r_pass rfl rfl rfl rfl ?_
      refine r_pass rfl rfl rfl rfl ?_
      refine r_pass rfl rfl rfl rfl ?_
      refine r_pass rfl rfl rfl rfl ?_
      refine r_pass rfl rfl rfl rfl ?_
      refine r_pick_f rfl rfl rfl ?_
      refine r_assign rfl rfl ?_
      refine r_nil ?_
      refine r_tn ?_
      refine r_ret ?_
      exact r_done1 (.inl rfl) rfl (res_tmp rfl) fun w hw => ⟨by simp_all [pixQ] <;> (first | done | (intros; omega)), hw.clear⟩
  · refine r_pass rfl rfl rfl rfl ?_
    refine r_pass rfl rfl rfl rfl ?_
    refine r_pick_f rfl rfl rfl ?_
    refine r_move rfl rfl ?_
    refine r_pass rfl rfl rfl rfl ?_
    refine r_pass rfl rfl rfl rfl ?_
    refine r_pass rfl rfl rfl rfl ?_
    refine r_pass rfl rfl rfl rfl ?_
    refine r_pass rfl rfl rfl rfl ?_
    refine r_pass rfl rfl rfl rfl ?_
    refine r_pick_f rfl rfl rfl ?_
    refine r_assign rfl rfl ?_
    refine r_nil ?_
    refine r_tn ?_
    refine r_ret ?_
    exact r_done1 (.inl rfl) rfl (res_tmp rfl) fun w hw => ⟨by simp_all [pixQ] <;> (first | done | (intros; omega)), hw.clear⟩

theorem each07 (n : Nat) (f : Nat → Nat → Bool) (g : FuncId) (cs : List Value) (hg : callable Tryd.prog g = true) (hn : n ≤ 64) (w : World)
    (hcall : ∀ k, k < n → ∀ w1, Sat w [] [] w1 → Calls Tryd.prog g ((Value.int .i64 (k : Int)) :: cs).toArray w1 fun e w' => e = .returned (.agg (rowV (f k))) ∧ Sat w1 [] [] w') :
    Calls Tryd.prog 58 #[.int .i64 (n : Int), .func (.func g) #[] cs.toArray] w fun e w' => e = .returned (.agg (planeV (partQ f n))) ∧ Sat w [] [] w' := by
  refine enter Tryd.func58 rfl rfl rfl ?_
  refine r_seq ?_
  refine r_region ?_
  refine r_allocV (cs := planeV noneQ) (by kernel_rfl) rfl fun b4 => ?_
  refine r_nil ?_
  refine r_tn ?_
  refine r_seq ?_
  refine r_seq ?_
  refine r_region ?_
  refine r_move rfl rfl ?_
  refine r_move rfl rfl ?_
  refine r_nil ?_
  refine r_tn ?_
  refine r_block ?_
  refine r_loopN (fun k => [(1, .func (.func g) #[] cs.toArray), (4, .pointer (some ⟨b4, 0, none⟩)), (6, .int .i64 (n : Int)), (7, .int .i64 (k : Int))]) (fun k => [.blk b4 (.cells (planeV (partQ f k)) 45 (0, 0))]) (fun k => k ≤ n) n 0 (by omega) ⟨rfl, rfl, rfl, rfl, trivial⟩ (fun w hw => by rw [show partQ f 0 = noneQ from rfl]; exact hw.sub) fun k hk => ?_
  refine r_seq ?_
  refine r_region ?_
  refine r_lss rfl rfl rfl rfl ?_
  refine r_nil ?_
  refine r_tn ?_
  refine r_seq ?_
  refine r_cond rfl (fun hc => ?_) (fun hc => ?_)
  · refine r_skip ?_
    refine r_tn ?_
    refine r_seq ?_
    refine r_block ?_
    refine r_seq ?_
    refine r_region ?_
    have hk2 : k < n := by have h := of_decide_eq_true hc; omega
    refine r_move rfl rfl ?_
    refine r_assign rfl rfl ?_
    refine r_nil ?_
    refine r_tn ?_
    refine r_region ?_
    refine r_move rfl rfl ?_
    refine r_move rfl rfl ?_
    refine r_move rfl rfl ?_
    refine r_call (cs := cs) rfl rfl rfl hg rfl (fun w1 hw => by exact hcall k hk2 w1 hw.clear) ?_
    refine r_fieldAddr (off := 0) (o' := 0) rfl rfl rfl rfl ?_
    refine r_indexArr (sz := 2) (o' := 2 * (k)) rfl rfl rfl rfl rfl (by omega) (by omega) (by omega) ?_
    refine r_store (m := 2) (cs' := planeV (partQ f (k + 1))) rfl rfl rfl rfl (by rw [planeV_size]; omega) rfl ((planeV_set _ (by omega) _).trans (by rw [partQ_succ])) ?_
    refine r_nil ?_
    refine r_bn ?_
    refine r_tn ?_
    refine r_region ?_
    refine r_add rfl rfl rfl (w64 (by omega)) ?_
    refine r_move rfl rfl ?_
    refine r_nil ?_
    refine r_tn ?_
    exact r_againN (k + 1) (by omega) (by omega) ⟨rfl, rfl, rfl, rfl, trivial⟩ (fun w hw => hw.sub)
  · refine r_exit ?_
    refine r_te ?_
    refine r_te ?_
    refine r_be ?_
    refine r_tn ?_
    refine r_seq ?_
    refine r_region ?_
    refine r_loadV rfl rfl rfl rfl (planeV_size _) ?_
    refine r_storeV rfl rfl rfl (planeV_size _) (planeV_size _) (planeV_one _) ?_
    refine r_nil ?_
    refine r_tn ?_
    refine r_ret ?_
    have hk2 : k = n := by have h := of_decide_eq_false hc; omega
    subst hk2
    exact r_done1 (.inl rfl) rfl (res_cellV rfl rfl rfl (planeV_size _)) fun w hw => ⟨rfl, hw.clear⟩

theorem each07b (b : Nat) (st : Nat → Value) (n : Nat) (f : Nat → Nat → Bool) (g : FuncId) (cs : List Value) (hg : callable Tryd.prog g = true) (hn : n ≤ 64) (w : World)
    (hcall : ∀ k, k < n → ∀ w1, (∀ b1, b1 < w.heap.size → b1 ≠ b → w1.heap[b1]? = w.heap[b1]?) → Sat w1 [b] [.blk b (.cells #[st k] 4 (0, 0))] w1 → Calls Tryd.prog g ((Value.int .i64 (k : Int)) :: cs).toArray w1 fun e w' => e = .returned (.agg (rowV (f k))) ∧ Sat w1 [b] [.blk b (.cells #[st (k + 1)] 4 (0, 0))] w')
    (hS : Sat w [b] [.blk b (.cells #[st 0] 4 (0, 0))] w) :
    Calls Tryd.prog 58 #[.int .i64 (n : Int), .func (.func g) #[] cs.toArray] w fun e w' => e = .returned (.agg (planeV (partQ f n))) ∧ Sat w [b] [.blk b (.cells #[st n] 4 (0, 0))] w' := by
  refine enterS Tryd.func58 rfl rfl rfl hS ?_
  refine r_seq ?_
  refine r_region ?_
  refine r_allocV (cs := planeV noneQ) (by kernel_rfl) rfl fun b4 => ?_
  refine r_nil ?_
  refine r_tn ?_
  refine r_seq ?_
  refine r_seq ?_
  refine r_region ?_
  refine r_move rfl rfl ?_
  refine r_move rfl rfl ?_
  refine r_nil ?_
  refine r_tn ?_
  refine r_block ?_
  refine r_loopN (fun k => [(1, .func (.func g) #[] cs.toArray), (4, .pointer (some ⟨b4, 0, none⟩)), (6, .int .i64 (n : Int)), (7, .int .i64 (k : Int))]) (fun k => [.blk b (.cells #[st k] 4 (0, 0)), .blk b4 (.cells (planeV (partQ f k)) 45 (0, 0))]) (fun k => k ≤ n) n 0 (by omega) ⟨rfl, rfl, rfl, rfl, trivial⟩ (fun w hw => by rw [show partQ f 0 = noneQ from rfl]; exact hw.sub) fun k hk => ?_
  refine r_seq ?_
  refine r_region ?_
  refine r_lss rfl rfl rfl rfl ?_
  refine r_nil ?_
  refine r_tn ?_
  refine r_seq ?_
  refine r_cond rfl (fun hc => ?_) (fun hc => ?_)
  · refine r_skip ?_
    refine r_tn ?_
    refine r_seq ?_
    refine r_block ?_
    refine r_seq ?_
    refine r_region ?_
    have hk2 : k < n := by have h := of_decide_eq_true hc; omega
    refine r_move rfl rfl ?_
    refine r_assign rfl rfl ?_
    refine r_nil ?_
    refine r_tn ?_
    refine r_region ?_
    refine r_move rfl rfl ?_
    refine r_move rfl rfl ?_
    refine r_move rfl rfl ?_
    refine r_callbw0 (b := b) (cs := cs) rfl rfl rfl hg rfl (fun w1 hw hs => by exact hcall k hk2 w1 (fun b1 h1 h2 => hw.keep b1 h1 (by simpa using h2)) hs) ?_
    refine r_fieldAddr (off := 0) (o' := 0) rfl rfl rfl rfl ?_
    refine r_indexArr (sz := 2) (o' := 2 * (k)) rfl rfl rfl rfl rfl (by omega) (by omega) (by omega) ?_
    refine r_store (m := 2) (cs' := planeV (partQ f (k + 1))) rfl rfl rfl rfl (by rw [planeV_size]; omega) rfl ((planeV_set _ (by omega) _).trans (by rw [partQ_succ])) ?_
    refine r_nil ?_
    refine r_bn ?_
    refine r_tn ?_
    refine r_region ?_
    refine r_add rfl rfl rfl (w64 (by omega)) ?_
    refine r_move rfl rfl ?_
    refine r_nil ?_
    refine r_tn ?_
    exact r_againN (k + 1) (by omega) (by omega) ⟨rfl, rfl, rfl, rfl, trivial⟩ (fun w hw => hw.sub)
  · refine r_exit ?_
    refine r_te ?_
    refine r_te ?_
    refine r_be ?_
    refine r_tn ?_
    refine r_seq ?_
    refine r_region ?_
    refine r_loadV rfl rfl rfl rfl (planeV_size _) ?_
    refine r_storeV rfl rfl rfl (planeV_size _) (planeV_size _) (planeV_one _) ?_
    refine r_nil ?_
    refine r_tn ?_
    refine r_ret ?_
    have hk2 : k = n := by have h := of_decide_eq_false hc; omega
    subst hk2
    exact r_done1 (.inl rfl) rfl (res_cellV rfl rfl rfl (planeV_size _)) fun w hw => ⟨rfl, hw.sub⟩
end
section
open Go Go.RowKit
set_option linter.unusedVariables false
set_option linter.unusedSimpArgs false
set_option maxHeartbeats 2000000
set_option maxRecDepth 4000
attribute [local irreducible] mix

def scrollRow (P : Nat → Nat → Bool) (dx dy : Int) (hires : Bool) (k : Nat) : Nat → Bool := if 0 ≤ (k : Int) - dy ∧ (k : Int) - dy < ht hires then shiftP (P ((k : Int) - dy).toNat) dx hires else noneP
def scrollQ (P : Nat → Nat → Bool) (dx dy : Int) (hires : Bool) : Nat → Nat → Bool := partQ (scrollRow P dx dy hires) (ht hires)
end
section
open Go Go.RowKit
set_option linter.unusedVariables false
set_option linter.unusedSimpArgs false
set_option maxHeartbeats 2000000
set_option maxRecDepth 4000
attribute [local irreducible] mix

theorem drawRow07 (P Q : Nat → Nat → Bool) (old : Bool) (k b1 b2 b3 : Nat) (w : World) (n2 : b2 ≠ b1) (n3 : b3 ≠ b1) (h2 : Rd w (some ⟨b2, 0, none⟩) (planeV P).toList) (h3 : Rd w (some ⟨b3, 0, none⟩) (planeV Q).toList) (hk : k < 64) (hS : Sat w [b1] [.blk b1 (.cells #[.bool old] 4 (0, 0))] w) :
    Calls Tryd.prog 59 #[.int .i64 (k : Int), .pointer (some ⟨b1, 0, none⟩), .pointer (some ⟨b2, 0, none⟩), .pointer (some ⟨b3, 0, none⟩)] w fun e w' => e = .returned (.agg (rowV (fun x => P k x ^^ Q k x))) ∧ Sat w [b1] [.blk b1 (.cells #[.bool (old || !(eqB (fun x => P k x && Q k x) noneP))] 4 (0, 0))] w' := by
  refine enterS Tryd.func59 rfl rfl rfl hS ?_
  refine r_seq ?_
  refine r_region ?_
  refine r_allocV (cs := #[.int .u64 0, .int .u64 0]) rfl rfl fun b5 => ?_
  refine r_nil ?_
  refine r_tn ?_
  refine r_seq ?_
  refine r_mixed (by kernel_rfl) (by kernel_rfl) ?_
  refine r_load1 (v := .bool old) rfl rfl rfl (by rfl) ?_
  refine r_move rfl rfl ?_
  refine r_split 7 rfl (fun hb7 => ?_) (fun hb7 => ?_)
  · refine r_pass rfl rfl rfl rfl ?_
    refine r_pass rfl rfl rfl rfl ?_
    refine r_pass rfl rfl rfl rfl ?_
    refine r_pass rfl rfl rfl rfl ?_
    refine r_pass rfl rfl rfl rfl ?_
    refine r_pass rfl rfl rfl rfl ?_
    refine r_pass rfl rfl rfl rfl ?_
    refine r_pass rfl rfl rfl rfl ?_
    refine r_pass rfl rfl rfl rfl ?_
    refine r_pass rfl rfl rfl rfl ?_
    refine r_pass rfl rfl rfl rfl ?_
    refine r_pick_t rfl rfl rfl ?_
    refine r_store1 rfl rfl rfl rfl rfl (Nat.le_of_ble_eq_true rfl) ?_
    refine r_nil ?_
    refine r_tn ?_
    refine r_seq ?_
    refine r_mixed (by kernel_rfl) (by kernel_rfl) ?_
    refine r_move rfl rfl ?_
    refine r_fieldAddr (off := 0) (o' := 0) rfl rfl rfl rfl ?_
    refine r_indexArr (sz := 2) (o' := 2 * (k)) rfl rfl rfl rfl rfl (by omega) (by omega) (by omega) ?_
    refine r_loadRd (vs := (rowV (P k)).toList) rfl rfl rfl rfl rfl (fun w hw => (Rd_row h2 hk).keepS hw (by intro a ha; injection ha with ha; subst ha; simpa using n2)) ?_
    refine r_move rfl rfl ?_
    refine r_fieldAddr (off := 0) (o' := 0) rfl rfl rfl rfl ?_
    refine r_indexArr (sz := 2) (o' := 2 * (k)) rfl rfl rfl rfl rfl (by omega) (by omega) (by omega) ?_
    refine r_loadRd (vs := (rowV (Q k)).toList) rfl rfl rfl rfl rfl (fun w hw => (Rd_row h3 hk).keepS hw (by intro a ha; injection ha with ha; subst ha; simpa using n3)) ?_
    refine r_call rfl rfl rfl (by kernel_rfl) rfl (fun w hw => by exact rowXor (P k) (Q k) w) ?_
    refine r_storeV rfl rfl rfl rfl rfl rfl ?_
    refine r_nil ?_
    refine r_tn ?_
    refine r_ret ?_
    exact r_done1 (.inl rfl) rfl (res_cellV rfl rfl rfl rfl) fun w hw => ⟨rfl, by rw [show (old || !(eqB (fun x => P k x && Q k x) noneP)) = true from by rw [show old = true from hb7]; rfl]; exact (hw.sub : Sat _ _ [.blk b1 (.cells (#[Value.bool old].setIfInBounds 0 (.bool true)) 4 (0, 0))] w)⟩
  · refine r_go rfl rfl ?_
    refine r_move rfl rfl ?_
    refine r_go rfl rfl ?_
    refine r_fieldAddr (off := 0) (o' := 0) rfl rfl rfl rfl ?_
    refine r_go rfl rfl ?_
    refine r_indexArr (sz := 2) (o' := 2 * (k)) rfl rfl rfl rfl rfl (by omega) (by omega) (by omega) ?_
    refine r_go rfl rfl ?_
    refine r_loadRd (vs := (rowV (P k)).toList) rfl rfl rfl rfl rfl (fun w hw => (Rd_row h2 hk).keepS hw (by intro a ha; injection ha with ha; subst ha; simpa using n2)) ?_
    refine r_go rfl rfl ?_
    refine r_move rfl rfl ?_
    refine r_go rfl rfl ?_
    refine r_fieldAddr (off := 0) (o' := 0) rfl rfl rfl rfl ?_
    refine r_go rfl rfl ?_
    refine r_indexArr (sz := 2) (o' := 2 * (k)) rfl rfl rfl rfl rfl (by omega) (by omega) (by omega) ?_
    refine r_go rfl rfl ?_
    refine r_loadRd (vs := (rowV (Q k)).toList) rfl rfl rfl rfl rfl (fun w hw => (Rd_row h3 hk).keepS hw (by intro a ha; injection ha with ha; subst ha; simpa using n3)) ?_
    refine r_go rfl rfl ?_
    refine r_call rfl rfl rfl (by kernel_rfl) rfl (fun w hw => by exact rowAnd (P k) (Q k) w) ?_
    refine r_go rfl rfl ?_
    refine r_call rfl rfl rfl (by kernel_rfl) rfl (fun w hw => by exact rowEmpty (fun x => P k x && Q k x) w) ?_
    refine r_go rfl rfl ?_
    refine r_not rfl rfl rfl ?_
    refine r_pick_f rfl rfl rfl ?_
    refine r_store1 rfl rfl rfl rfl rfl (Nat.le_of_ble_eq_true rfl) ?_
    refine r_nil ?_
    refine r_tn ?_
    refine r_seq ?_
    refine r_mixed (by kernel_rfl) (by kernel_rfl) ?_
    refine r_move rfl rfl ?_
    refine r_fieldAddr (off := 0) (o' := 0) rfl rfl rfl rfl ?_
    refine r_indexArr (sz := 2) (o' := 2 * (k)) rfl rfl rfl rfl rfl (by omega) (by omega) (by omega) ?_
    refine r_loadRd (vs := (rowV (P k)).toList) rfl rfl rfl rfl rfl (fun w hw => (Rd_row h2 hk).keepS hw (by intro a ha; injection ha with ha; subst ha; simpa using n2)) ?_
    refine r_move rfl rfl ?_
    refine r_fieldAddr (off := 0) (o' := 0) rfl rfl rfl rfl ?_
    refine r_indexArr (sz := 2) (o' := 2 * (k)) rfl rfl rfl rfl rfl (by omega) (by omega) (by omega) ?_
    refine r_loadRd (vs := (rowV (Q k)).toList) rfl rfl rfl rfl rfl (fun w hw => (Rd_row h3 hk).keepS hw (by intro a ha; injection ha with ha; subst ha; simpa using n3)) ?_
    refine r_call rfl rfl rfl (by kernel_rfl) rfl (fun w hw => by exact rowXor (P k) (Q k) w) ?_
    refine r_storeV rfl rfl rfl rfl rfl rfl ?_
    refine r_nil ?_
    refine r_tn ?_
    refine r_ret ?_
    exact r_done1 (.inl rfl) rfl (res_cellV rfl rfl rfl rfl) fun w hw => ⟨rfl, by rw [show (old || !(eqB (fun x => P k x && Q k x) noneP)) = !(eqB (fun x => P k x && Q k x) noneP) from by rw [show old = false from hb7]; rfl]; exact (hw.sub : Sat _ _ [.blk b1 (.cells (#[Value.bool old].setIfInBounds 0 (.bool (!(eqB (fun x => P k x && Q k x) noneP)))) 4 (0, 0))] w)⟩

def xorQ (P Q : Nat → Nat → Bool) (y x : Nat) : Bool := P y x ^^ Q y x
def hitK (P Q : Nat → Nat → Bool) : Nat → Bool
  | 0 => false
  | k + 1 => hitK P Q k || !eqB (fun x => P k x && Q k x) noneP

theorem draw07 (P Q : Nat → Nat → Bool) (w : World) :
    Calls Tryd.prog 48 #[.agg (planeV P), .agg (planeV Q)] w fun e w' => e = .returned (.tuple #[.agg (planeV (xorQ P Q)), .bool (hitK P Q 64)]) ∧ Sat w [] [] w' := by
  refine enter Tryd.func48 rfl rfl rfl ?_
  refine r_seq ?_
  refine r_region ?_
  refine r_boxV rfl rfl fun b2 => ?_
  refine r_boxV rfl rfl fun b3 => ?_
  refine r_allocV (cs := planeV noneQ) (by kernel_rfl) rfl fun b4 => ?_
  refine r_assign rfl rfl ?_
  refine r_nil ?_
  refine r_tn ?_
  refine r_seq ?_
  refine r_region ?_
  refine r_alloc rfl rfl fun b6 => ?_
  refine r_store1 rfl rfl rfl rfl rfl (Nat.le_of_ble_eq_true rfl) ?_
  refine r_nil ?_
  refine r_tn ?_
  refine r_seq ?_
  refine r_region ?_
  refine r_makeFunc rfl rfl rfl ?_
  refine r_callbw0 (b := b6) rfl rfl rfl (by kernel_rfl) rfl (fun w hw hs => by exact each07b b6 (fun k => .bool (hitK P Q k)) 64 (xorQ P Q) 59 [.pointer (some ⟨b6, 0, none⟩), .pointer (some ⟨b2, 0, none⟩), .pointer (some ⟨b3, 0, none⟩)] (by kernel_rfl) (by decide) w (fun k hk w1 hkeep hs1 => by have hd := drawRow07 P Q (hitK P Q k) k b6 b2 b3 w1 (Ne.symm (Sat.ne (b1 := b6) (b2 := b2) hw)) (Ne.symm (Sat.ne (b1 := b6) (b2 := b3) hw)) (Rd.blk ((hkeep b2 (Sat.lt hw) (Ne.symm (Sat.ne (b1 := b6) (b2 := b2) hw))).trans (hw.look (HasBlk.pick (b := b2)))) (fun j u h => by rw [Nat.zero_add, ← Array.getElem?_toList]; exact h)) (Rd.blk ((hkeep b3 (Sat.lt hw) (Ne.symm (Sat.ne (b1 := b6) (b2 := b3) hw))).trans (hw.look (HasBlk.pick (b := b3)))) (fun j u h => by rw [Nat.zero_add, ← Array.getElem?_toList]; exact h)) hk hs1; exact hd) hs) ?_
  refine r_allocV (cs := planeV noneQ) (by kernel_rfl) rfl fun b7 => ?_
  refine r_storeV rfl rfl rfl (planeV_size _) (planeV_size _) (planeV_one _) ?_
  refine r_nil ?_
  refine r_tn ?_
  refine r_seq ?_
  refine r_have (fun w hw => Sat.ne (b1 := b6) (b2 := b4) hw) fun hne0_b6 => ?_
  refine r_mixedD { xb := [b4], rb := [b6], rs := [11], fs := [4], acs := [] } (by kernel_rfl) (by kernel_rfl) (fun w hw k hk => by
    simp only [List.mem_cons, List.not_mem_nil, or_false] at hk
    rcases hk with rfl <;> exact Sat.lt hw) ?_
  refine r_loadV rfl rfl rfl rfl (planeV_size _) ?_
  refine r_load1 (v := .bool (hitK P Q 64)) rfl rfl rfl (by rfl) ?_
  refine r_storeV rfl rfl rfl (planeV_size _) (planeV_size _) (planeV_one _) ?_
  refine r_assign rfl rfl ?_
  refine r_nil ?_
  refine r_tn ?_
  refine r_ret ?_
  exact r_done2 (.inl rfl) rfl (res_cellV rfl rfl rfl (planeV_size _)) (res_tmp rfl) fun w hw => ⟨congrArg (fun c => Ending.returned (.tuple #[.agg c, .bool (hitK P Q 64)])) (planeV_congr fun y hy x _ => by unfold partQ; rw [if_pos hy]), hw.clear⟩
end
section
open Go Go.RowKit
set_option linter.unusedVariables false
set_option linter.unusedSimpArgs false
set_option maxHeartbeats 2000000
set_option maxRecDepth 4000
attribute [local irreducible] mix

def bitsAt (l : List Int) (i : Nat) : Nat := (l.getD i 0).toNat
theorem bitsAt_rng {l : List Int} (h : l.all (fun z => decide (0 ≤ z) && decide (z ≤ 65535)) = true) (i : Nat) : bitsAt l i < 65536 ∧ 0 ≤ l.getD i 0 := by
  unfold bitsAt
  by_cases hi : i < l.length
  · have h2 := List.all_eq_true.1 h l[i] (List.getElem_mem hi)
    rw [List.getD_eq_getElem?_getD, List.getElem?_eq_getElem hi]
    simp at h2 ⊢
    omega
  · rw [List.getD_eq_getElem?_getD, List.getElem?_eq_none (by omega)]
    simp
theorem bitsAt_get {l : List Int} (h : l.all (fun z => decide (0 ≤ z) && decide (z ≤ 65535)) = true) {i : Nat} (hi : i < l.length) : (l.map (Value.int .u16))[i]? = some (.int .u16 ((bitsAt l i : Nat) : Int)) := by
  have h2 := (bitsAt_rng h i).2
  unfold bitsAt
  rw [Int.toNat_of_nonneg h2, List.getElem?_map, List.getElem?_eq_getElem hi, List.getD_eq_getElem?_getD, List.getElem?_eq_getElem hi]
  rfl
/-- the first rows of a pattern -/
def sprQ (l : List Int) (count x y : Nat) (hires clip : Bool) (k y1 : Nat) : Nat → Bool :=
  if y ≤ y1 ∧ y1 < ht hires ∧ y1 - y < k then sprK (bitsAt l (y1 - y)) count x (wd hires) clip count
  else if clip = false ∧ y1 < y ∧ y1 + ht hires - y < k then sprK (bitsAt l (y1 + ht hires - y)) count x (wd hires) clip count else noneP
theorem sprQ_zero (l : List Int) (count x y : Nat) (hires clip : Bool) : sprQ l count x y hires clip 0 = noneQ := by
  funext y1
  unfold sprQ
  rw [if_neg (by omega), if_neg (by omega)]; rfl
theorem sprQ_straight {l : List Int} {count x y : Nat} {hires clip : Bool} {i y1 : Nat} (hy : y < ht hires) (h : ¬ ht hires ≤ y + i) :
    setRow (sprQ l count x y hires clip i) (y + i) (sprK (bitsAt l i) count x (wd hires) clip count) y1 = sprQ l count x y hires clip (i + 1) y1 := by
  unfold setRow sprQ
  by_cases e : y1 = y + i
  · subst e
    rw [if_pos rfl, if_pos (by omega), show y + i - y = i by omega]
  · rw [if_neg e]
    by_cases h1 : y ≤ y1 ∧ y1 < ht hires ∧ y1 - y < i
    · rw [if_pos h1, if_pos (by omega)]
    · rw [if_neg h1, if_neg (show ¬ (y ≤ y1 ∧ y1 < ht hires ∧ y1 - y < i + 1) by omega)]
      by_cases h2 : clip = false ∧ y1 < y ∧ y1 + ht hires - y < i
      · rw [if_pos h2, if_pos ⟨h2.1, by omega, by omega⟩]
      · rw [if_neg h2, if_neg (fun h3 => h2 ⟨h3.1, h3.2.1, by omega⟩)]
theorem sprQ_wrap {l : List Int} {count x y : Nat} {hires clip : Bool} {i y1 : Nat} (hc : clip = false) (hy : y < ht hires) (h : ht hires ≤ y + i) (hi : i < 16) (hh : 16 < ht hires) :
    setRow (sprQ l count x y hires clip i) (y + i - ht hires) (sprK (bitsAt l i) count x (wd hires) clip count) y1 = sprQ l count x y hires clip (i + 1) y1 := by
  unfold setRow sprQ
  by_cases e : y1 = y + i - ht hires
  · subst e
    rw [if_pos rfl, if_neg (by omega), if_pos ⟨hc, by omega, by omega⟩, show y + i - ht hires + ht hires - y = i by omega]
  · rw [if_neg e]
    by_cases h1 : y ≤ y1 ∧ y1 < ht hires ∧ y1 - y < i
    · rw [if_pos h1, if_pos (by omega)]
    · rw [if_neg h1, if_neg (show ¬ (y ≤ y1 ∧ y1 < ht hires ∧ y1 - y < i + 1) by omega)]
      by_cases h2 : clip = false ∧ y1 < y ∧ y1 + ht hires - y < i
      · rw [if_pos h2, if_pos ⟨h2.1, by omega, by omega⟩]
      · rw [if_neg h2, if_neg (fun h3 => h2 ⟨h3.1, h3.2.1, by omega⟩)]
theorem sprQ_break {l : List Int} {count x y : Nat} {hires clip : Bool} {i n : Nat} (hc : clip = true) (hy : y < ht hires) (h : ht hires ≤ y + i) (hn : i ≤ n) (y1 : Nat) : sprQ l count x y hires clip i y1 = sprQ l count x y hires clip n y1 := by
  unfold sprQ
  have h3 : ∀ k : Nat, ¬ (clip = false ∧ y1 < y ∧ y1 + ht hires - y < k) := fun k h => by rw [hc] at h; cases h.1
  rw [if_neg (h3 i), if_neg (h3 n)]
  by_cases h1 : y ≤ y1 ∧ y1 < ht hires ∧ y1 - y < i
  · rw [if_pos h1, if_pos (by omega)]
  · rw [if_neg h1, if_neg (show ¬ (y ≤ y1 ∧ y1 < ht hires ∧ y1 - y < n) by omega)]
theorem sprite07 (A : Option Addr) (c : Nat) (l : List Int) (count x y : Nat) (hires clip : Bool) (w : World) (hA : Rd w A (l.map (Value.int .u16))) (hw : l.all (fun z => decide (0 ≤ z) && decide (z ≤ 65535)) = true) (hl : l.length ≤ 16) (hcn : count ≤ 64) (hx : x < wd hires) (hy : y < ht hires) :
    Calls Tryd.prog 49 #[.slice A l.length c, .int .i64 (count : Int), .int .i64 (x : Int), .int .i64 (y : Int), .bool hires, .bool clip] w fun e w' => e = .returned (.agg (planeV (sprQ l count x y hires clip l.length))) ∧ Sat w [] [] w' := by
  have hwd : wd hires ≤ 128 := by cases hires <;> decide
  have hht : ht hires ≤ 64 := by cases hires <;> decide
  have hht2 : 32 ≤ ht hires := by cases hires <;> decide
  refine enter Tryd.func49 rfl rfl rfl ?_
  refine r_seq ?_
  refine r_region ?_
  refine r_allocV (cs := planeV noneQ) (by kernel_rfl) rfl fun b12 => ?_
  refine r_nil ?_
  refine r_tn ?_
  refine r_seq ?_
  refine r_region ?_
  refine r_move rfl rfl ?_
  refine r_call rfl rfl rfl (by kernel_rfl) rfl (fun w hw => by exact size07 hires w) ?_
  refine r_move rfl rfl ?_
  refine r_extract rfl rfl rfl ?_
  refine r_extract rfl rfl rfl ?_
  refine r_assign rfl rfl ?_
  refine r_assign rfl rfl ?_
  refine r_nil ?_
  refine r_tn ?_
  refine r_seq ?_
  refine r_region ?_
  refine r_allocV (cs := planeV noneQ) (by kernel_rfl) rfl fun b15 => ?_
  refine r_nil ?_
  refine r_tn ?_
  refine r_seq ?_
  refine r_seq ?_
  refine r_region ?_
  refine r_move rfl rfl ?_
  refine r_len rfl rfl rfl ?_
  refine r_move rfl rfl ?_
  refine r_nil ?_
  refine r_tn ?_
  refine r_block ?_
  refine r_loopN (fun i => [(1, .int .i64 (count : Int)), (2, .int .i64 (x : Int)), (3, .int .i64 (y : Int)), (5, .bool clip), (12, .pointer (some ⟨b12, 0, none⟩)), (13, .int .i64 (wd hires : Nat)), (14, .int .i64 (ht hires : Nat)), (15, .pointer (some ⟨b15, 0, none⟩)), (24, .slice A l.length c), (25, .int .i64 (l.length : Int)), (26, .int .i64 (i : Int))]) (fun i => [.blk b12 (.cells (planeV noneQ) 45 (0, 0)), .blk b15 (.cells (planeV (sprQ l count x y hires clip i)) 45 (0, 0))]) (fun i => i ≤ l.length) l.length 0 (by omega) ⟨rfl, rfl, rfl, rfl, rfl, rfl, rfl, rfl, rfl, rfl, rfl, trivial⟩ (fun w hw => by rw [show sprQ l count x y hires clip 0 = noneQ from sprQ_zero ..]; exact hw.sub) fun i hi => ?_
  refine r_seq ?_
  refine r_region ?_
  refine r_lss rfl rfl rfl rfl ?_
  refine r_nil ?_
  refine r_tn ?_
  refine r_seq ?_
  refine r_cond rfl (fun hc => ?_) (fun hc => ?_)
  · refine r_skip ?_
    refine r_tn ?_
    refine r_seq ?_
    refine r_block ?_
    refine r_seq ?_
    refine r_region ?_
    have hi2 : i < l.length := by have h := of_decide_eq_true hc; omega
    clear hc
    obtain ⟨hz0, hz1⟩ := bitsAt_rng hw i
    have hji : (l.map (Value.int .u16))[i]? = some (.int .u16 ((bitsAt l i : Nat) : Int)) := bitsAt_get hw hi2
    obtain ⟨ba, oa, rfl, hca⟩ := hA i _ hji
    refine r_move rfl rfl ?_
    refine r_indexSl (sz := 1) (o' := oa + i) rfl rfl rfl rfl rfl (by omega) (by omega) (by simp) ?_
    refine r_loadC (p := ⟨ba, oa + i, none⟩) rfl rfl rfl (fun w hw => ((hA.keep hw).cell hji rfl)) ?_
    refine r_assign rfl rfl ?_
    refine r_assign rfl rfl ?_
    refine r_nil ?_
    refine r_tn ?_
    refine r_seq ?_
    refine r_region ?_
    refine r_move rfl rfl ?_
    refine r_move rfl rfl ?_
    refine r_add (r := ((y + i : Nat) : Int)) rfl rfl rfl ((w64 (by omega)).trans (by omega)) ?_
    refine r_assign rfl rfl ?_
    refine r_nil ?_
    refine r_tn ?_
    refine r_seq ?_
    refine r_seq ?_
    refine r_region ?_
    refine r_move rfl rfl ?_
    refine r_move rfl rfl ?_
    refine r_geq (p := decide (ht hires ≤ y + i)) rfl rfl rfl (decide_eq_decide.2 ⟨fun _ => by omega, fun _ => by omega⟩) ?_
    refine r_nil ?_
    refine r_tn ?_
    refine r_cond rfl (fun hc => ?_) (fun hc => ?_)
    · refine r_seq ?_
      refine r_seq ?_
      refine r_region ?_
      have hge : ht hires ≤ y + i := of_decide_eq_true hc
      refine r_move rfl rfl ?_
      refine r_nil ?_
      refine r_tn ?_
      refine r_cond rfl (fun hc => ?_) (fun hc => ?_)
      · refine r_exit ?_
        refine r_te ?_
        refine r_te ?_
        refine r_bx rfl ?_
        refine r_te ?_
        refine r_te ?_
        refine r_be ?_
        refine r_tn ?_
        refine r_seq ?_
        refine r_region ?_
        refine r_loadV rfl rfl rfl rfl (planeV_size _) ?_
        refine r_storeV rfl rfl rfl (planeV_size _) (planeV_size _) (planeV_one _) ?_
        refine r_nil ?_
        refine r_tn ?_
        refine r_ret ?_
        exact r_done1 (.inl rfl) rfl (res_cellV rfl rfl rfl (planeV_size _)) fun w hw => ⟨congrArg (fun c => Ending.returned (.agg c)) (planeV_congr fun y1 hy1 x1 _ => by rw [sprQ_break (show clip = true from hc) hy hge (by omega) y1]), hw.clear⟩
      · refine r_skip ?_
        refine r_tn ?_
        refine r_region ?_
        refine r_move rfl rfl ?_
        refine r_move rfl rfl ?_
        refine r_sub (r := ((y + i - ht hires : Nat) : Int)) rfl rfl rfl ((w64 (by omega)).trans (by omega)) ?_
        refine r_assign rfl rfl ?_
        refine r_nil ?_
        refine r_tn ?_
        refine r_region ?_
        refine r_move rfl rfl ?_
        refine r_move rfl rfl ?_
        refine r_move rfl rfl ?_
        refine r_move rfl rfl ?_
        refine r_move rfl rfl ?_
        refine r_move rfl rfl ?_
        refine r_call rfl rfl rfl (by kernel_rfl) rfl (fun w hw => by exact rowSprite (bitsAt l i) count x (wd hires) clip w (by omega) (by omega) (by omega) (by omega)) ?_
        refine r_fieldAddr (off := 0) (o' := 0) rfl rfl rfl rfl ?_
        refine r_indexArr (sz := 2) (o' := 2 * (y + i - ht hires)) rfl rfl rfl rfl rfl (by omega) (by omega) (by omega) ?_
        refine r_store (m := 2) (cs' := planeV (sprQ l count x y hires clip (i + 1))) rfl rfl rfl rfl (by rw [planeV_size]; omega) rfl ((planeV_set _ (by omega) _).trans (planeV_congr fun y1 _ x1 _ => by rw [sprQ_wrap (show clip = false from hc) hy hge (by omega) (by omega)])) ?_
        refine r_nil ?_
        refine r_bn ?_
        refine r_tn ?_
        refine r_region ?_
        refine r_add rfl rfl rfl (w64 (by omega)) ?_
        refine r_move rfl rfl ?_
        refine r_nil ?_
        refine r_tn ?_
        exact r_againN (i + 1) (by omega) (by omega) ⟨rfl, rfl, rfl, rfl, rfl, rfl, rfl, rfl, rfl, rfl, rfl, trivial⟩ (fun w hw => hw.sub)
    · refine r_skip ?_
      refine r_tn ?_
      refine r_region ?_
      refine r_move rfl rfl ?_
      refine r_move rfl rfl ?_
      refine r_move rfl rfl ?_
      refine r_move rfl rfl ?_
      refine r_move rfl rfl ?_
      refine r_move rfl rfl ?_
      refine r_call rfl rfl rfl (by kernel_rfl) rfl (fun w hw => by exact rowSprite (bitsAt l i) count x (wd hires) clip w (by omega) (by omega) (by omega) (by omega)) ?_
      refine r_fieldAddr (off := 0) (o' := 0) rfl rfl rfl rfl ?_
      have hlt2 : ¬ ht hires ≤ y + i := of_decide_eq_false hc
      refine r_indexArr (sz := 2) (o' := 2 * (y + i)) rfl rfl rfl rfl rfl (by omega) (by omega) (by omega) ?_
      refine r_store (m := 2) (cs' := planeV (sprQ l count x y hires clip (i + 1))) rfl rfl rfl rfl (by rw [planeV_size]; omega) rfl ((planeV_set _ (by omega) _).trans (planeV_congr fun y1 _ x1 _ => by rw [sprQ_straight hy (show ¬ ht hires ≤ y + i from of_decide_eq_false hc)])) ?_
      refine r_nil ?_
      refine r_bn ?_
      refine r_tn ?_
      refine r_region ?_
      refine r_add rfl rfl rfl (w64 (by omega)) ?_
      refine r_move rfl rfl ?_
      refine r_nil ?_
      refine r_tn ?_
      exact r_againN (i + 1) (by omega) (by omega) ⟨rfl, rfl, rfl, rfl, rfl, rfl, rfl, rfl, rfl, rfl, rfl, trivial⟩ (fun w hw => hw.sub)
  · refine r_exit ?_
    refine r_te ?_
    refine r_te ?_
    refine r_be ?_
    refine r_tn ?_
    refine r_seq ?_
    refine r_region ?_
    refine r_loadV rfl rfl rfl rfl (planeV_size _) ?_
    refine r_storeV rfl rfl rfl (planeV_size _) (planeV_size _) (planeV_one _) ?_
    refine r_nil ?_
    refine r_tn ?_
    refine r_ret ?_
    have hi3 : i = l.length := by have h := of_decide_eq_false hc; omega
    subst hi3
    exact r_done1 (.inl rfl) rfl (res_cellV rfl rfl rfl (planeV_size _)) fun w hw => ⟨rfl, hw.clear⟩
end
end Go.Proofs.YtdkgnnieehidbaaDoor
