/-
  Rendering (chapter 24): characters, Lines.
-/
import Derived.Test.YtdkgnnieehidbaaDoorStr24
import Derived.Test.YtdkgnnieehidbaaDoorRefV23
namespace Go.Proofs.YtdkgnnieehidbaaDoor
open Go Go.RowKit
set_option linter.unusedVariables false
set_option linter.unusedSimpArgs false
set_option maxHeartbeats 2000000
set_option maxRecDepth 4000
attribute [local irreducible] mix

def chN (n : Nat) : Nat := if n = 0 then 46 else if n < 10 then 48 + n else 55 + n
theorem chN_zero : (chN 0 : Int) = 46 := rfl
theorem chN_mid {n : Nat} (h : ¬ n = 0) (h2 : n < 10) : (chN n : Int) = 48 + (n : Int) := by unfold chN; rw [if_neg h, if_pos h2]; omega
theorem chN_top {n : Nat} (h2 : ¬ n < 10) : (chN n : Int) = 65 + ((n : Int) - 10) := by unfold chN; rw [if_neg (by omega), if_neg h2]; omega
theorem chN_lt : ∀ n, n < 16 → chN n < 128 := by decide
/-- the sum of planes with a character, or -1 -/
def valR (r : Int) : Int := match (List.range 16).find? fun n => decide ((chN n : Int) = r) with
  | some n => (n : Int)
  | none => -1
theorem valR_ch : ∀ n, n < 16 → valR (chN n : Int) = (n : Int) := by decide
theorem valR_of {n : Nat} {r : Int} (h : n < 16) (e : (chN n : Int) = r) : valR r = (n : Int) := by rw [← e]; exact valR_ch n h
theorem valR_none {r : Int} (h : ∀ j, j < 16 → (chN j : Int) ≠ r) : valR r = -1 := by
  unfold valR
  have e : (List.range 16).find? (fun n => decide ((chN n : Int) = r)) = none := List.find?_eq_none.2 fun j hj => by
    have h2 := h j (List.mem_range.1 hj)
    simpa using h2
  rw [e]
/-- the planes on which a pixel is set -/
def colN (P : Nat → Nat → Nat → Bool) (x y : Nat) : Nat := num (fun i => pixQ (P i) (x : Int) (y : Int)) 4
def lineB (P : Nat → Nat → Nat → Bool) (hires : Bool) (y : Nat) : List UInt8 := (List.range (wd hires)).map fun x => UInt8.ofNat (chN (colN P x y))
theorem lineB_len (P : Nat → Nat → Nat → Bool) (hires : Bool) (y : Nat) : (lineB P hires y).length = wd hires := by simp [lineB]
theorem line_tx (P : Nat → Nat → Nat → Bool) (hires : Bool) (y : Nat) : runesBytes ((List.range (wd hires)).map fun x => (chN (colN P x y) : Int)) = tx (lineB P hires y) := by
  rw [runes_tx]
  · rw [List.map_map]
    rfl
  · intro n hn
    obtain ⟨x, _, rfl⟩ := List.mem_map.1 hn
    have := chN_lt _ (num_lt (fun i => pixQ (P i) (x : Int) (y : Int)) 4)
    have h2 : chN (colN P x y) < 128 := this
    omega
theorem made_one (v : Value) (n : Nat) : (madeCells #[v] (n * 1)).toList = List.replicate n v := by
  unfold madeCells
  rw [Array.toList_map, Array.toList_range, Nat.mul_one]
  apply List.ext_getElem?
  intro i
  rw [List.getElem?_map, List.getElem?_replicate]
  by_cases h : i < n
  · rw [List.getElem?_range h, if_pos h]
    show some ((#[v] : Array Value)[i % 1]!) = _
    rw [Nat.mod_one]
    rfl
  · rw [if_neg h, List.getElem?_eq_none (by rw [List.length_range]; omega)]
    rfl
/-- a row of which the first k are filled -/
def mapK (g : Nat → Value) (z : Value) (n k : Nat) : List Value := (List.range n).map fun j => if j < k then g j else z
theorem mapK_zero (g : Nat → Value) (z : Value) (n : Nat) : mapK g z n 0 = List.replicate n z := by
  unfold mapK
  apply List.ext_getElem?
  intro i
  rw [List.getElem?_map, List.getElem?_replicate]
  by_cases h : i < n
  · rw [List.getElem?_range h, if_pos h]; simp
  · rw [if_neg h, List.getElem?_eq_none (by rw [List.length_range]; omega)]; rfl
theorem mapK_succ {g : Nat → Value} {z : Value} {n k : Nat} (hk : k < n) : (mapK g z n k).set k (g k) = mapK g z n (k + 1) := by
  unfold mapK
  apply List.ext_getElem?
  intro i
  rw [List.getElem?_set, List.length_map, List.length_range]
  by_cases hi : i < n
  · rw [List.getElem?_map, List.getElem?_map, List.getElem?_range hi]
    by_cases he : k = i
    · subst he
      rw [if_pos rfl, if_pos hi]
      simp
    · rw [if_neg he]
      by_cases hl : i < k
      · simp [hl, show i < k + 1 by omega]
      · simp [hl, show ¬ i < k + 1 by omega]
  · rw [List.getElem?_eq_none (by simp; omega), if_neg (by omega), List.getElem?_eq_none (by simp; omega)]
theorem mapK_all (g : Nat → Value) (z : Value) (n : Nat) : mapK g z n n = (List.range n).map g := by
  unfold mapK
  refine List.map_congr_left fun i hi => ?_
  rw [if_pos (List.mem_range.1 hi)]

theorem shl4 : ∀ k : Nat, k < 4 → IntKind.i64.wrap (1 * 2 ^ (min ((k : Nat) : Int).toNat IntKind.i64.bits)) = ((2 ^ k : Nat) : Int) := by decide +kernel
theorem or4 : ∀ x : Nat, x < 16 → ∀ k : Nat, k < 4 → IntKind.i64.wrap ((BitVec.ofInt IntKind.i64.bits ((x : Nat) : Int) ||| BitVec.ofInt IntKind.i64.bits ((2 ^ k : Nat) : Int)).toNat : Int) = ((x ||| 2 ^ k : Nat) : Int) := by decide +kernel
theorem col_yes {f : Nat → Bool} {k : Nat} (h : f k = true) : num f k ||| 2 ^ k = num f (k + 1) := by
  have h2 := Nat.two_pow_add_eq_or_of_lt (num_lt f k) 1
  rw [Nat.mul_one] at h2
  rw [Nat.or_comm, ← h2, Nat.add_comm]
  simp only [num]
  rw [h]; rfl
theorem col_no {f : Nat → Bool} {k : Nat} (h : f k = false) : num f k = num f (k + 1) := by simp only [num]; rw [h]; rfl
attribute [local irreducible] mapK chN planesL valR

theorem character24 (n : Nat) (hn : n < 16) (w : World) :
    Calls Tryd.prog 31 #[.int .i64 (n : Int)] w fun e w' => e = .returned (.int .i32 (chN n : Int)) ∧ Sat w [] [] w' := by
  refine enter Tryd.func31 rfl rfl rfl ?_
  refine r_seq ?_
  refine r_region ?_
  refine r_assign rfl rfl ?_
  refine r_nil ?_
  refine r_tn ?_
  refine r_seq ?_
  refine r_block ?_
  refine r_seq ?_
  refine r_region ?_
  refine r_move rfl rfl ?_
  refine r_eql (p := decide (n = 0)) rfl rfl rfl (decide_eq_decide.2 ⟨fun _ => by omega, fun _ => by omega⟩) ?_
  refine r_assign rfl rfl ?_
  refine r_nil ?_
  refine r_tn ?_
  refine r_cond rfl (fun hc => ?_) (fun hc => ?_)
  · refine r_seq ?_
    refine r_region ?_
    refine r_assign rfl rfl ?_
    refine r_nil ?_
    refine r_tn ?_
    refine r_ret ?_
    refine r_br ?_
    refine r_tr ?_
    have hn : n = 0 := of_decide_eq_true hc
    subst hn
    rw [chN_zero]
    exact r_done1 (.inl rfl) rfl (res_tmp rfl) fun w hw => ⟨rfl, hw.clear⟩
  · refine r_seq ?_
    refine r_region ?_
    refine r_move rfl rfl ?_
    have hn0 : ¬ n = 0 := of_decide_eq_false hc
    refine r_lss (p := decide (n < 10)) rfl rfl rfl (decide_eq_decide.2 ⟨fun _ => by omega, fun _ => by omega⟩) ?_
    refine r_assign rfl rfl ?_
    refine r_nil ?_
    refine r_tn ?_
    refine r_cond rfl (fun hc => ?_) (fun hc => ?_)
    · refine r_seq ?_
      refine r_region ?_
      refine r_move rfl rfl ?_
      refine r_convert (r := (n : Int)) rfl rfl rfl rfl (IntWalk.i32_in _ ⟨by omega, by omega⟩) ?_
      refine r_add (r := 48 + (n : Int)) rfl rfl rfl (IntWalk.i32_in _ ⟨by omega, by omega⟩) ?_
      refine r_assign rfl rfl ?_
      refine r_nil ?_
      refine r_tn ?_
      refine r_ret ?_
      refine r_br ?_
      refine r_tr ?_
      have hn2 : n < 10 := of_decide_eq_true hc
      rw [chN_mid hn0 hn2]
      exact r_done1 (.inl rfl) rfl (res_tmp rfl) fun w hw => ⟨rfl, hw.clear⟩
    · refine r_skip ?_
      refine r_bn ?_
      refine r_tn ?_
      refine r_seq ?_
      refine r_region ?_
      refine r_move rfl rfl ?_
      refine r_sub (r := (n : Int) - 10) rfl rfl rfl (w64 (by omega)) ?_
      refine r_convert (r := (n : Int) - 10) rfl rfl rfl rfl (IntWalk.i32_in _ ⟨by omega, by omega⟩) ?_
      refine r_add (r := 65 + ((n : Int) - 10)) rfl rfl rfl (IntWalk.i32_in _ ⟨by omega, by omega⟩) ?_
      refine r_assign rfl rfl ?_
      refine r_nil ?_
      refine r_tn ?_
      refine r_ret ?_
      have hn2 : ¬ n < 10 := of_decide_eq_false hc
      rw [chN_top hn2]
      exact r_done1 (.inl rfl) rfl (res_tmp rfl) fun w hw => ⟨rfl, hw.clear⟩

theorem value24 (r : Int) (w : World) :
    Calls Tryd.prog 47 #[.int .i32 r] w fun e w' => e = .returned (.int .i64 (valR r)) ∧ Sat w [] [] w' := by
  refine enter Tryd.func47 rfl rfl rfl ?_
  refine r_seq ?_
  refine r_region ?_
  refine r_assign rfl rfl ?_
  refine r_nil ?_
  refine r_tn ?_
  refine r_seq ?_
  refine r_seq ?_
  refine r_region ?_
  refine r_move rfl rfl ?_
  refine r_nil ?_
  refine r_tn ?_
  refine r_block ?_
  refine r_loopN (fun k => [(0, .int .i32 r), (4, .int .i64 (k : Int))]) (fun _ => []) (fun k => k ≤ 16 ∧ ∀ j, j < k → (chN j : Int) ≠ r) 16 0 ⟨by omega, fun j hj => by omega⟩ ⟨rfl, rfl, trivial⟩ (fun w hw => hw.clear) fun k hk => ?_
  obtain ⟨hk, hj⟩ := hk
  refine r_seq ?_
  refine r_region ?_
  refine r_lss rfl rfl rfl rfl ?_
  refine r_nil ?_
  refine r_tn ?_
  refine r_seq ?_
  refine r_cond rfl (fun hc => ?_) (fun hc => ?_)
  · refine r_skip ?_
    refine r_tn ?_
    refine r_seq ?_
    refine r_block ?_
    refine r_seq ?_
    refine r_region ?_
    have hk2 : k < 16 := by have h := of_decide_eq_true hc; omega
    clear hc
    refine r_move rfl rfl ?_
    refine r_assign rfl rfl ?_
    refine r_nil ?_
    refine r_tn ?_
    refine r_seq ?_
    refine r_region ?_
    refine r_move rfl rfl ?_
    refine r_call rfl rfl rfl (by kernel_rfl) rfl (fun w hw => by exact character24 k hk2 w) ?_
    refine r_move rfl rfl ?_
    refine r_eql (p := decide ((chN k : Int) = r)) rfl rfl rfl rfl ?_
    refine r_nil ?_
    refine r_tn ?_
    refine r_cond rfl (fun hc => ?_) (fun hc => ?_)
    · refine r_seq ?_
      refine r_region ?_
      refine r_move rfl rfl ?_
      refine r_assign rfl rfl ?_
      refine r_nil ?_
      refine r_tn ?_
      refine r_ret ?_
      refine r_br ?_
      refine r_tr ?_
      refine r_tr ?_
      refine r_br ?_
      refine r_tr ?_
      have he : (chN k : Int) = r := of_decide_eq_true hc
      rw [valR_of hk2 he]
      exact r_done1 (.inl rfl) rfl (res_tmp rfl) fun w hw => ⟨rfl, hw.clear⟩
    · refine r_skip ?_
      refine r_bn ?_
      refine r_tn ?_
      refine r_region ?_
      refine r_add rfl rfl rfl (w64 (by omega)) ?_
      refine r_move rfl rfl ?_
      refine r_nil ?_
      refine r_tn ?_
      exact r_againN (k + 1) ⟨by omega, fun j hj2 => by
        by_cases e : j = k
        · subst e; exact of_decide_eq_false hc
        · exact hj j (by omega)⟩ (by omega) ⟨rfl, rfl, trivial⟩ (fun w hw => hw.clear)
  · refine r_exit ?_
    refine r_te ?_
    refine r_te ?_
    refine r_be ?_
    refine r_tn ?_
    refine r_seq ?_
    refine r_region ?_
    refine r_assign rfl rfl ?_
    refine r_nil ?_
    refine r_tn ?_
    refine r_ret ?_
    have hk3 : k = 16 := by have h := of_decide_eq_false hc; omega
    subst hk3
    rw [valR_none hj]
    exact r_done1 (.inl rfl) rfl (res_tmp rfl) fun w hw => ⟨rfl, hw.clear⟩

theorem color24 (P : Nat → Nat → Nat → Bool) (b2 : Nat) (x y : Int) (w : World) (h2 : Rd w (some ⟨b2, 0, none⟩) (planesL P)) :
    Calls Tryd.prog 25 #[.int .i64 x, .int .i64 y, .pointer (some ⟨b2, 0, none⟩)] w fun e w' => e = .returned (.int .i64 ((num (fun i => pixQ (P i) x y) 4 : Nat) : Int)) ∧ Sat w [] [] w' := by
  refine enter Tryd.func25 rfl rfl rfl ?_
  refine r_seq ?_
  refine r_region ?_
  refine r_assign rfl rfl ?_
  refine r_nil ?_
  refine r_tn ?_
  refine r_seq ?_
  refine r_region ?_
  refine r_assign rfl rfl ?_
  refine r_nil ?_
  refine r_tn ?_
  refine r_seq ?_
  refine r_seq ?_
  refine r_region ?_
  refine r_loadRd (vs := planesL P) rfl rfl rfl rfl (planesL_len P) (fun w hw => h2.keep hw) ?_
  refine r_move rfl rfl ?_
  refine r_nil ?_
  refine r_tn ?_
  refine r_block ?_
  refine r_loopN (fun k => [(0, .int .i64 x), (1, .int .i64 y), (6, .int .i64 ((num (fun i => pixQ (P i) x y) k : Nat) : Int)), (9, .agg (planesL P).toArray), (10, .int .i64 (k : Int))]) (fun k => []) (fun k => k ≤ 4) 4 0 (by omega) ⟨rfl, rfl, rfl, rfl, rfl, trivial⟩ (fun w hw => hw.clear) fun k hk => ?_
  refine r_seq ?_
  refine r_region ?_
  refine r_lss rfl rfl rfl rfl ?_
  refine r_nil ?_
  refine r_tn ?_
  refine r_seq ?_
  refine r_cond rfl (fun hc => ?_) (fun hc => ?_)
  · refine r_skip ?_
    refine r_tn ?_
    refine r_seq ?_
    refine r_block ?_
    refine r_seq ?_
    refine r_region ?_
    have hk2 : k < 4 := by have h := of_decide_eq_true hc; omega
    clear hc
    refine r_move rfl rfl ?_
    refine r_indexAgg (i' := k) (sz := 128) (vs := planeV (P k)) rfl rfl rfl rfl rfl rfl rfl hk2 (planesV_plane P hk2) ?_
    refine r_allocV (cs := planeV noneQ) (by kernel_rfl) rfl fun b8 => ?_
    refine r_assign rfl rfl ?_
    refine r_storeV rfl rfl rfl (planeV_size _) (planeV_size _) (planeV_one _) ?_
    refine r_nil ?_
    refine r_tn ?_
    refine r_seq ?_
    refine r_region ?_
    refine r_loadV rfl rfl rfl rfl (planeV_size _) ?_
    refine r_move rfl rfl ?_
    refine r_move rfl rfl ?_
    refine r_call rfl rfl rfl (by kernel_rfl) rfl (fun w hw => by exact pixel07 (P k) x y w) ?_
    refine r_nil ?_
    refine r_tn ?_
    refine r_cond rfl (fun hc => ?_) (fun hc => ?_)
    · refine r_region ?_
      refine r_move rfl rfl ?_
      refine r_move rfl rfl ?_
      refine r_shl (r := ((2 ^ k : Nat) : Int)) rfl rfl rfl (by omega) (shl4 _ hk2) ?_
      refine r_or (r := ((num (fun i => pixQ (P i) x y) k ||| 2 ^ k : Nat) : Int)) rfl rfl rfl (or4 _ (Nat.lt_of_lt_of_le (num_lt _ k) (Nat.pow_le_pow_right (by decide) (show k ≤ 4 by omega))) _ hk2) ?_
      refine r_assign rfl rfl ?_
      refine r_nil ?_
      refine r_bn ?_
      refine r_tn ?_
      refine r_region ?_
      refine r_add rfl rfl rfl (w64 (by omega)) ?_
      refine r_move rfl rfl ?_
      refine r_nil ?_
      refine r_tn ?_
      first
        | exact r_againN (k + 1) (by omega) (by omega) ⟨rfl, rfl, congrArg (fun z : Nat => some (Value.int .i64 (z : Int))) (col_yes hc), rfl, rfl, trivial⟩ (fun w hw => hw.clear)
        | exact r_againN (k + 1) (by omega) (by omega) ⟨rfl, rfl, congrArg (fun z : Nat => some (Value.int .i64 (z : Int))) (col_no hc), rfl, rfl, trivial⟩ (fun w hw => hw.clear)
    · refine r_skip ?_
      refine r_bn ?_
      refine r_tn ?_
      refine r_region ?_
      refine r_add rfl rfl rfl (w64 (by omega)) ?_
      refine r_move rfl rfl ?_
      refine r_nil ?_
      refine r_tn ?_
      first
        | exact r_againN (k + 1) (by omega) (by omega) ⟨rfl, rfl, congrArg (fun z : Nat => some (Value.int .i64 (z : Int))) (col_yes hc), rfl, rfl, trivial⟩ (fun w hw => hw.clear)
        | exact r_againN (k + 1) (by omega) (by omega) ⟨rfl, rfl, congrArg (fun z : Nat => some (Value.int .i64 (z : Int))) (col_no hc), rfl, rfl, trivial⟩ (fun w hw => hw.clear)
  · refine r_exit ?_
    refine r_te ?_
    refine r_te ?_
    refine r_be ?_
    refine r_tn ?_
    refine r_seq ?_
    refine r_region ?_
    refine r_move rfl rfl ?_
    refine r_assign rfl rfl ?_
    refine r_nil ?_
    refine r_tn ?_
    refine r_ret ?_
    have hk4 : k = 4 := by have h := of_decide_eq_false hc; omega
    subst hk4
    exact r_done1 (.inl rfl) rfl (res_tmp rfl) fun w hw => ⟨rfl, hw.clear⟩

theorem mappedRune24 (n : Nat) (f : Nat → Int) (gf : Nat) (cs : List Value) (hg : callable Tryd.prog gf = true) (hn : n ≤ 1000) (w : World) (hcall : ∀ k, k < n → ∀ w1, Sat w [] [] w1 → Calls Tryd.prog gf ([Value.int .i64 (k : Int)] ++ cs).toArray w1 fun e w2 => e = .returned (.int .i32 (f k)) ∧ Sat w1 [] [] w2) :
    Calls Tryd.prog 29 #[.int .i64 (n : Int), .func (.func gf) #[] cs.toArray] w fun e w' => ∃ i : Nat, e = .returned (.slice (some ⟨i, 0, none⟩) n n) ∧ True ∧ Sat w [] [.own 21 1 (.slice (some ⟨i, 0, none⟩) n n) n ((List.range n).map fun k => .int .i32 (f k))] w' := by
  refine enter Tryd.func29 rfl rfl rfl ?_
  refine r_seq ?_
  refine r_region ?_
  refine r_assign rfl rfl ?_
  refine r_nil ?_
  refine r_tn ?_
  refine r_seq ?_
  refine r_region ?_
  refine r_move rfl rfl ?_
  refine r_makeSlice (m := n) (sz := 1) (bytes := 4) rfl rfl rfl rfl rfl rfl rfl (by omega) (by unfold maxLen; omega) (made_one (.int .i32 0) n) (fun b8 => ?_)
  refine r_assign rfl rfl ?_
  refine r_nil ?_
  refine r_tn ?_
  refine r_seq ?_
  refine r_seq ?_
  refine r_region ?_
  refine r_move rfl rfl ?_
  refine r_len rfl rfl rfl ?_
  refine r_move rfl rfl ?_
  refine r_nil ?_
  refine r_tn ?_
  refine r_block ?_
  refine r_loopN (fun k => [(1, .func (.func gf) #[] cs.toArray), (5, .slice (some ⟨b8, 0, none⟩) n n), (10, .int .i64 (n : Int)), (11, .int .i64 (k : Int))]) (fun k => [.own 21 1 (.slice (some ⟨b8, 0, none⟩) n n) n (mapK (fun k => .int .i32 (f k)) (.int .i32 0) n k)]) (fun k => k ≤ n) n 0 (by omega) ⟨rfl, rfl, rfl, rfl, trivial⟩ (fun w hw => by rw [mapK_zero]; exact hw.sub) fun k hk => ?_
  refine r_seq ?_
  refine r_region ?_
  refine r_lss rfl rfl rfl rfl ?_
  refine r_nil ?_
  refine r_tn ?_
  refine r_seq ?_
  refine r_cond rfl (fun hc => ?_) (fun hc => ?_)
  · refine r_skip ?_
    refine r_tn ?_
    refine r_seq ?_
    refine r_block ?_
    refine r_seq ?_
    refine r_region ?_
    have hk2 : k < n := by have h := of_decide_eq_true hc; omega
    clear hc
    refine r_move rfl rfl ?_
    refine r_assign rfl rfl ?_
    refine r_nil ?_
    refine r_tn ?_
    refine r_region ?_
    refine r_move rfl rfl ?_
    refine r_move rfl rfl ?_
    refine r_move rfl rfl ?_
    refine r_move rfl rfl ?_
    refine r_call (cs := cs) rfl rfl rfl hg rfl (fun w1 hw => by exact hcall k hk2 w1 hw.clear) ?_
    refine r_indexSl (sz := 1) (o' := k) rfl rfl rfl rfl rfl (by omega) (by omega) (by simp) ?_
    refine r_storeOwn (m := n) (c := n) rfl rfl rfl rfl rfl (by omega) ?_
    refine r_nil ?_
    refine r_bn ?_
    refine r_tn ?_
    refine r_region ?_
    refine r_add rfl rfl rfl (w64 (by omega)) ?_
    refine r_move rfl rfl ?_
    refine r_nil ?_
    refine r_tn ?_
    exact r_againN (k + 1) (by omega) (by omega) ⟨rfl, rfl, rfl, rfl, trivial⟩ (fun w hw => by rw [mapK_succ hk2] at hw; exact hw.sub)
  · refine r_exit ?_
    refine r_te ?_
    refine r_te ?_
    refine r_be ?_
    refine r_tn ?_
    refine r_seq ?_
    refine r_region ?_
    have hk3 : k = n := by have h := of_decide_eq_false hc; omega
    subst hk3
    rw [mapK_all]
    refine r_move rfl rfl ?_
    refine r_assign rfl rfl ?_
    refine r_nil ?_
    refine r_tn ?_
    refine r_ret ?_
    exact r_done1 (.inl rfl) rfl (res_tmp rfl) fun w hw => ⟨b8, rfl, trivial, hw.sub⟩

theorem mappedStr24 (n : Nat) (f : Nat → ByteArray) (gf : Nat) (cs : List Value) (hg : callable Tryd.prog gf = true) (hn : n ≤ 1000) (w : World) (hcall : ∀ k, k < n → ∀ w1, Sat w [] [] w1 → Calls Tryd.prog gf ([Value.int .i64 (k : Int)] ++ cs).toArray w1 fun e w2 => e = .returned (.string (f k)) ∧ Sat w1 [] [] w2) :
    Calls Tryd.prog 27 #[.int .i64 (n : Int), .func (.func gf) #[] cs.toArray] w fun e w' => ∃ i : Nat, e = .returned (.slice (some ⟨i, 0, none⟩) n n) ∧ True ∧ Sat w [] [.own 9 1 (.slice (some ⟨i, 0, none⟩) n n) n ((List.range n).map fun k => .string (f k))] w' := by
  refine enter Tryd.func27 rfl rfl rfl ?_
  refine r_seq ?_
  refine r_region ?_
  refine r_assign rfl rfl ?_
  refine r_nil ?_
  refine r_tn ?_
  refine r_seq ?_
  refine r_region ?_
  refine r_move rfl rfl ?_
  refine r_makeSlice (m := n) (sz := 1) (bytes := 16) rfl rfl rfl rfl rfl rfl rfl (by omega) (by unfold maxLen; omega) (made_one (.string ByteArray.empty) n) (fun b8 => ?_)
  refine r_assign rfl rfl ?_
  refine r_nil ?_
  refine r_tn ?_
  refine r_seq ?_
  refine r_seq ?_
  refine r_region ?_
  refine r_move rfl rfl ?_
  refine r_len rfl rfl rfl ?_
  refine r_move rfl rfl ?_
  refine r_nil ?_
  refine r_tn ?_
  refine r_block ?_
  refine r_loopN (fun k => [(1, .func (.func gf) #[] cs.toArray), (5, .slice (some ⟨b8, 0, none⟩) n n), (10, .int .i64 (n : Int)), (11, .int .i64 (k : Int))]) (fun k => [.own 9 1 (.slice (some ⟨b8, 0, none⟩) n n) n (mapK (fun k => .string (f k)) (.string ByteArray.empty) n k)]) (fun k => k ≤ n) n 0 (by omega) ⟨rfl, rfl, rfl, rfl, trivial⟩ (fun w hw => by rw [mapK_zero]; exact hw.sub) fun k hk => ?_
  refine r_seq ?_
  refine r_region ?_
  refine r_lss rfl rfl rfl rfl ?_
  refine r_nil ?_
  refine r_tn ?_
  refine r_seq ?_
  refine r_cond rfl (fun hc => ?_) (fun hc => ?_)
  · refine r_skip ?_
    refine r_tn ?_
    refine r_seq ?_
    refine r_block ?_
    refine r_seq ?_
    refine r_region ?_
    have hk2 : k < n := by have h := of_decide_eq_true hc; omega
    clear hc
    refine r_move rfl rfl ?_
    refine r_assign rfl rfl ?_
    refine r_nil ?_
    refine r_tn ?_
    refine r_region ?_
    refine r_move rfl rfl ?_
    refine r_move rfl rfl ?_
    refine r_move rfl rfl ?_
    refine r_move rfl rfl ?_
    refine r_call (cs := cs) rfl rfl rfl hg rfl (fun w1 hw => by exact hcall k hk2 w1 hw.clear) ?_
    refine r_indexSl (sz := 1) (o' := k) rfl rfl rfl rfl rfl (by omega) (by omega) (by simp) ?_
    refine r_storeOwn (m := n) (c := n) rfl rfl rfl rfl rfl (by omega) ?_
    refine r_nil ?_
    refine r_bn ?_
    refine r_tn ?_
    refine r_region ?_
    refine r_add rfl rfl rfl (w64 (by omega)) ?_
    refine r_move rfl rfl ?_
    refine r_nil ?_
    refine r_tn ?_
    exact r_againN (k + 1) (by omega) (by omega) ⟨rfl, rfl, rfl, rfl, trivial⟩ (fun w hw => by rw [mapK_succ hk2] at hw; exact hw.sub)
  · refine r_exit ?_
    refine r_te ?_
    refine r_te ?_
    refine r_be ?_
    refine r_tn ?_
    refine r_seq ?_
    refine r_region ?_
    have hk3 : k = n := by have h := of_decide_eq_false hc; omega
    subst hk3
    rw [mapK_all]
    refine r_move rfl rfl ?_
    refine r_assign rfl rfl ?_
    refine r_nil ?_
    refine r_tn ?_
    refine r_ret ?_
    exact r_done1 (.inl rfl) rfl (res_tmp rfl) fun w hw => ⟨b8, rfl, trivial, hw.sub⟩

theorem lin21 (P : Nat → Nat → Nat → Bool) (b2 b7 b3 x y : Nat) (w : World) (h2 : Rd w (some ⟨b2, 0, none⟩) (planesL P)) (h7 : Rd w (some ⟨b7, 0, none⟩) [.func (.func 25) #[] #[.pointer (some ⟨b2, 0, none⟩)]]) (h3 : Rd w (some ⟨b3, 0, none⟩) [.int .i64 (y : Int)]) :
    Calls Tryd.prog 30 #[.int .i64 (x : Int), .pointer (some ⟨b7, 0, none⟩), .pointer (some ⟨b3, 0, none⟩)] w fun e w' => e = .returned (.int .i32 (chN (colN P x y) : Int)) ∧ Sat w [] [] w' := by
  refine enter Tryd.func30 rfl rfl rfl ?_
  refine r_seq ?_
  refine r_region ?_
  refine r_assign rfl rfl ?_
  refine r_nil ?_
  refine r_tn ?_
  refine r_seq ?_
  refine r_region ?_
  refine r_loadC (p := ⟨b7, 0, none⟩) (v := .func (.func 25) #[] #[.pointer (some ⟨b2, 0, none⟩)]) rfl rfl rfl (fun w hw => (h7.keep hw).cell (j := 0) rfl rfl) ?_
  refine r_move rfl rfl ?_
  refine r_loadC (p := ⟨b3, 0, none⟩) (v := .int .i64 (y : Int)) rfl rfl rfl (fun w hw => (h3.keep hw).cell (j := 0) rfl rfl) ?_
  refine r_call (v := .int .i64 ((colN P x y : Nat) : Int)) (cs := [.pointer (some ⟨b2, 0, none⟩)]) rfl rfl rfl (by kernel_rfl) rfl (fun w hw => by exact color24 P b2 x y w (h2.keep hw)) ?_
  refine r_call rfl rfl rfl (by kernel_rfl) rfl (fun w hw => by exact character24 (colN P x y) (num_lt _ 4) w) ?_
  refine r_assign rfl rfl ?_
  refine r_nil ?_
  refine r_tn ?_
  refine r_ret ?_
  exact r_done1 (.inl rfl) rfl (res_tmp rfl) fun w hw => ⟨rfl, hw.clear⟩

theorem lin2 (P : Nat → Nat → Nat → Bool) (hires : Bool) (b5 b7 b2 y : Nat) (w : World) (h5 : Rd w (some ⟨b5, 0, none⟩) [.int .i64 (wd hires : Nat)]) (h7 : Rd w (some ⟨b7, 0, none⟩) [.func (.func 25) #[] #[.pointer (some ⟨b2, 0, none⟩)]]) (h2 : Rd w (some ⟨b2, 0, none⟩) (planesL P)) :
    Calls Tryd.prog 28 #[.int .i64 (y : Int), .pointer (some ⟨b5, 0, none⟩), .pointer (some ⟨b7, 0, none⟩)] w fun e w' => e = .returned (.string (tx (lineB P hires y))) ∧ Sat w [] [] w' := by
  refine enter Tryd.func28 rfl rfl rfl ?_
  refine r_seq ?_
  refine r_region ?_
  refine r_box1 rfl rfl rfl fun b3 => ?_
  refine r_assign rfl rfl ?_
  refine r_nil ?_
  refine r_tn ?_
  refine r_seq ?_
  refine r_region ?_
  refine r_loadC (p := ⟨b5, 0, none⟩) (v := .int .i64 (wd hires : Nat)) rfl rfl rfl (fun w hw => (h5.keep hw).cell (j := 0) rfl rfl) ?_
  refine r_makeFunc rfl rfl rfl ?_
  refine r_callx rfl rfl rfl (by kernel_rfl) rfl (fun w hw => by exact mappedRune24 (wd hires) (fun x => (chN (colN P x y) : Int)) 30 [.pointer (some ⟨b7, 0, none⟩), .pointer (some ⟨b3, 0, none⟩)] (by kernel_rfl) (by cases hires <;> decide) w (fun k hk w1 hw1 => lin21 P b2 b7 b3 k y w1 ((h2.keep hw).keep hw1) ((h7.keep hw).keep hw1) ((Rd.blk (hw.look (HasBlk.pick (b := b3))) (fun j u h => by rw [Nat.zero_add]; exact Array.getElem?_toList.symm.trans h)).keep hw1))) ?_
  rintro b7_ _
  refine r_runesStr (l := (List.range (wd hires)).map fun x => (chN (colN P x y) : Int)) (m := wd hires) rfl rfl rfl rfl rfl (by simp) (by cases hires <;> decide) (fun w hw => by have h := own_rd (A := some ⟨b7_, 0, none⟩) (m := wd hires) (c := wd hires) hw; rw [List.map_map]; exact h) ?_
  rw [line_tx]
  refine r_assign rfl rfl ?_
  refine r_nil ?_
  refine r_tn ?_
  refine r_ret ?_
  exact r_done1 (.inl rfl) rfl (res_tmp rfl) fun w hw => ⟨rfl, hw.clear⟩

theorem lines24 (P : Nat → Nat → Nat → Bool) (hires : Bool) (w : World) :
    Calls Tryd.prog 10 #[.agg (planesV P), .bool hires] w fun e w' => ∃ i : Nat, e = .returned (.slice (some ⟨i, 0, none⟩) (ht hires) (ht hires)) ∧ True ∧ Sat w [] [.own 9 1 (.slice (some ⟨i, 0, none⟩) (ht hires) (ht hires)) (ht hires) ((List.range (ht hires)).map fun y => .string (tx (lineB P hires y)))] w' := by
  refine enter Tryd.func10 rfl rfl rfl ?_
  refine r_seq ?_
  refine r_region ?_
  refine r_boxV rfl rfl fun b2 => ?_
  refine r_assign rfl rfl ?_
  refine r_nil ?_
  refine r_tn ?_
  refine r_seq ?_
  refine r_region ?_
  refine r_move rfl rfl ?_
  refine r_call rfl rfl rfl (by kernel_rfl) rfl (fun w hw => by exact size07 hires w) ?_
  refine r_move rfl rfl ?_
  refine r_extract rfl rfl rfl ?_
  refine r_extract rfl rfl rfl ?_
  refine r_alloc rfl rfl fun b5 => ?_
  refine r_store (m := 1) (cs' := #[.int .i64 (wd hires : Nat)]) rfl rfl rfl rfl (Nat.le_of_ble_eq_true rfl) rfl rfl ?_
  refine r_assign rfl rfl ?_
  refine r_nil ?_
  refine r_tn ?_
  refine r_seq ?_
  refine r_region ?_
  refine r_makeFunc rfl rfl rfl ?_
  refine r_alloc rfl rfl fun b7 => ?_
  refine r_store (m := 1) (cs' := #[.func (.func 25) #[] #[.pointer (some ⟨b2, 0, none⟩)]]) rfl rfl rfl rfl (Nat.le_of_ble_eq_true rfl) rfl rfl ?_
  refine r_nil ?_
  refine r_tn ?_
  refine r_seq ?_
  refine r_region ?_
  refine r_move rfl rfl ?_
  refine r_makeFunc rfl rfl rfl ?_
  refine r_callx rfl rfl rfl (by kernel_rfl) rfl (fun w hw => by exact mappedStr24 (ht hires) (fun y => tx (lineB P hires y)) 28 [.pointer (some ⟨b5, 0, none⟩), .pointer (some ⟨b7, 0, none⟩)] (by kernel_rfl) (by cases hires <;> decide) w (fun k hk w1 hw1 => lin2 P hires b5 b7 b2 k w1 ((Rd.blk (hw.look (HasBlk.pick (b := b5))) (fun j u h => by rw [Nat.zero_add]; exact Array.getElem?_toList.symm.trans h)).keep hw1) ((Rd.blk (hw.look (HasBlk.pick (b := b7))) (fun j u h => by rw [Nat.zero_add]; exact Array.getElem?_toList.symm.trans h)).keep hw1) ((Rd.blk (hw.look (HasBlk.pick (b := b2))) (fun j u h => by rw [Nat.zero_add]; exact Array.getElem?_toList.symm.trans h)).keep hw1))) ?_
  rintro b16 _
  refine r_assign rfl rfl ?_
  refine r_nil ?_
  refine r_tn ?_
  refine r_ret ?_
  exact r_done1 (.inl rfl) rfl (res_tmp rfl) fun w hw => ⟨b16, rfl, trivial, hw.sub⟩
end Go.Proofs.YtdkgnnieehidbaaDoor
