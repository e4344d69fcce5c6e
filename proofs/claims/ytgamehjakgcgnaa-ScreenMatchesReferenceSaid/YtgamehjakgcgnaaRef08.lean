/-
  Screens (chapter 08): On, Mod, Fill, Need, Per of the reference.
-/
import Derived.Test.YtgamehjakgcgnaaDraw08
namespace Go.Proofs.Ytgamehjakgcgnaa
open Go Go.RowKit
set_option linter.unusedVariables false
set_option linter.unusedSimpArgs false
set_option maxHeartbeats 2000000
set_option maxRecDepth 4000
attribute [local irreducible] mix

theorem modp {a : Int} {m : Nat} (hm : m = 16 ∨ m = 33 ∨ m = 256) (h : 0 ≤ a.tmod (m : Int)) : a.tmod (m : Int) = a % (m : Int) := by
  rw [Int.tmod_eq_emod] at h ⊢
  rcases hm with rfl | rfl | rfl <;> split at h <;> first | (split <;> omega) | omega
theorem modw {a : Int} {m : Nat} (hm : m = 16 ∨ m = 33 ∨ m = 256) (h : a.tmod (m : Int) < 0) : a.tmod (m : Int) + (m : Int) = a % (m : Int) := by
  rw [Int.tmod_eq_emod] at h ⊢
  rcases hm with rfl | rfl | rfl <;> split at h <;> first | (split <;> omega) | omega
theorem modb {a : Int} {m : Nat} (hm : m = 16 ∨ m = 33 ∨ m = 256) : -9223372036854775808 ≤ a % (m : Int) ∧ a % (m : Int) ≤ 9223372036854775807 := by
  rcases hm with rfl | rfl | rfl <;> omega
theorem made_bytes8 (n : Nat) : (madeCells #[Value.int .u8 0] (n * 1)).toList = List.replicate n (.int .u8 0) := by
  unfold madeCells
  rw [Array.toList_map, Array.toList_range, Nat.mul_one]
  apply List.ext_getElem?
  intro i
  rw [List.getElem?_map, List.getElem?_replicate]
  by_cases h : i < n
  · rw [List.getElem?_range h, if_pos h]
    show some ((#[Value.int .u8 0] : Array Value)[i % 1]!) = _
    rw [Nat.mod_one]
    rfl
  · rw [if_neg h, List.getElem?_eq_none (by rw [List.length_range]; omega)]
    rfl
/-- bytes, repeated or cut off to a length -/
def fillK (d : List Int) (n k : Nat) : List Int := (List.range n).map fun i => if i < k then d.getD (i % d.length) 0 else 0
def fillL (d : List Int) (n : Nat) : List Int := (List.range n).map fun i => d.getD (i % d.length) 0
theorem fillL_len (d : List Int) (n : Nat) : (fillL d n).length = n := by simp [fillL]
theorem fillK_zero (d : List Int) (n : Nat) : fillK d n 0 = List.replicate n 0 := by
  unfold fillK
  apply List.ext_getElem?
  intro i
  rw [List.getElem?_map, List.getElem?_replicate]
  by_cases h : i < n
  · rw [List.getElem?_range h, if_pos h]; simp
  · rw [if_neg h, List.getElem?_eq_none (by rw [List.length_range]; omega)]; rfl
theorem fillK_succ {d : List Int} {n k : Nat} {z : Int} (hk : k < n) (hz : d.getD (k % d.length) 0 = z) : fillK d n (k + 1) = (fillK d n k).set k z := by
  unfold fillK
  apply List.ext_getElem?
  intro i
  rw [List.getElem?_set, List.length_map, List.length_range]
  by_cases hi : i < n
  · rw [List.getElem?_map, List.getElem?_map, List.getElem?_range hi]
    by_cases he : k = i
    · subst he
      rw [if_pos rfl, if_pos hi, ← hz]
      simp
    · rw [if_neg he]
      by_cases hl : i < k
      · simp [hl, show i < k + 1 by omega]
      · simp [hl, show ¬ i < k + 1 by omega]
  · rw [List.getElem?_eq_none (by simp; omega), if_neg (by omega), List.getElem?_eq_none (by simp; omega)]
theorem fillK_all (d : List Int) (n : Nat) : fillK d n n = fillL d n := by
  unfold fillK fillL
  refine List.map_congr_left fun i hi => ?_
  rw [if_pos (List.mem_range.1 hi)]
theorem fillK_nil (n k : Nat) : fillK [] n k = fillL [] n := by
  unfold fillK fillL
  refine List.map_congr_left fun i hi => ?_
  split <;> rfl
theorem fillL_bytes {d : List Int} (h : ∀ z ∈ d, 0 ≤ z ∧ z ≤ 255) (n : Nat) : ∀ z ∈ fillL d n, 0 ≤ z ∧ z ≤ 255 := by
  intro z hz
  obtain ⟨i, _, rfl⟩ := List.mem_map.1 hz
  by_cases hl : i % d.length < d.length
  · have e : d.getD (i % d.length) 0 = d[i % d.length] := by simp [List.getD, hl]
    rw [e]
    exact h _ (List.getElem_mem hl)
  · have e : d.getD (i % d.length) 0 = 0 := by simp [List.getD, hl]
    rw [e]; omega
attribute [local irreducible] fillK


theorem on08 (m j : Nat) (hm : m < 16) (hj : j ≤ 4) (w : World) :
    Calls Try.prog 16 #[.int .i64 (m : Int), .int .i64 (j : Int)] w fun e w' => e = .returned (.bool (m.testBit j)) ∧ Sat w [] [] w' := by
  refine enter Try.func16 rfl rfl rfl ?_
  refine r_seq ?_
  refine r_region ?_
  refine r_assign rfl rfl ?_
  refine r_nil ?_
  refine r_tn ?_
  refine r_seq ?_
  refine r_seq ?_
  refine r_region ?_
  refine r_assign rfl rfl ?_
  refine r_nil ?_
  refine r_tn ?_
  refine r_block ?_
  refine r_loopN (fun k => [(0, .int .i64 ((m / 2 ^ k : Nat) : Int)), (1, .int .i64 (j : Int)), (5, .int .i64 (k : Int))]) (fun k => []) (fun k => k ≤ j) j 0 (by omega) ⟨by rw [Nat.pow_zero, Nat.div_one]; rfl, rfl, rfl, trivial⟩ (fun w hw => hw.sub) fun k hk => ?_
  refine r_seq ?_
  refine r_seq ?_
  refine r_region ?_
  refine r_move rfl rfl ?_
  refine r_move rfl rfl ?_
  refine r_lss rfl rfl rfl rfl ?_
  refine r_nil ?_
  refine r_tn ?_
  refine r_cond rfl (fun hc => ?_) (fun hc => ?_)
  · refine r_skip ?_
    refine r_tn ?_
    refine r_seq ?_
    refine r_block ?_
    refine r_region ?_
    refine r_move rfl rfl ?_
    have hk2 : k < j := by have h := of_decide_eq_true hc; omega
    clear hc
    have hmk : m / 2 ^ k < 16 := Nat.lt_of_le_of_lt (Nat.div_le_self _ _) hm
    refine r_quo (r := ((m / 2 ^ (k + 1) : Nat) : Int)) rfl rfl rfl (by decide) (by rw [Nat.pow_succ, ← Nat.div_div_eq_div_mul]; generalize m / 2 ^ k = q at hmk ⊢; rw [show ((q : Nat) : Int).tdiv 2 = ((q / 2 : Nat) : Int) from rfl]; exact w64 (by omega)) ?_
    refine r_assign rfl rfl ?_
    refine r_nil ?_
    refine r_bn ?_
    refine r_tn ?_
    refine r_region ?_
    refine r_move rfl rfl ?_
    refine r_add rfl rfl rfl (w64 (by omega)) ?_
    refine r_assign rfl rfl ?_
    refine r_nil ?_
    refine r_tn ?_
    exact r_againN (k + 1) (by omega) (by omega) ⟨rfl, rfl, rfl, trivial⟩ (fun w hw => hw.sub)
  · refine r_exit ?_
    refine r_te ?_
    refine r_te ?_
    refine r_be ?_
    refine r_tn ?_
    refine r_seq ?_
    refine r_region ?_
    have hk3 : k = j := by have h := of_decide_eq_false hc; omega
    subst hk3
    have hmk : m / 2 ^ k < 16 := Nat.lt_of_le_of_lt (Nat.div_le_self _ _) hm
    refine r_move rfl rfl ?_
    refine r_rem (r := ((m / 2 ^ k % 2 : Nat) : Int)) rfl rfl rfl (by decide) rfl ?_
    refine r_eql (p := m.testBit k) rfl rfl rfl (by rw [Nat.testBit_eq_decide_div_mod_eq]; exact decide_eq_decide.2 ⟨fun h => by omega, fun h => by omega⟩) ?_
    refine r_assign rfl rfl ?_
    refine r_nil ?_
    refine r_tn ?_
    refine r_ret ?_
    exact r_done1 (.inl rfl) rfl (res_tmp rfl) fun w hw => ⟨rfl, hw.clear⟩

theorem mod08 (a : Int) (m : Nat) (hm : m = 16 ∨ m = 33 ∨ m = 256) (w : World) :
    Calls Try.prog 17 #[.int .i64 a, .int .i64 (m : Int)] w fun e w' => e = .returned (.int .i64 (a % (m : Int))) ∧ Sat w [] [] w' := by
  refine enter Try.func17 rfl rfl rfl ?_
  refine r_seq ?_
  refine r_region ?_
  refine r_assign rfl rfl ?_
  refine r_nil ?_
  refine r_tn ?_
  refine r_seq ?_
  refine r_region ?_
  refine r_move rfl rfl ?_
  refine r_move rfl rfl ?_
  refine r_rem (r := a.tmod (m : Int)) rfl rfl rfl (by omega) rfl ?_
  refine r_assign rfl rfl ?_
  refine r_nil ?_
  refine r_tn ?_
  refine r_seq ?_
  refine r_seq ?_
  refine r_region ?_
  refine r_move rfl rfl ?_
  refine r_lss rfl rfl rfl rfl ?_
  refine r_nil ?_
  refine r_tn ?_
  refine r_cond rfl (fun hc => ?_) (fun hc => ?_)
  · refine r_seq ?_
    refine r_region ?_
    refine r_move rfl rfl ?_
    refine r_move rfl rfl ?_
    refine r_add (r := a % (m : Int)) rfl rfl rfl ?_ ?_
    · have h := of_decide_eq_true hc
      rw [← modw hm h]
      exact w64 (by rw [modw hm h]; exact modb hm)
    refine r_assign rfl rfl ?_
    refine r_nil ?_
    refine r_tn ?_
    refine r_ret ?_
    refine r_tr ?_
    exact r_done1 (.inl rfl) rfl (res_tmp rfl) fun w hw => ⟨rfl, hw.clear⟩
  · refine r_skip ?_
    refine r_tn ?_
    refine r_seq ?_
    refine r_region ?_
    rw [modp hm (by have h := of_decide_eq_false hc; omega)]
    refine r_move rfl rfl ?_
    refine r_assign rfl rfl ?_
    refine r_nil ?_
    refine r_tn ?_
    refine r_ret ?_
    exact r_done1 (.inl rfl) rfl (res_tmp rfl) fun w hw => ⟨rfl, hw.clear⟩

theorem refPer08 (n : Int) (big : Bool) (w : World) :
    Calls Try.prog 21 #[.int .i64 n, .bool big] w fun e w' => e = .returned (.int .i64 (if big then 32 else n)) ∧ Sat w [] [] w' := by
  refine enter Try.func21 rfl rfl rfl ?_
  refine r_seq ?_
  refine r_region ?_
  refine r_assign rfl rfl ?_
  refine r_nil ?_
  refine r_tn ?_
  refine r_seq ?_
  refine r_seq ?_
  refine r_region ?_
  refine r_move rfl rfl ?_
  refine r_nil ?_
  refine r_tn ?_
  refine r_cond rfl (fun hc => ?_) (fun hc => ?_)
  · refine r_seq ?_
    refine r_region ?_
    refine r_assign rfl rfl ?_
    refine r_nil ?_
    refine r_tn ?_
    refine r_ret ?_
    refine r_tr ?_
    have hb : big = true := hc
    subst hb
    exact r_done1 (.inl rfl) rfl (res_tmp rfl) fun w hw => ⟨rfl, hw.clear⟩
  · refine r_skip ?_
    refine r_tn ?_
    refine r_seq ?_
    refine r_region ?_
    refine r_move rfl rfl ?_
    refine r_assign rfl rfl ?_
    refine r_nil ?_
    refine r_tn ?_
    refine r_ret ?_
    have hb : big = false := hc
    subst hb
    exact r_done1 (.inl rfl) rfl (res_tmp rfl) fun w hw => ⟨rfl, hw.clear⟩

theorem refNeed08 (m n : Nat) (hm : m < 16) (hn : n ≤ 32) (big : Bool) (w : World) :
    Calls Try.prog 19 #[.int .i64 (m : Int), .int .i64 (n : Int), .bool big] w fun e w' => e = .returned (.int .i64 (((sel m).length * perN n big : Nat) : Int)) ∧ Sat w [] [] w' := by
  refine enter Try.func19 rfl rfl rfl ?_
  refine r_seq ?_
  refine r_region ?_
  refine r_assign rfl rfl ?_
  refine r_nil ?_
  refine r_tn ?_
  refine r_seq ?_
  refine r_region ?_
  refine r_assign rfl rfl ?_
  refine r_nil ?_
  refine r_tn ?_
  refine r_seq ?_
  refine r_seq ?_
  refine r_region ?_
  refine r_assign rfl rfl ?_
  refine r_nil ?_
  refine r_tn ?_
  refine r_block ?_
  refine r_loopN (fun k => [(0, .int .i64 (m : Int)), (1, .int .i64 (n : Int)), (2, .bool big), (7, .int .i64 (((selK m k).length * perN n big : Nat) : Int)), (8, .int .i64 (k : Int))]) (fun k => []) (fun k => k ≤ 4) 4 0 (by omega) ⟨rfl, rfl, rfl, by rw [show (selK m 0).length * perN n big = 0 from Nat.zero_mul _]; rfl, rfl, trivial⟩ (fun w hw => hw.sub) fun k hk => ?_
  refine r_seq ?_
  refine r_seq ?_
  refine r_region ?_
  refine r_move rfl rfl ?_
  refine r_lss rfl rfl rfl rfl ?_
  refine r_nil ?_
  refine r_tn ?_
  refine r_cond rfl (fun hc => ?_) (fun hc => ?_)
  · refine r_skip ?_
    refine r_tn ?_
    refine r_seq ?_
    refine r_block ?_
    refine r_seq ?_
    refine r_region ?_
    have hk2 : k < 4 := by have h := of_decide_eq_true hc; omega
    clear hc
    have hs4 := selK_len m k
    have hpn2 := perN_le hn big
    have hpn : (selK m k).length * perN n big ≤ 4 * 32 := Nat.mul_le_mul (by omega) hpn2
    refine r_move rfl rfl ?_
    refine r_move rfl rfl ?_
    refine r_call rfl rfl rfl (by kernel_rfl) rfl (fun w hw => by exact on08 m k hm (by omega) w) ?_
    refine r_nil ?_
    refine r_tn ?_
    refine r_cond rfl (fun hc => ?_) (fun hc => ?_)
    · refine r_region ?_
      have hb15 : m.testBit k = true := hc
      clear hc
      refine r_move rfl rfl ?_
      refine r_move rfl rfl ?_
      refine r_move rfl rfl ?_
      refine r_call rfl rfl rfl (by kernel_rfl) rfl (fun w hw => by exact refPer08 (n : Int) big w) ?_
      refine r_add (r := (((selK m k).length * perN n big + perN n big : Nat) : Int)) rfl rfl rfl (by rw [per_cast]; exact (w64 (by omega)).trans (by omega)) ?_
      refine r_assign rfl rfl ?_
      refine r_nil ?_
      refine r_bn ?_
      refine r_tn ?_
      refine r_region ?_
      refine r_move rfl rfl ?_
      refine r_add rfl rfl rfl (w64 (by omega)) ?_
      refine r_assign rfl rfl ?_
      refine r_nil ?_
      refine r_tn ?_
      first | exact r_againN (k + 1) (by omega) (by omega) ⟨rfl, rfl, rfl, by rw [selK_yes hk2 hb15, List.length_append, show ((selK m k).length + [(⟨k, hk2⟩ : Fin 4)].length) * perN n big = (selK m k).length * perN n big + perN n big from Nat.succ_mul _ _]; rfl, rfl, trivial⟩ (fun w hw => hw.sub) | exact r_againN (k + 1) (by omega) (by omega) ⟨rfl, rfl, rfl, by rw [selK_no hk2 hc]; rfl, rfl, trivial⟩ (fun w hw => hw.sub)
    · refine r_skip ?_
      refine r_bn ?_
      refine r_tn ?_
      refine r_region ?_
      refine r_move rfl rfl ?_
      refine r_add rfl rfl rfl (w64 (by omega)) ?_
      refine r_assign rfl rfl ?_
      refine r_nil ?_
      refine r_tn ?_
      first | exact r_againN (k + 1) (by omega) (by omega) ⟨rfl, rfl, rfl, by rw [selK_yes hk2 hb15, List.length_append, show ((selK m k).length + [(⟨k, hk2⟩ : Fin 4)].length) * perN n big = (selK m k).length * perN n big + perN n big from Nat.succ_mul _ _]; rfl, rfl, trivial⟩ (fun w hw => hw.sub) | exact r_againN (k + 1) (by omega) (by omega) ⟨rfl, rfl, rfl, by rw [selK_no hk2 hc]; rfl, rfl, trivial⟩ (fun w hw => hw.sub)
  · refine r_exit ?_
    refine r_te ?_
    refine r_te ?_
    refine r_be ?_
    refine r_tn ?_
    refine r_seq ?_
    refine r_region ?_
    have hk3 : k = 4 := by have h := of_decide_eq_false hc; omega
    subst hk3
    refine r_move rfl rfl ?_
    refine r_assign rfl rfl ?_
    refine r_nil ?_
    refine r_tn ?_
    refine r_ret ?_
    exact r_done1 (.inl rfl) rfl (res_tmp rfl) fun w hw => ⟨rfl, hw.clear⟩

theorem fill08 (d : List Int) (n : Nat) (A : Option Addr) (c : Nat) (hn : n ≤ 1000000) (w : World) (hR : Rd w A (d.map (Value.int .u8))) :
    Calls Try.prog 18 #[.slice A d.length c, .int .i64 (n : Int)] w fun e w' => ∃ i : Nat, e = .returned (.slice (some ⟨i, 0, none⟩) n n) ∧ True ∧ Sat w [] [.own 5 1 (.slice (some ⟨i, 0, none⟩) n n) n ((fillL d n).map (Value.int .u8))] w' := by
  refine enter Try.func18 rfl rfl rfl ?_
  refine r_seq ?_
  refine r_region ?_
  refine r_assign rfl rfl ?_
  refine r_nil ?_
  refine r_tn ?_
  refine r_seq ?_
  refine r_region ?_
  refine r_move rfl rfl ?_
  refine r_makeSlice (m := n) (sz := 1) (bytes := 1) rfl rfl rfl rfl rfl rfl rfl (by omega) (by unfold maxLen; omega) (made_bytes8 n) (fun b8 => ?_)
  refine r_assign rfl rfl ?_
  refine r_nil ?_
  refine r_tn ?_
  refine r_seq ?_
  refine r_seq ?_
  refine r_region ?_
  refine r_assign rfl rfl ?_
  refine r_nil ?_
  refine r_tn ?_
  refine r_block ?_
  refine r_loopN (fun k => [(0, .slice A d.length c), (1, .int .i64 (n : Int)), (5, .slice (some ⟨b8, 0, none⟩) n n), (6, .int .i64 (k : Int))]) (fun k => [.own 5 1 (.slice (some ⟨b8, 0, none⟩) n n) n ((fillK d n k).map (Value.int .u8))]) (fun k => k ≤ n) n 0 (by omega) ⟨rfl, rfl, rfl, rfl, trivial⟩ (fun w hw => by rw [fillK_zero, List.map_replicate]; exact hw.sub) fun k hk => ?_
  refine r_seq ?_
  refine r_seq ?_
  refine r_region ?_
  refine r_move rfl rfl ?_
  refine r_move rfl rfl ?_
  refine r_lss rfl rfl rfl rfl ?_
  refine r_move rfl rfl ?_
  refine r_split 12 rfl (fun hb12 => ?_) (fun hb12 => ?_)
  · refine r_go rfl rfl ?_
    refine r_move rfl rfl ?_
    refine r_go rfl rfl ?_
    refine r_len rfl rfl rfl ?_
    refine r_go rfl rfl ?_
    refine r_gtr (p := decide (0 < d.length)) rfl rfl rfl (decide_eq_decide.2 ⟨fun _ => by omega, fun _ => by omega⟩) ?_
    refine r_pick_t rfl rfl rfl ?_
    refine r_nil ?_
    refine r_tn ?_
    refine r_cond rfl (fun hc => ?_) (fun hc => ?_)
    · refine r_skip ?_
      refine r_tn ?_
      refine r_seq ?_
      refine r_block ?_
      refine r_region ?_
      have hk2 : k < n := by have h := of_decide_eq_true hb12; omega
      have hd0 : 0 < d.length := of_decide_eq_true hc
      clear hc
      obtain ⟨j, hj⟩ : ∃ j, k % d.length = j := ⟨_, rfl⟩
      have hjl : j < d.length := by rw [← hj]; exact Nat.mod_lt _ hd0
      obtain ⟨ba, oa, rfl, hca⟩ := hR j _ (by rw [List.getElem?_map, List.getElem?_eq_getElem hjl]; rfl)
      have hdl : d.getD (k % d.length) 0 = d[j] := by rw [hj]; simp [List.getD, hjl]
      refine r_move rfl rfl ?_
      refine r_move rfl rfl ?_
      refine r_move rfl rfl ?_
      refine r_move rfl rfl ?_
      refine r_move rfl rfl ?_
      refine r_len rfl rfl rfl ?_
      refine r_rem (r := (j : Int)) rfl rfl rfl (by omega) (by rw [← hj]; rfl) ?_
      refine r_indexSl (sz := 1) (o' := oa + j) rfl rfl rfl rfl rfl (by omega) (by omega) (by simp) ?_
      refine r_loadC (p := ⟨ba, oa + j, none⟩) (v := .int .u8 d[j]) rfl rfl rfl (fun w hw => (hR.keep hw).cell (by rw [List.getElem?_map, List.getElem?_eq_getElem hjl]; rfl) rfl) ?_
      refine r_indexSl (sz := 1) (o' := k) rfl rfl rfl rfl rfl (by omega) (by omega) (by simp) ?_
      refine r_storeOwn (m := n) (c := n) rfl rfl rfl rfl rfl (by omega) ?_
      rw [show ((fillK d n k).map (Value.int .u8)).set k (.int .u8 d[j]) = ((fillK d n k).set k d[j]).map (Value.int .u8) by rw [List.map_set]]
      refine r_nil ?_
      refine r_bn ?_
      refine r_tn ?_
      refine r_region ?_
      refine r_move rfl rfl ?_
      refine r_add rfl rfl rfl (w64 (by omega)) ?_
      refine r_assign rfl rfl ?_
      refine r_nil ?_
      refine r_tn ?_
      exact r_againN (k + 1) (by omega) (by omega) ⟨rfl, rfl, rfl, rfl, trivial⟩ (fun w hw => by rw [fillK_succ hk2 hdl]; exact hw.sub)
    · refine r_exit ?_
      refine r_te ?_
      refine r_te ?_
      refine r_be ?_
      refine r_tn ?_
      refine r_seq ?_
      refine r_region ?_
      refine r_move rfl rfl ?_
      refine r_assign rfl rfl ?_
      refine r_nil ?_
      refine r_tn ?_
      refine r_ret ?_
      have hd0 : d = [] := List.length_eq_zero_iff.1 (by have h := of_decide_eq_false hc; omega)
      subst hd0
      rw [fillK_nil]
      exact r_done1 (.inl rfl) rfl (res_tmp rfl) fun w hw => ⟨b8, rfl, trivial, hw.sub⟩
  · refine r_pass rfl rfl rfl rfl ?_
    refine r_pass rfl rfl rfl rfl ?_
    refine r_pass rfl rfl rfl rfl ?_
    refine r_pick_f rfl rfl rfl ?_
    refine r_nil ?_
    refine r_tn ?_
    refine r_cond_f rfl ?_
    refine r_exit ?_
    refine r_te ?_
    refine r_te ?_
    refine r_be ?_
    refine r_tn ?_
    refine r_seq ?_
    refine r_region ?_
    refine r_move rfl rfl ?_
    refine r_assign rfl rfl ?_
    refine r_nil ?_
    refine r_tn ?_
    refine r_ret ?_
    have hk3 : k = n := by have h := of_decide_eq_false hb12; omega
    subst hk3
    rw [fillK_all]
    exact r_done1 (.inl rfl) rfl (res_tmp rfl) fun w hw => ⟨b8, rfl, trivial, hw.sub⟩
end Go.Proofs.Ytgamehjakgcgnaa
