/-
  Rendering (chapter 24): slices.Grow, slices.Concat.
-/
import Derived.Test.YtdkgnnieehidbaaDoorStatus24
namespace Go.Proofs.YtdkgnnieehidbaaDoor
open Go Go.RowKit
set_option linter.unusedVariables false
set_option linter.unusedSimpArgs false
set_option maxHeartbeats 2000000
set_option maxRecDepth 4000
attribute [local irreducible] mix

section
variable {P : Program} {n : Nat} {w0 : World} {S : List Nat} {E : List (Nat × Value)} {H G : List Res} {Q : Exit → Act → World → Prop}
variable {dr : Option Dr} {ops : Array Oper} {K : Act → World → Prop} {rest : List Oper} {d : Nat} {ty : TypeId} {pos : String} {after : Array Edge} {x y : Operand}
theorem r_cap {t e : TypeId} {A : Option Addr} {l c : Nat} (hd : Nat.blt d n = true) (hx : ev E x = some (.slice A l c)) (ht : P.underlying t = some (.slice e))
    (hk : Run n w0 S ((d, .int .i64 c) :: E) H (mix P none ops K rest)) :
    Run n w0 S E H (mix P none ops K (⟨some d, .call { callee := .builtin .cap, args := #[x], argTypes := #[t] }, ty, pos, after, none⟩ :: rest)) :=
  r_act (X := []) rfl True.intro fun a w ha hw => by
    have h := hk _ _ (ha.put hd (.int .i64 c)) hw
    simp [execOp, resolve, invoke, builtin, ha.ev hx, Builtin.cap_, run_underlying ht, goInt, Sem.run_bind, actUpon]
    exact ⟨⟨Nat.le_refl _, fun k hk hX => rfl⟩, h⟩
theorem run_append_make (w : World) (t ti ty e : TypeId) (i : TypeInfo) (z : Value) (k : IntKind) (ht : P.underlying t = some (.slice e)) (hti : P.underlying ti = some (.int k)) (hi : P.info? e = some i) (hz : i.zero = some z) (hzs : z.cells.size = 1) (hs : i.size = 1)
    (m : Nat) (h0 : 0 < m) (h63 : m ≤ 9223372036854775807) (h48 : m * i.bytes ≤ 281474976710656) :
    (Builtin.append_ #[t, ti] ty #[.slice none 0 0, .int k (m : Int)]).run P w =
      .ok (.slice (some ⟨w.heap.size, 0, none⟩) m (grownCap w m 0 e)) (w.drew.alloc (.cells (Builtin.zeroCells z.cells m ++ Builtin.zeroCells z.cells (grownCap w m 0 e - m)) e)) := by
  have hn : m ≠ 0 := by omega
  have h63' : ¬ (9223372036854775807 < (m : Int)) := by omega
  have hw : IntKind.i64.wrap (m : Int) = (m : Int) := w64 (by omega)
  have h2 : ¬ ((m : Int) * (i.bytes : Int) > 2 ^ 48) := by
    rw [show ((2 : Int) ^ 48) = 281474976710656 from rfl]
    have : ((m * i.bytes : Nat) : Int) ≤ 281474976710656 := by omega
    rw [Int.natCast_mul] at this
    omega
  have h48' : ¬ (281474976710656 < Builtin.nextslicecap m 0 * i.bytes) := by rw [nextslicecap_zero h0]; omega
  have hneg : ¬ ((m : Int) < 0) := by omega
  have h2' : ¬ (281474976710656 < (m : Int) * (i.bytes : Int)) := by
    have : ((m * i.bytes : Nat) : Int) ≤ 281474976710656 := by omega
    rw [Int.natCast_mul] at this
    omega
  simp [Builtin.append_, run_underlying ht, run_underlying hti, sizeOf, typeInfo, zeroValue, hi, hz, hs, asInt, asIntOf, hw, hn, h63', h48', hneg, h2', Question.forced, run_firstCells_none, newRow, grownCap]
theorem r_appendMake {t ti e : TypeId} {bytes m : Nat} {z : Value} {k : IntKind} {i : Int} (hd : Nat.blt d n = true) (hx : ev E x = some (.slice none 0 0)) (hy : ev E y = some (.int k i)) (ht : P.underlying t = some (.slice e)) (hti : P.underlying ti = some (.int k))
    (hinfo : (P.info? e).map (fun i => (i.zero, i.size, i.bytes)) = some (some z, 1, bytes)) (hzs : z.cells.size = 1) (hi : i = (m : Nat)) (h0 : 0 < m) (hb : m * bytes ≤ 140737488355328) (h63 : m ≤ maxLen)
    (hk : ∀ A' c', Run n w0 S ((d, .slice A' m c') :: E) (.own e 1 (.slice A' m c') m (Builtin.zeroCells z.cells m).toList :: H) (mix P dr ops K rest)) :
    Run n w0 S E H (mix P dr ops K (⟨some d, .call { callee := .builtin .append, args := #[x, y], argTypes := #[t, ti] }, ty, pos, after, none⟩ :: rest)) :=
  r_act (X := []) (by cases dr <;> rfl) okAct_nil fun a w ha hw => by
    obtain ⟨i', hi', hz0, hz1, hz2⟩ := info_parts hinfo
    subst hi
    have hsm : m ≤ 9223372036854775807 := by simp only [maxLen] at h63; omega
    have hr := run_append_make (P := P) w t ti ty e i' z k ht hti hi' hz0 hzs hz1 m h0 hsm (by rw [hz2]; omega)
    have hge := grownCap_ge w m 0 e
    have hcm := grownCap_le_maxLen w m 0 e h63
    have ho : (w.drew.alloc (.cells (Builtin.zeroCells z.cells m ++ Builtin.zeroCells z.cells (grownCap w m 0 e - m)) e)).ownsRow 0 e 1 (.slice (some ⟨w.heap.size, 0, none⟩) m (grownCap w m 0 e)) m (Builtin.zeroCells z.cells m).toList := by
      refine ⟨by rw [Array.length_toList, size_zeroCells, hzs], .inr ⟨w.heap.size, _, _, rfl, Nat.zero_le _, heap_alloc_new w.drew _, hge, hcm, ?_, ?_⟩⟩
      · rw [Array.size_append, size_zeroCells, size_zeroCells, hzs]; omega
      · rw [Array.toList_append]
        have : m * 1 = (Builtin.zeroCells z.cells m).toList.length := by rw [Array.length_toList, size_zeroCells, hzs]
        rw [this]
        exact List.take_left
    have hgr : w.grownBy (w.drew.alloc (.cells (Builtin.zeroCells z.cells m ++ Builtin.zeroCells z.cells (grownCap w m 0 e - m)) e)) none := ⟨rfl, rfl, rfl, by simp, fun k hk _ => (Below.heap_alloc w.drew _ k hk)⟩
    have h := hk _ _ _ _ (ha.put hd _) ((hw.ownNil e 1).grown (r' := .own e 1 (.slice (some ⟨w.heap.size, 0, none⟩) m (grownCap w m 0 e)) m (Builtin.zeroCells z.cells m).toList) hgr (fun q hq => by simp [Res.foot, Value.ownBlock] at hq; exact .inr (by omega)) ho)
    simp [execOp, resolve, invoke, builtin, ha.ev hx, ha.ev hy, hr, actUpon]
    exact ⟨⟨hgr.size, fun k hk hX => hgr.block k hk (by simp)⟩, h⟩
end
def sumM (m : Nat → Nat) : Nat → Nat
  | 0 => 0
  | k + 1 => sumM m k + m k
def catX (xs : Nat → List Value) : Nat → List Value
  | 0 => []
  | k + 1 => catX xs k ++ xs k
theorem sumM_le (m : Nat → Nat) {k n : Nat} (h : k ≤ n) : sumM m k ≤ sumM m n := by
  induction n with
  | zero => rw [Nat.le_zero.1 h]; exact Nat.le_refl _
  | succ n ih =>
    by_cases e : k = n + 1
    · rw [e]; exact Nat.le_refl _
    · exact Nat.le_trans (ih (by omega)) (Nat.le_add_right _ _)
theorem sumM_lt (m : Nat → Nat) {k n : Nat} (h : k < n) : sumM m k + m k ≤ sumM m n := sumM_le m (k := k + 1) h


theorem grow24 (n : Nat) (h0 : 0 < n) (hn : n ≤ 1000000) (w : World) :
    Calls Tryd.prog 57 #[.slice none 0 0, .int .i64 (n : Int)] w fun e w' => ∃ i : Option Addr × Nat, e = .returned (.slice i.1 0 i.2) ∧ True ∧ Sat w [] [.own 9 1 (.slice i.1 0 i.2) 0 []] w' := by
  refine enter Tryd.func57 rfl rfl rfl ?_
  refine r_seq ?_
  refine r_region ?_
  refine r_assign rfl rfl ?_
  refine r_nil ?_
  refine r_tn ?_
  refine r_seq ?_
  refine r_seq ?_
  refine r_region ?_
  refine r_move rfl rfl ?_
  refine r_lss (p := false) rfl rfl rfl (decide_eq_false (by omega)) ?_
  refine r_nil ?_
  refine r_tn ?_
  refine r_cond_f rfl ?_
  refine r_skip ?_
  refine r_tn ?_
  refine r_seq ?_
  refine r_seq ?_
  refine r_region ?_
  refine r_move rfl rfl ?_
  refine r_move rfl rfl ?_
  refine r_cap rfl rfl rfl ?_
  refine r_move rfl rfl ?_
  refine r_len rfl rfl rfl ?_
  refine r_sub (r := 0) rfl rfl rfl rfl ?_
  refine r_sub (r := (n : Int)) rfl rfl rfl ((w64 (by omega)).trans (by omega)) ?_
  refine r_assign rfl rfl ?_
  refine r_nil ?_
  refine r_tn ?_
  refine r_seq ?_
  refine r_region ?_
  refine r_move rfl rfl ?_
  refine r_gtr (p := true) rfl rfl rfl (decide_eq_true (by omega)) ?_
  refine r_nil ?_
  refine r_tn ?_
  refine r_cond_t rfl ?_
  refine r_region ?_
  refine r_move rfl rfl ?_
  refine r_move rfl rfl ?_
  refine r_cap rfl rfl rfl ?_
  refine r_sliceHi (h' := 0) rfl rfl rfl rfl rfl rfl (by omega) ?_
  refine r_move rfl rfl ?_
  refine r_appendMake (m := n) (bytes := 16) rfl rfl rfl rfl rfl rfl rfl rfl h0 (by omega) (by unfold maxLen; omega) fun A22 c22 => ?_
  refine r_move rfl rfl ?_
  refine r_len rfl rfl rfl ?_
  refine r_sliceHi (h' := 0) rfl rfl rfl rfl rfl rfl (by omega) ?_
  refine Run.ownTake (m := n) (c := c22) (A := A22) (j := 0) (.slice A22 n c22) rfl (by omega) ?_
  refine r_assign rfl rfl ?_
  refine r_nil ?_
  refine r_tn ?_
  refine r_seq ?_
  refine r_region ?_
  refine r_move rfl rfl ?_
  refine r_assign rfl rfl ?_
  refine r_nil ?_
  refine r_tn ?_
  refine r_ret ?_
  exact r_done1 (.inl rfl) rfl (res_tmp rfl) fun w hw => ⟨(A22, c22), rfl, trivial, by rw [Nat.zero_mul, List.take_zero] at hw; exact hw.sub⟩

theorem concat24 (n b cp : Nat) (A : Nat → Option Addr) (m c : Nat → Nat) (xs : Nat → List Value) (hn : n ≤ 1000) (h0 : 0 < sumM m n) (hs : sumM m n ≤ 1000000) (w : World) (hR : Rd w (some ⟨b, 0, none⟩) ((List.range n).map fun k => .slice (A k) (m k) (c k))) (hx : ∀ k, k < n → Rd w (A k) (xs k) ∧ (xs k).length = m k ∧ ∀ u ∈ xs k, u.oneCell' = true) :
    Calls Tryd.prog 46 #[.slice (some ⟨b, 0, none⟩) n cp] w fun e w' => ∃ i : Option Addr × Nat, e = .returned (.slice i.1 (sumM m n) i.2) ∧ True ∧ Sat w [] [.own 9 1 (.slice i.1 (sumM m n) i.2) (sumM m n) (catX xs n)] w' := by
  refine enter Tryd.func46 rfl rfl rfl ?_
  refine r_seq ?_
  refine r_region ?_
  refine r_assign rfl rfl ?_
  refine r_nil ?_
  refine r_tn ?_
  refine r_seq ?_
  refine r_region ?_
  refine r_assign rfl rfl ?_
  refine r_nil ?_
  refine r_tn ?_
  refine r_seq ?_
  refine r_seq ?_
  refine r_region ?_
  refine r_move rfl rfl ?_
  refine r_len rfl rfl rfl ?_
  refine r_move rfl rfl ?_
  refine r_nil ?_
  refine r_tn ?_
  refine r_block ?_
  refine r_loopN (fun k => [(9, .slice (some ⟨b, 0, none⟩) n cp), (0, .slice (some ⟨b, 0, none⟩) n cp), (3, .int .i64 (sumM m k : Int)), (10, .int .i64 (n : Int)), (11, .int .i64 (k : Int))]) (fun _ => []) (fun k => k ≤ n) n 0 (by omega) ⟨rfl, rfl, rfl, rfl, rfl, trivial⟩ (fun w hw => hw.clear) fun k hk => ?_
  refine r_seq ?_
  refine r_region ?_
  refine r_lss rfl rfl rfl rfl ?_
  refine r_nil ?_
  refine r_tn ?_
  refine r_seq ?_
  refine r_cond rfl (fun hc => ?_) (fun hc => ?_)
  · refine r_skip ?_
    refine r_tn ?_
    refine r_seq ?_
    refine r_block ?_
    refine r_seq ?_
    refine r_region ?_
    have hk2 : k < n := by have h := of_decide_eq_true hc; omega
    clear hc
    have hsl := sumM_lt m hk2
    refine r_indexSl (sz := 1) (o' := 0 + k) rfl rfl rfl rfl rfl (by omega) (by omega) (by omega) ?_
    refine r_loadC (p := ⟨b, 0 + k, none⟩) (v := .slice (A k) (m k) (c k)) rfl rfl rfl (fun w hw => (hR.keep hw).cell (by simp [hk2]) rfl) ?_
    refine r_assign rfl rfl ?_
    refine r_nil ?_
    refine r_tn ?_
    refine r_seq ?_
    refine r_region ?_
    refine r_move rfl rfl ?_
    refine r_move rfl rfl ?_
    refine r_len rfl rfl rfl ?_
    refine r_add (r := (sumM m (k + 1) : Int)) rfl rfl rfl ((w64 (by omega)).trans (by show _ = ((sumM m k + m k : Nat) : Int); omega)) ?_
    refine r_assign rfl rfl ?_
    refine r_nil ?_
    refine r_tn ?_
    refine r_seq ?_
    refine r_region ?_
    refine r_move rfl rfl ?_
    refine r_lss (p := false) rfl rfl rfl (decide_eq_false (by omega)) ?_
    refine r_nil ?_
    refine r_tn ?_
    refine r_cond_f rfl ?_
    refine r_skip ?_
    refine r_bn ?_
    refine r_tn ?_
    refine r_region ?_
    refine r_add rfl rfl rfl (w64 (by omega)) ?_
    refine r_move rfl rfl ?_
    refine r_nil ?_
    refine r_tn ?_
    exact r_againN (k + 1) (by omega) (by omega) ⟨rfl, rfl, rfl, rfl, rfl, trivial⟩ (fun w hw => hw.clear)
  · refine r_exit ?_
    refine r_te ?_
    refine r_te ?_
    refine r_be ?_
    refine r_tn ?_
    refine r_seq ?_
    refine r_region ?_
    have hk3 : k = n := by have h := of_decide_eq_false hc; omega
    subst hk3
    clear hc
    refine r_move rfl rfl ?_
    refine r_callx rfl rfl rfl (by kernel_rfl) rfl (fun w hw => by exact grow24 (sumM m k) h0 hs w) ?_
    rintro ⟨A24, c24⟩ _
    refine r_assign rfl rfl ?_
    refine r_nil ?_
    refine r_tn ?_
    refine r_seq ?_
    refine r_seq ?_
    refine r_region ?_
    refine r_move rfl rfl ?_
    refine r_len rfl rfl rfl ?_
    refine r_move rfl rfl ?_
    refine r_nil ?_
    refine r_tn ?_
    refine r_block ?_
    refine r_loop2 (fun j A6 c6 => [(25, .slice (some ⟨b, 0, none⟩) k cp), (6, .slice A6 (sumM m j) c6), (26, .int .i64 (k : Int)), (27, .int .i64 (j : Int))]) (fun j A6 c6 => [.own 9 1 (.slice A6 (sumM m j) c6) (sumM m j) (catX xs j)]) (fun j A6 c6 => j ≤ k) k 0 A24 c24 (by omega) ⟨rfl, rfl, rfl, rfl, trivial⟩ (fun w hw => by have h2 : Sat _ _ [.own 9 1 (.slice A24 0 c24) 0 []] w := hw.sub; exact h2) fun j A6 c6 hj => ?_
    refine r_seq ?_
    refine r_region ?_
    refine r_lss rfl rfl rfl rfl ?_
    refine r_nil ?_
    refine r_tn ?_
    refine r_seq ?_
    refine r_cond rfl (fun hc => ?_) (fun hc => ?_)
    · refine r_skip ?_
      refine r_tn ?_
      refine r_seq ?_
      refine r_block ?_
      refine r_seq ?_
      refine r_region ?_
      have hk2 : j < k := by have h := of_decide_eq_true hc; omega
      clear hc
      have hsl := sumM_lt m hk2
      obtain ⟨hx1, hx2, hx3⟩ := hx j hk2
      refine r_indexSl (sz := 1) (o' := 0 + j) rfl rfl rfl rfl rfl (by omega) (by omega) (by omega) ?_
      refine r_loadC (p := ⟨b, 0 + j, none⟩) (v := .slice (A j) (m j) (c j)) rfl rfl rfl (fun w hw => (hR.keep hw).cell (by simp [hk2]) rfl) ?_
      refine r_assign rfl rfl ?_
      refine r_nil ?_
      refine r_tn ?_
      refine r_region ?_
      refine r_move rfl rfl ?_
      refine r_move rfl rfl ?_
      refine r_append (k := m j) (news := xs j) (sz := 1) (bytes := 16) rfl rfl rfl rfl rfl rfl (by decide) (fun w hw => hx1.keep hw) (by rw [hx2, Nat.mul_one]) hx3 (by omega) (by unfold maxLen; omega) fun A33 c33 => ?_
      refine r_assign rfl rfl ?_
      refine r_nil ?_
      refine r_bn ?_
      refine r_tn ?_
      refine r_region ?_
      refine r_add rfl rfl rfl (w64 (by omega)) ?_
      refine r_move rfl rfl ?_
      refine r_nil ?_
      refine r_tn ?_
      exact r_again2 (j + 1) A33 c33 (by omega) (by omega) ⟨rfl, rfl, rfl, rfl, trivial⟩ (fun w hw => by have h2 : Sat _ _ [.own 9 1 (.slice A33 (sumM m j + m j) c33) (sumM m j + m j) (catX xs j ++ xs j)] w := hw.sub; exact h2)
    · refine r_exit ?_
      refine r_te ?_
      refine r_te ?_
      refine r_be ?_
      refine r_tn ?_
      refine r_seq ?_
      refine r_region ?_
      have hj3 : j = k := by have h := of_decide_eq_false hc; omega
      subst hj3
      refine r_move rfl rfl ?_
      refine r_assign rfl rfl ?_
      refine r_nil ?_
      refine r_tn ?_
      refine r_ret ?_
      exact r_done1 (.inl rfl) rfl (res_tmp rfl) fun w hw => ⟨(A6, c6), rfl, trivial, hw.sub⟩
end Go.Proofs.YtdkgnnieehidbaaDoor
