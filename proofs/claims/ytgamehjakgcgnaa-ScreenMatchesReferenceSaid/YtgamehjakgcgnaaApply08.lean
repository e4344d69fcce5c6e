/-
  Screens (chapter 08): Need, and a function on the selected planes.
-/
import Derived.Test.YtgamehjakgcgnaaSel08
namespace Go.Proofs.Ytgamehjakgcgnaa
open Go Go.RowKit
set_option linter.unusedVariables false
set_option linter.unusedSimpArgs false
set_option maxHeartbeats 2000000
set_option maxRecDepth 4000
attribute [local irreducible] mix

def perN (n : Nat) (big : Bool) : Nat := if big then 32 else n
theorem perN_le {n : Nat} (h : n ≤ 32) (big : Bool) : perN n big ≤ 32 := by cases big <;> unfold perN <;> simp [h]
theorem per_cast (n : Nat) (big : Bool) : (if big then (32 : Int) else ((n : Nat) : Int)) = ((perN n big : Nat) : Int) := by cases big <;> rfl
theorem need08 (s : Scr) (hm : s.mask < 16) (n : Nat) (hn : n ≤ 32) (big : Bool) (w : World) :
    Calls Try.prog 24 #[.agg (scrV s), .int .i64 (n : Int), .bool big] w fun e w' => e = .returned (.int .i64 (((sel s.mask).length * perN n big : Nat) : Int)) ∧ Sat w [] [] w' := by
  refine enterMS Try.func24 rfl rfl rfl (Sat.nil w) ?_
  refine r_seq ?_
  refine r_region ?_
  refine r_boxV rfl rfl fun b3 => ?_
  refine r_box1 rfl rfl rfl fun b4 => ?_
  refine r_box1 rfl rfl rfl fun b5 => ?_
  refine r_assign rfl rfl ?_
  refine r_nil ?_
  refine r_tn ?_
  refine r_seq ?_
  refine r_region ?_
  refine r_alloc rfl rfl fun b7 => ?_
  refine r_store (m := 1) (cs' := #[.int .i64 0]) rfl rfl rfl rfl (Nat.le_of_ble_eq_true rfl) rfl rfl ?_
  refine r_nil ?_
  refine r_tn ?_
  refine r_seq ?_
  refine r_seq ?_
  refine r_region ?_
  refine r_loadV rfl rfl rfl rfl (scrV_size s) ?_
  refine r_callx rfl rfl rfl (by kernel_rfl) rfl (fun w hw => by exact selected08 s w) ?_
  rintro b9 _
  refine r_nil ?_
  refine r_tn ?_
  refine r_block ?_
  refine r_have (fun w hw => Sat.ne (b1 := b7) (b2 := b9) hw) fun hneb7 => ?_
  refine r_have (fun w hw => Sat.ne (b1 := b4) (b2 := b9) hw) fun hneb4 => ?_
  refine r_have (fun w hw => Sat.ne (b1 := b5) (b2 := b9) hw) fun hneb5 => ?_
  refine r_range (sel := sel s.mask) (bs := b9) rfl (enters_of Try.func62 (by kernel_rfl) rfl) rfl (fun pre => [.blk b7 (.cells #[.int .i64 ((pre.length * perN n big : Nat) : Int)] 3 (0, 0)), .blk b4 (.cells #[.int .i64 (n : Int)] 3 (0, 0)), .blk b5 (.cells #[.bool big] 4 (0, 0))]) (fun pre r hr => by
      simp only [List.mem_cons, List.not_mem_nil, or_false] at hr
      rcases hr with rfl | rfl | rfl <;> rfl) (fun w hw => by rw [show ([] : List (Fin 4)).length * perN n big = 0 from Nat.zero_mul _]; have h2 : Sat _ _ [.blk b7 (.cells #[.int .i64 ((0 : Nat) : Int)] 3 (0, 0)), .blk b4 (.cells #[.int .i64 (n : Int)] 3 (0, 0)), .blk b5 (.cells #[.bool big] 4 (0, 0))] w := hw.sub; exact h2) (fun w hw => Sat.lt (b := b9) hw) (fun pre r hr => by
      simp only [List.mem_cons, List.not_mem_nil, or_false] at hr
      rcases hr with rfl | rfl | rfl
      · exact fun h => hneb7 (Option.some.inj h)
      · exact fun h => hneb4 (Option.some.inj h)
      · exact fun h => hneb5 (Option.some.inj h)) (fun w hw => sel_stops s hm b9 w (hw.look (HasBlk.pick (b := b9)))) (fun x a => { tmps := a.tmps.setIfInBounds 10 (.int .i64 (x : Int)), defers := [] }) (fun l x a W K ha hK => wpIn_skip (by rw [zip_one]; exact hK)) (fun x => [(4, .pointer (some ⟨b4, 0, none⟩)), (5, .pointer (some ⟨b5, 0, none⟩)), (7, .pointer (some ⟨b7, 0, none⟩))]) (fun x a ha => (ha.range1 (by kernel_rfl) _).weak (lkAll_mem ⟨rfl, rfl, rfl, trivial⟩)) ?_ ?_
  · intro lr pre x W hlen hW
    have hs4 := selK_len s.mask 4
    have hpn : pre.length * perN n big ≤ 4 * 32 := Nat.mul_le_mul (Nat.le_trans (Nat.le_of_lt hlen) hs4) (perN_le hn big)
    have hpn2 := perN_le hn big
    refine ri_block ?_
    refine ri_mixedD { xb := [], rb := [b7], rs := [11], fs := [], acs := [14] } (by kernel_rfl) (by kernel_rfl) (by kernel_rfl) (fun w hw k hk => by
      simp only [List.mem_cons, List.not_mem_nil, or_false] at hk
      rcases hk with rfl <;> exact Sat.lt hw) ?_
    refine r_load1 rfl rfl rfl (by rfl) ?_
    refine r_load1 rfl rfl rfl (by rfl) ?_
    refine r_load1 rfl rfl rfl (by rfl) ?_
    refine r_call rfl rfl rfl (by kernel_rfl) rfl (fun w hw => by exact per08 (n : Int) big w) ?_
    refine r_add (r := ((pre.length * perN n big + perN n big : Nat) : Int)) rfl rfl rfl (by rw [per_cast]; exact (w64 (by omega)).trans (by omega)) ?_
    refine r_store (m := 1) (cs' := #[.int .i64 ((pre.length * perN n big + perN n big : Nat) : Int)]) rfl rfl rfl rfl (Nat.le_of_ble_eq_true rfl) rfl rfl ?_
    refine r_nil ?_
    refine r_bn ?_
    exact fun a w ha hw => ⟨rfl, by rw [show (pre ++ [x]).length * perN n big = pre.length * perN n big + perN n big by rw [List.length_append]; exact Nat.succ_mul _ _]; exact hw.sub⟩
  · intro D
    refine m_bn ?_
    refine m_tn ?_
    refine m_seq ?_
    refine m_region ?_
    refine r_load1 rfl rfl rfl (by rfl) ?_
    refine r_assign rfl rfl ?_
    refine r_nil ?_
    refine m_tn ?_
    refine m_ret ?_
    exact m_done1 (.inl rfl) rfl (res_tmp rfl) fun w hw => ⟨rfl, hw.clear⟩

/-- the planes when some have been turned, and how many -/
def stP (ff : Nat → (Nat → Nat → Bool) → (Nat → Nat → Bool)) (P : Nat → Nat → Nat → Bool) (pre : List (Fin 4)) : (Nat → Nat → Nat → Bool) × Nat := pre.foldl (fun st x => (setPl st.1 x.val (ff st.2 (st.1 x.val)), st.2 + 1)) (P, 0)
theorem stP_two (ff : Nat → (Nat → Nat → Bool) → (Nat → Nat → Bool)) (P : Nat → Nat → Nat → Bool) (pre : List (Fin 4)) : (stP ff P pre).2 = pre.length := by
  have key : ∀ (l : List (Fin 4)) (st : (Nat → Nat → Nat → Bool) × Nat), (l.foldl (fun st x => (setPl st.1 x.val (ff st.2 (st.1 x.val)), st.2 + 1)) st).2 = st.2 + l.length := by
    intro l
    induction l with
    | nil => intro st; rfl
    | cons x l ih => intro st; rw [List.foldl_cons, ih, List.length_cons]; show st.2 + 1 + l.length = _; omega
  unfold stP
  rw [key]
  exact Nat.zero_add _
theorem stP_snoc (ff : Nat → (Nat → Nat → Bool) → (Nat → Nat → Bool)) (P : Nat → Nat → Nat → Bool) (pre : List (Fin 4)) (x : Fin 4) : (stP ff P (pre ++ [x])).1 = setPl (stP ff P pre).1 x.val (ff pre.length ((stP ff P pre).1 x.val)) := by
  rw [← stP_two ff P pre]
  unfold stP
  rw [List.foldl_append]
  rfl
theorem stP_nil (ff : Nat → (Nat → Nat → Bool) → (Nat → Nat → Bool)) (P : Nat → Nat → Nat → Bool) : (stP ff P []).1 = P := rfl
attribute [local irreducible] scrV stP planeV
theorem apply08 (s : Scr) (hm : s.mask < 16) (gf : Nat) (cs : List Value) (T : List Nat) (FH : List (Fin 4) → List Res) (ff : Nat → (Nat → Nat → Bool) → (Nat → Nat → Bool)) (w : World) (hgf : callable Try.prog gf = true)
    (hT : ∀ pre, (FH pre).filterMap Res.foot = T) (hFc : ∀ pre, ∀ r ∈ FH pre, r.cells)
    (hf : ∀ (pre : List (Fin 4)) (x : Fin 4) (W : World), pre.length < (sel s.mask).length → Sat w T (FH pre) W → Calls Try.prog gf ([Value.agg (planeV ((stP ff s.P pre).1 x.val))] ++ cs).toArray W fun e W' => e = .returned (.agg (planeV (ff pre.length ((stP ff s.P pre).1 x.val)))) ∧ Sat W T (FH (pre ++ [x])) W') (hS : Sat w T (FH []) w) :
    Calls Try.prog 37 #[.agg (scrV s), .func (.func gf) #[] cs.toArray] w fun e w' => e = .returned (.agg (scrV ⟨(stP ff s.P (sel s.mask)).1, s.hires, s.mask⟩)) ∧ Sat w T (FH (sel s.mask)) w' := by
  refine enterMS Try.func37 rfl rfl rfl hS ?_
  refine r_seq ?_
  refine r_region ?_
  refine r_boxV rfl rfl fun b2 => ?_
  refine r_box1 rfl rfl rfl fun b3 => ?_
  refine r_allocV (cs := scrV scr0) (by kernel_rfl) rfl fun b4 => ?_
  refine r_nil ?_
  refine r_tn ?_
  refine r_seq ?_
  refine r_seq ?_
  refine r_region ?_
  refine r_loadV rfl rfl rfl rfl (scrV_size s) ?_
  refine r_callx rfl rfl rfl (by kernel_rfl) rfl (fun w hw => by exact selected08 s w) ?_
  rintro b7 _
  refine r_nil ?_
  refine r_tn ?_
  refine r_block ?_
  refine r_have (fun w hw => Sat.ne (b1 := b2) (b2 := b7) hw) fun hneb2 => ?_
  refine r_have (fun w hw => Sat.ne (b1 := b3) (b2 := b7) hw) fun hneb3 => ?_
  refine r_have (fun w hw => Sat.ne (b1 := b4) (b2 := b7) hw) fun hneb4 => ?_
  refine r_have (p := b7 ∉ T) (fun w hw => by
    have h := (hw.pick (HasBlk.pick (b := b7))).apart
    intro hm7
    rw [← hT []] at hm7
    obtain ⟨r, hr, hrk⟩ := List.mem_filterMap.1 hm7
    exact (List.pairwise_cons.1 h).1 r (by simp [hr]) b7 rfl hrk) fun hneT => ?_
  refine r_range (sel := sel s.mask) (bs := b7) rfl (enters_of Try.func62 (by kernel_rfl) rfl) rfl (fun pre => ([.blk b2 (.cells (scrV ⟨(stP ff s.P pre).1, s.hires, s.mask⟩) 32 (0, 0)), .blk b3 (.cells #[.func (.func gf) #[] cs.toArray] 81 (0, 0)), .blk b4 (.cells (scrV scr0) 32 (0, 0))] ++ FH (pre))) (fun pre r hr => by
      rcases List.mem_append.1 hr with hr | hr
      · simp only [List.mem_cons, List.not_mem_nil, or_false] at hr
        rcases hr with rfl | rfl | rfl <;> rfl
      · exact hFc _ r hr) (fun w hw => by rw [stP_nil]; have h2 : Sat _ _ (.blk b2 (.cells (scrV s) 32 (0, 0)) :: .blk b3 (.cells #[.func (.func gf) #[] cs.toArray] 81 (0, 0)) :: .blk b4 (.cells (scrV scr0) 32 (0, 0)) :: FH []) w := hw.sub; exact h2) (fun w hw => Sat.lt (b := b7) hw) (fun pre r hr => by
      rcases List.mem_append.1 hr with hr | hr
      · simp only [List.mem_cons, List.not_mem_nil, or_false] at hr
        rcases hr with rfl | rfl | rfl
        · exact fun h => hneb2 (Option.some.inj h)
        · exact fun h => hneb3 (Option.some.inj h)
        · exact fun h => hneb4 (Option.some.inj h)
      · exact fun h => hneT (by rw [← hT pre]; exact List.mem_filterMap.2 ⟨r, hr, h⟩)) (fun w hw => sel_stops s hm b7 w (hw.look (HasBlk.pick (b := b7)))) (fun x a => ({ tmps := a.tmps.setIfInBounds 8 (.int .i64 (x : Int)), defers := [] } : Act).put (some 5) (({ tmps := a.tmps.setIfInBounds 8 (.int .i64 (x : Int)), defers := [] } : Act).eval (.tmp 8))) (fun l x a W K ha hK => by rw [zip_one]; exact assign_one hK) (fun x => [(5, .int .i64 (x : Int)), (2, .pointer (some ⟨b2, 0, none⟩)), (3, .pointer (some ⟨b3, 0, none⟩))]) (fun x a ha => by
      have h1 := ha.range1 (t := 8) (by kernel_rfl) (.int .i64 (x : Int))
      rw [h1.ev (x := .tmp 8) rfl]
      exact (h1.put (d := 5) (by kernel_rfl) _).weak (lkAll_mem ⟨rfl, rfl, rfl, trivial⟩)) ?_ ?_
  · intro lr pre x W hlen hW
    have hx4 := x.isLt
    refine ri_block ?_
    refine ri_mixedD {} (by kernel_rfl) (by kernel_rfl) (by kernel_rfl) (fun w hw k hk => by cases hk) ?_
    refine r_move rfl rfl ?_
    refine r_load1 rfl rfl rfl (by rfl) ?_
    refine r_move rfl rfl ?_
    refine r_fieldAddr (off := 0) (o' := 0) rfl rfl rfl rfl ?_
    refine r_indexArr (sz := 128) (o' := 128 * x.val) rfl rfl rfl rfl rfl (by omega) (by omega) (by omega) ?_
    refine r_loadN (m := 128) rfl rfl rfl rfl (by rw [scrV_size]; omega) (scr_plane _ hx4) ?_
    refine r_callm (ι := Unit) (A := FH pre) (v := fun _ => .agg (planeV (ff pre.length ((stP ff s.P pre).1 x.val)))) (A' := fun _ => FH (pre ++ [x])) (φ := fun _ => True) List.perm_append_comm rfl rfl rfl hgf rfl (fun w2 h2 h3 => by
        have h4 := Sat.call (A := ([.blk b2 (.cells (scrV ⟨(stP ff s.P pre).1, s.hires, s.mask⟩) 32 (0, 0)), .blk b3 (.cells #[.func (.func gf) #[] cs.toArray] 81 (0, 0)), .blk b4 (.cells (scrV scr0) 32 (0, 0))] ++ FH (pre))) (G := []) (by rw [List.append_nil]; exact hW) h2 (fun k hk => List.mem_filterMap.1 hk)
        rw [List.append_nil] at h4
        refine (hf pre x w2 hlen h4.front).mono fun e W' he => ⟨(), he.1, trivial, ?_⟩
        rw [hT]
        exact he.2) ?_
    intro _ _
    refine Run.less (fun w hw => hw.perm List.perm_append_comm) ?_
    refine r_fieldAddr (off := 0) (o' := 0) rfl rfl rfl rfl ?_
    refine r_indexArr (sz := 128) (o' := 128 * x.val) rfl rfl rfl rfl rfl (by omega) (by omega) (by omega) ?_
    refine r_store (m := 128) (cs' := scrV ⟨setPl (stP ff s.P pre).1 x.val (ff pre.length ((stP ff s.P pre).1 x.val)), s.hires, s.mask⟩) rfl rfl rfl (planeV_size _) (by rw [scrV_size]; omega) (planeV_one _) (scr_set ⟨(stP ff s.P pre).1, s.hires, s.mask⟩ hx4 (ff pre.length ((stP ff s.P pre).1 x.val))) ?_
    refine r_nil ?_
    refine r_bn ?_
    exact fun a w ha hw => ⟨rfl, by rw [stP_snoc]; have h2 : Sat _ _ ([.blk b2 (.cells (scrV ⟨setPl (stP ff s.P pre).1 x.val (ff pre.length ((stP ff s.P pre).1 x.val)), s.hires, s.mask⟩) 32 (0, 0)), .blk b3 (.cells #[.func (.func gf) #[] cs.toArray] 81 (0, 0)), .blk b4 (.cells (scrV scr0) 32 (0, 0))] ++ FH (pre ++ [x])) w := hw; exact h2⟩
  · intro D
    refine m_bn ?_
    refine m_tn ?_
    refine m_seq ?_
    refine m_region ?_
    refine r_loadV rfl rfl rfl rfl (scrV_size _) ?_
    refine r_storeV rfl rfl rfl (scrV_size _) (scrV_size _) (scrV_one _) ?_
    refine r_nil ?_
    refine m_tn ?_
    refine m_ret ?_
    exact m_done1 (.inl rfl) rfl (res_cellV rfl rfl rfl (scrV_size _)) fun w hw => ⟨rfl, by have h2 : Sat _ _ (FH (sel s.mask)) w := hw.sub; exact h2⟩
end Go.Proofs.Ytgamehjakgcgnaa
