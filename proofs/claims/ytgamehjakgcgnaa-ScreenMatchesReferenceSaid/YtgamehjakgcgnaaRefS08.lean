/-
  Screens (chapter 08): the reference: New, with, Select.
-/
import Derived.Test.YtgamehjakgcgnaaOne08
import Derived.Test.YtgamehjakgcgnaaPlanesB
namespace Go.Proofs.Ytgamehjakgcgnaa
open Go Go.RowKit
set_option linter.unusedVariables false
set_option linter.unusedSimpArgs false
set_option maxHeartbeats 2000000
set_option maxRecDepth 4000
attribute [local irreducible] mix

/-- all things of a list are there -/
def OkAll (R : List Res) (w : World) : Prop := ∀ x, x ∈ R → x.ok w
theorem okAll_rd {R : List Res} {w : World} (h : OkAll R w) {T sz n c : Nat} {A : Option Addr} {xs : List Value} (hm : Res.own T sz (.slice A n c) n xs ∈ R) : Rd w A xs := owns_rd (h _ hm)
/-- where a screen of the reference lies -/
structure RSc where
  A : Option Addr
  c : Nat
  f : Nat → Nat
  R : List Res
def plS4 (f : Nat → Nat) (k : Nat) : List Value := (List.range k).map fun j => .slice (some ⟨f j, 0, none⟩) 8192 8192
def rsV (i : RSc) (hires : Bool) (mask : Int) : Array Value := #[.slice i.A 4 i.c, .bool hires, .int .i64 mask]
def RefS (w : World) (P : Nat → Nat → Nat → Bool) (i : RSc) : Prop := Rd w i.A (plS4 i.f 4) ∧ ∀ j, j < 4 → Rd w (some ⟨i.f j, 0, none⟩) (boolsN 8192 (flatP (P j)))
theorem RefS.keep {w w1 : World} {P : Nat → Nat → Nat → Bool} {i : RSc} {H : List Res} (h : RefS w P i) (hw : Sat w [] H w1) : RefS w1 P i := ⟨h.1.keep hw, fun j hj => (h.2 j hj).keep hw⟩
def setF (f : Nat → Nat) (k b j : Nat) : Nat := if j = k then b else f j
theorem plS4_at (f : Nat → Nat) {k j : Nat} (h : j < k) : (plS4 f k)[j]? = some (.slice (some ⟨f j, 0, none⟩) 8192 8192) := by simp [plS4, h]
theorem plS4_zero (f : Nat → Nat) : plS4 f 0 = [] := rfl
theorem plS4_succ (f : Nat → Nat) (k b : Nat) (h : f k = b) : plS4 f k ++ [.slice (some ⟨b, 0, none⟩) 8192 8192] = plS4 f (k + 1) := by
  subst h
  unfold plS4
  rw [List.range_succ, List.map_append]
  rfl
theorem plS4_snoc (f : Nat → Nat) (k b : Nat) : plS4 f k ++ [.slice (some ⟨b, 0, none⟩) 8192 8192] = plS4 (setF f k b) (k + 1) := by
  rw [← plS4_succ (setF f k b) k b (by unfold setF; rw [if_pos rfl])]
  congr 1
  unfold plS4 setF
  apply List.map_congr_left
  intro j hj
  have hj := List.mem_range.1 hj
  show _ = Value.slice (some ⟨if j = k then b else f j, 0, none⟩) 8192 8192
  rw [if_neg (by omega)]
theorem rs_some {w : World} {A : Option Addr} {f : Nat → Nat} (h : Rd w A (plS4 f 4)) : ∃ b o, A = some ⟨b, o, none⟩ := by
  obtain ⟨b, o, e, _⟩ := h 0 _ (plS4_at f (by omega))
  exact ⟨b, o, e⟩
theorem tells_step {R : List Res} {f : Nat → Nat} {k b : Nat} {P : Nat → Nat → Nat → Bool} (hR : ∀ w1, OkAll R w1 → ∀ j, j < k → Rd w1 (some ⟨f j, 0, none⟩) (boolsN 8192 (flatP (P j)))) :
    ∀ w1, OkAll (.own 4 1 (.slice (some ⟨b, 0, none⟩) 8192 8192) 8192 (boolsN 8192 (flatP (P k))) :: R) w1 → ∀ j, j < k + 1 → Rd w1 (some ⟨setF f k b j, 0, none⟩) (boolsN 8192 (flatP (P j))) := fun w1 h1 j hj => by
  unfold setF
  by_cases e : j = k
  · subst e
    rw [if_pos rfl]
    exact owns_rd (h1 _ (.head _))
  · rw [if_neg e]
    exact hR w1 (fun x hx => h1 x (.tail _ hx)) j (by omega)
theorem refS_step {w1 : World} {P : Nat → Nat → Nat → Bool} {i : RSc} {k b : Nat} {Q : Nat → Nat → Bool} {A' : Option Addr} {c' : Nat} {R' : List Res} (h : RefS w1 P i) (hA : Rd w1 A' (plS4 (setF i.f k b) 4)) (hQ : Rd w1 (some ⟨b, 0, none⟩) (boolsN 8192 (flatP Q))) : RefS w1 (setPl P k Q) ⟨A', c', setF i.f k b, R'⟩ := by
  refine ⟨hA, fun j hj => ?_⟩
  show Rd w1 (some ⟨setF i.f k b j, 0, none⟩) (boolsN 8192 (flatP (setPl P k Q j)))
  unfold setF setPl
  by_cases e : j = k
  · rw [if_pos e, if_pos e]; exact hQ
  · rw [if_neg e, if_neg e]; exact h.2 j hj
/-- what holds of a screen after the planes up to k: it depends on what was given -/
def Tells (P0 : Nat → Nat → Nat → Bool) (i0 : RSc) (P : Nat → Nat → Nat → Bool) (i : RSc) : Prop := ∀ w1, RefS w1 P0 i0 → OkAll i.R w1 → RefS w1 P i


theorem refBlankN08 (w : World) : Calls Try.prog 28 #[] w fun e w' => ∃ b : Nat, e = .returned (.slice (some ⟨b, 0, none⟩) 8192 8192) ∧ True ∧ Sat w [] [.own 4 1 (.slice (some ⟨b, 0, none⟩) 8192 8192) 8192 (boolsN 8192 (flatP noneQ))] w' := refBlank07 w
attribute [local irreducible] plS4 setF


theorem refNew08  (w : World) :
    Calls Try.prog 10 #[] w fun e w' => ∃ i : RSc, e = .returned (.agg (rsV i false 1)) ∧ (∀ w1, OkAll i.R w1 → RefS w1 (fun _ => noneQ) i) ∧ Sat w [] (i.R) w' := by
  refine enter Try.func10 rfl rfl rfl ?_
  refine r_seq ?_
  refine r_region ?_
  refine r_allocV (cs := #[.slice none 0 0, .bool false, .int .i64 0]) (by kernel_rfl) rfl fun b0 => ?_
  refine r_nil ?_
  refine r_tn ?_
  refine r_seq ?_
  refine r_region ?_
  refine r_build (cells := #[.slice none 0 0, .bool false, .int .i64 1]) rfl rfl (by kernel_rfl) ?_
  refine r_allocV (cs := #[.slice none 0 0, .bool false, .int .i64 0]) (by kernel_rfl) rfl fun b1 => ?_
  refine r_storeV rfl rfl rfl rfl rfl rfl ?_
  refine r_nil ?_
  refine r_tn ?_
  refine r_seq ?_
  refine r_seq ?_
  refine r_region ?_
  refine r_assign rfl rfl ?_
  refine r_nil ?_
  refine r_tn ?_
  refine r_block ?_
  refine Run.ownNil 64 1 ?_
  refine r_loop4 (fun k A cc (f : Nat → Nat) (R : List Res) => [(0, .pointer (some ⟨b0, 0, none⟩)), (1, .pointer (some ⟨b1, 0, none⟩)), (2, .int .i64 (k : Int))]) (fun k A cc f R => (.blk b0 (.cells #[.slice none 0 0, .bool false, .int .i64 0] 36 (0, 0)) :: .blk b1 (.cells #[.slice A k cc, .bool false, .int .i64 1] 36 (0, 0)) :: .own 64 1 (.slice A k cc) k (plS4 f k) :: R)) (fun k A cc f R => k ≤ 4 ∧ ∀ w1, OkAll R w1 → ∀ j, j < k → Rd w1 (some ⟨f j, 0, none⟩) (boolsN 8192 (flatP noneQ))) 4 0 none 0 (fun _ => 0) [] ⟨by omega, fun w1 _ j hj => by omega⟩ ⟨rfl, rfl, rfl, trivial⟩ (fun w hw => by rw [plS4_zero]; have h2 : Sat _ _ [.blk b0 (.cells #[.slice none 0 0, .bool false, .int .i64 0] 36 (0, 0)), .blk b1 (.cells #[.slice none 0 0, .bool false, .int .i64 1] 36 (0, 0)), .own 64 1 (.slice none 0 0) 0 ([])] w := hw.sub; exact h2) fun k A cc f R hk => ?_
  obtain ⟨hk, hR⟩ := hk
  refine r_seq ?_
  refine r_seq ?_
  refine r_region ?_
  refine r_move rfl rfl ?_
  refine r_lss rfl rfl rfl rfl ?_
  refine r_nil ?_
  refine r_tn ?_
  refine r_cond rfl (fun hc => ?_) (fun hc => ?_)
  · refine r_skip ?_
    refine r_tn ?_
    refine r_seq ?_
    refine r_block ?_
    refine r_mixedD { xb := [], rb := [b1], rs := [9], fs := [], acs := [10, 11] } (by kernel_rfl) (by kernel_rfl) (fun w hw k hk => by
      simp only [List.mem_cons, List.not_mem_nil, or_false] at hk
      rcases hk with rfl <;> exact Sat.lt hw) ?_
    have hk2 : k < 4 := by have h := of_decide_eq_true hc; omega
    clear hc
    refine r_fieldAddr (off := 0) (o' := 0) rfl rfl rfl rfl ?_
    refine r_load1 rfl rfl rfl (by rfl) ?_
    refine r_callx rfl rfl rfl (by kernel_rfl) rfl (fun w hw => by exact refBlankN08 w) ?_
    rintro b10 _
    refine r_lit (sz := 1) (pv := [(0, .slice (some ⟨b10, 0, none⟩) 8192 8192)]) (cells := #[.slice (some ⟨b10, 0, none⟩) 8192 8192]) rfl rfl rfl rfl rfl rfl (by kernel_rfl) rfl (fun b11 => ?_) (by decide)
    refine r_append (k := 1) (news := [.slice (some ⟨b10, 0, none⟩) 8192 8192]) (sz := 1) (bytes := 24) rfl rfl rfl rfl rfl rfl (by decide) (fun w hw => own_rd (A := some ⟨b11, 0, none⟩) (m := 1) (c := 1) hw) rfl (fun u hu => by rw [List.mem_singleton.1 hu]; rfl) (by omega) (by unfold maxLen; omega) fun A12 c12 => ?_
    refine r_fieldAddr (off := 0) (o' := 0) rfl rfl rfl rfl ?_
    refine r_store (m := 1) (cs' := #[.slice A12 (k + 1) c12, .bool false, .int .i64 1]) rfl rfl rfl rfl (Nat.le_of_ble_eq_true rfl) rfl rfl ?_
    refine r_nil ?_
    refine r_bn ?_
    refine r_tn ?_
    refine r_region ?_
    refine r_move rfl rfl ?_
    refine r_add rfl rfl rfl (w64 (by omega)) ?_
    refine r_assign rfl rfl ?_
    refine r_nil ?_
    refine r_tn ?_
    exact r_again4 (k + 1) A12 c12 (setF f k b10) (.own 4 1 (.slice (some ⟨b10, 0, none⟩) 8192 8192) 8192 (boolsN 8192 (flatP noneQ)) :: R) ⟨by omega, tells_step (P := fun _ => noneQ) hR⟩ (by omega) ⟨rfl, rfl, rfl, trivial⟩ (fun w hw => by rw [plS4_snoc] at hw; have h2 : Sat _ _ ((.blk b0 (.cells #[.slice none 0 0, .bool false, .int .i64 0] 36 (0, 0)) :: .blk b1 (.cells #[.slice A12 (k + 1) c12, .bool false, .int .i64 1] 36 (0, 0)) :: .own 64 1 (.slice A12 (k + 1) c12) (k + 1) (plS4 (setF f k b10) (k + 1)) :: (.own 4 1 (.slice (some ⟨b10, 0, none⟩) 8192 8192) 8192 (boolsN 8192 (flatP noneQ)) :: R))) w := hw.sub; exact h2)
  · refine r_exit ?_
    refine r_te ?_
    refine r_te ?_
    refine r_be ?_
    refine r_tn ?_
    refine r_seq ?_
    refine r_region ?_
    have hk3 : k = 4 := by have h := of_decide_eq_false hc; omega
    subst hk3
    refine r_loadV rfl rfl rfl rfl rfl ?_
    refine r_storeV rfl rfl rfl rfl rfl rfl ?_
    refine r_nil ?_
    refine r_tn ?_
    refine r_ret ?_
    exact r_done1 (.inl rfl) rfl (res_cellV rfl rfl rfl rfl) fun w hw => ⟨⟨A, cc, f, .own 64 1 (.slice A 4 cc) 4 (plS4 f 4) :: R⟩, rfl, fun w1 h1 => ⟨okAll_rd (T := 64) (sz := 1) (n := 4) (c := cc) h1 (.head _), fun j hj => hR w1 (fun x hx => h1 x (.tail _ hx)) j hj⟩, hw.sub⟩

theorem refWith08 (f : Nat → Nat) (A : Option Addr) (c : Nat) (hires : Bool) (mask : Int) (k b : Nat) (hk : k < 4) (w : World) (hA : Rd w A (plS4 f 4)) :
    Calls Try.prog 47 #[.agg #[.slice A 4 c, .bool hires, .int .i64 mask], .int .i64 (k : Int), .slice (some ⟨b, 0, none⟩) 8192 8192] w fun e w' => ∃ i : Option Addr × Nat, e = .returned (.agg #[.slice i.1 4 i.2, .bool hires, .int .i64 mask]) ∧ (True) ∧ Sat w [] ([.own 64 1 (.slice i.1 4 i.2) 4 (plS4 (setF f k b) 4)]) w' := by
  obtain ⟨ba, oa, rfl⟩ := rs_some hA
  refine enter Try.func47 rfl rfl rfl ?_
  refine r_seq ?_
  refine r_region ?_
  refine r_boxV rfl rfl fun b3 => ?_
  refine r_allocV (cs := #[.slice none 0 0, .bool false, .int .i64 0]) (by kernel_rfl) rfl fun b6 => ?_
  refine r_nil ?_
  refine r_tn ?_
  refine r_seq ?_
  refine r_region ?_
  refine r_fieldAddr (off := 1) (o' := 1) rfl rfl rfl rfl ?_
  refine r_load1 rfl rfl rfl (by rfl) ?_
  refine r_fieldAddr (off := 2) (o' := 2) rfl rfl rfl rfl ?_
  refine r_load1 rfl rfl rfl (by rfl) ?_
  refine r_build (cells := #[.slice none 0 0, .bool hires, .int .i64 mask]) rfl rfl (by kernel_rfl) ?_
  refine r_allocV (cs := #[.slice none 0 0, .bool false, .int .i64 0]) (by kernel_rfl) rfl fun b7 => ?_
  refine r_storeV rfl rfl rfl rfl rfl rfl ?_
  refine r_nil ?_
  refine r_tn ?_
  refine r_seq ?_
  refine r_seq ?_
  refine r_region ?_
  refine r_assign rfl rfl ?_
  refine r_nil ?_
  refine r_tn ?_
  refine r_block ?_
  refine Run.ownNil 64 1 ?_
  refine r_loop2 (fun j A7 c7 => [(1, .int .i64 (k : Int)), (2, .slice (some ⟨b, 0, none⟩) 8192 8192), (3, .pointer (some ⟨b3, 0, none⟩)), (6, .pointer (some ⟨b6, 0, none⟩)), (7, .pointer (some ⟨b7, 0, none⟩)), (8, .int .i64 (j : Int))]) (fun j A7 c7 => [.blk b3 (.cells #[.slice (some ⟨ba, oa, none⟩) 4 c, .bool hires, .int .i64 mask] 36 (0, 0)), .blk b6 (.cells #[.slice none 0 0, .bool false, .int .i64 0] 36 (0, 0)), .blk b7 (.cells #[.slice A7 j c7, .bool hires, .int .i64 mask] 36 (0, 0)), .own 64 1 (.slice A7 j c7) j (plS4 (setF f k b) j)]) (fun j A7 c7 => j ≤ 4) 4 0 none 0 (by omega) ⟨rfl, rfl, rfl, rfl, rfl, rfl, trivial⟩ (fun w hw => by rw [plS4_zero]; have h2 : Sat _ _ [.blk b3 (.cells #[.slice (some ⟨ba, oa, none⟩) 4 c, .bool hires, .int .i64 mask] 36 (0, 0)), .blk b6 (.cells #[.slice none 0 0, .bool false, .int .i64 0] 36 (0, 0)), .blk b7 (.cells #[.slice none 0 0, .bool hires, .int .i64 mask] 36 (0, 0)), .own 64 1 (.slice none 0 0) 0 ([])] w := hw.sub; exact h2) fun j A7 c7 hj => ?_
  refine r_seq ?_
  refine r_seq ?_
  refine r_region ?_
  refine r_move rfl rfl ?_
  refine r_lss rfl rfl rfl rfl ?_
  refine r_nil ?_
  refine r_tn ?_
  refine r_cond rfl (fun hc => ?_) (fun hc => ?_)
  · refine r_skip ?_
    refine r_tn ?_
    refine r_seq ?_
    refine r_block ?_
    refine r_seq ?_
    refine r_region ?_
    have hk2 : j < 4 := by have h := of_decide_eq_true hc; omega
    clear hc
    refine r_move rfl rfl ?_
    refine r_move rfl rfl ?_
    refine r_eql (p := decide (j = k)) rfl rfl rfl (decide_eq_decide.2 ⟨fun h => by omega, fun h => by omega⟩) ?_
    refine r_nil ?_
    refine r_tn ?_
    refine r_cond rfl (fun hc => ?_) (fun hc => ?_)
    · refine r_region ?_
      refine r_fieldAddr (off := 0) (o' := 0) rfl rfl rfl rfl ?_
      refine r_load1 rfl rfl rfl (by rfl) ?_
      refine r_move rfl rfl ?_
      refine r_lit (sz := 1) (pv := [(0, .slice (some ⟨b, 0, none⟩) 8192 8192)]) (cells := #[.slice (some ⟨b, 0, none⟩) 8192 8192]) rfl rfl rfl rfl rfl rfl (by kernel_rfl) rfl (fun b24 => ?_) (by decide)
      refine r_append (k := 1) (news := [.slice (some ⟨b, 0, none⟩) 8192 8192]) (sz := 1) (bytes := 24) rfl rfl rfl rfl rfl rfl (by decide) (fun w hw => own_rd (A := some ⟨b24, 0, none⟩) (m := 1) (c := 1) hw) rfl (fun u hu => by rw [List.mem_singleton.1 hu]; rfl) (by omega) (by unfold maxLen; omega) fun A25 c25 => ?_
      refine r_fieldAddr (off := 0) (o' := 0) rfl rfl rfl rfl ?_
      refine r_store (m := 1) (cs' := #[.slice A25 (j + 1) c25, .bool hires, .int .i64 mask]) rfl rfl rfl rfl (Nat.le_of_ble_eq_true rfl) rfl rfl ?_
      refine r_nil ?_
      refine r_bn ?_
      refine r_tn ?_
      refine r_region ?_
      refine r_move rfl rfl ?_
      refine r_add rfl rfl rfl (w64 (by omega)) ?_
      refine r_assign rfl rfl ?_
      refine r_nil ?_
      refine r_tn ?_
      first | exact r_again2 (j + 1) A25 c25 (by omega) (by omega) ⟨rfl, rfl, rfl, rfl, rfl, rfl, trivial⟩ (fun w hw => by rw [plS4_succ (setF f k b) j _ (by unfold setF; rw [if_pos (of_decide_eq_true hc)])] at hw; exact hw.sub) | exact r_again2 (j + 1) A35 c35 (by omega) (by omega) ⟨rfl, rfl, rfl, rfl, rfl, rfl, trivial⟩ (fun w hw => by rw [plS4_succ (setF f k b) j _ (by unfold setF; rw [if_neg (of_decide_eq_false hc)])] at hw; exact hw.sub)
    · refine r_mixedD { xb := [], rb := [b7], rs := [28], fs := [], acs := [34] } (by kernel_rfl) (by kernel_rfl) (fun w hw k hk => by
        simp only [List.mem_cons, List.not_mem_nil, or_false] at hk
        rcases hk with rfl <;> exact Sat.lt hw) ?_
      refine r_fieldAddr (off := 0) (o' := 0) rfl rfl rfl rfl ?_
      refine r_load1 rfl rfl rfl (by rfl) ?_
      refine r_fieldAddr (off := 0) (o' := 0) rfl rfl rfl rfl ?_
      refine r_load1 rfl rfl rfl (by rfl) ?_
      refine r_move rfl rfl ?_
      refine r_indexSl (sz := 1) (o' := oa + j) rfl rfl rfl rfl rfl (by omega) (by omega) (by omega) ?_
      refine r_loadC (p := ⟨ba, oa + j, none⟩) (v := .slice (some ⟨f j, 0, none⟩) 8192 8192) rfl rfl rfl (fun w hw => (hA.keep hw).cell (plS4_at f hk2) rfl) ?_
      refine r_lit (sz := 1) (pv := [(0, .slice (some ⟨f j, 0, none⟩) 8192 8192)]) (cells := #[.slice (some ⟨f j, 0, none⟩) 8192 8192]) rfl rfl rfl rfl rfl rfl (by kernel_rfl) rfl (fun b34 => ?_) (by decide)
      refine r_append (k := 1) (news := [.slice (some ⟨f j, 0, none⟩) 8192 8192]) (sz := 1) (bytes := 24) rfl rfl rfl rfl rfl rfl (by decide) (fun w hw => own_rd (A := some ⟨b34, 0, none⟩) (m := 1) (c := 1) hw) rfl (fun u hu => by rw [List.mem_singleton.1 hu]; rfl) (by omega) (by unfold maxLen; omega) fun A35 c35 => ?_
      refine r_fieldAddr (off := 0) (o' := 0) rfl rfl rfl rfl ?_
      refine r_store (m := 1) (cs' := #[.slice A35 (j + 1) c35, .bool hires, .int .i64 mask]) rfl rfl rfl rfl (Nat.le_of_ble_eq_true rfl) rfl rfl ?_
      refine r_nil ?_
      refine r_bn ?_
      refine r_tn ?_
      refine r_region ?_
      refine r_move rfl rfl ?_
      refine r_add rfl rfl rfl (w64 (by omega)) ?_
      refine r_assign rfl rfl ?_
      refine r_nil ?_
      refine r_tn ?_
      first | exact r_again2 (j + 1) A25 c25 (by omega) (by omega) ⟨rfl, rfl, rfl, rfl, rfl, rfl, trivial⟩ (fun w hw => by rw [plS4_succ (setF f k b) j _ (by unfold setF; rw [if_pos (of_decide_eq_true hc)])] at hw; exact hw.sub) | exact r_again2 (j + 1) A35 c35 (by omega) (by omega) ⟨rfl, rfl, rfl, rfl, rfl, rfl, trivial⟩ (fun w hw => by rw [plS4_succ (setF f k b) j _ (by unfold setF; rw [if_neg (of_decide_eq_false hc)])] at hw; exact hw.sub)
  · refine r_exit ?_
    refine r_te ?_
    refine r_te ?_
    refine r_be ?_
    refine r_tn ?_
    refine r_seq ?_
    refine r_region ?_
    have hk3 : j = 4 := by have h := of_decide_eq_false hc; omega
    subst hk3
    refine r_loadV rfl rfl rfl rfl rfl ?_
    refine r_storeV rfl rfl rfl rfl rfl rfl ?_
    refine r_nil ?_
    refine r_tn ?_
    refine r_ret ?_
    exact r_done1 (.inl rfl) rfl (res_cellV rfl rfl rfl rfl) fun w hw => ⟨(A7, c7), rfl, trivial, hw.sub⟩

theorem refSel08 (i : RSc) (hires : Bool) (mask m : Int) (w : World) :
    Calls Try.prog 29 #[.agg (rsV i hires mask), .int .i64 m] w fun e w' => e = .returned (.agg (rsV i hires m)) ∧ Sat w [] [] w' := by
  refine enter Try.func29 rfl rfl rfl ?_
  refine r_seq ?_
  refine r_region ?_
  refine r_boxV rfl rfl fun b2 => ?_
  refine r_allocV (cs := #[.slice none 0 0, .bool false, .int .i64 0]) (by kernel_rfl) rfl fun b4 => ?_
  refine r_nil ?_
  refine r_tn ?_
  refine r_seq ?_
  refine r_region ?_
  refine r_fieldAddr (off := 0) (o' := 0) rfl rfl rfl rfl ?_
  refine r_load1 rfl rfl rfl (by rfl) ?_
  refine r_fieldAddr (off := 1) (o' := 1) rfl rfl rfl rfl ?_
  refine r_load1 rfl rfl rfl (by rfl) ?_
  refine r_move rfl rfl ?_
  refine r_build (cells := rsV i hires m) rfl rfl (by kernel_rfl) ?_
  refine r_storeV rfl rfl rfl rfl rfl rfl ?_
  refine r_nil ?_
  refine r_tn ?_
  refine r_ret ?_
  exact r_done1 (.inl rfl) rfl (res_cellV rfl rfl rfl rfl) fun w hw => ⟨rfl, hw.clear⟩
end Go.Proofs.Ytgamehjakgcgnaa
