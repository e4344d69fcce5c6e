/-
  Records (chapter 23): Encode and Decode, and the records of awake.
-/
import Derived.Test.YtgicjkjppnkodaaBackA
namespace Go.Proofs.Ytgicjkjppnkodaa
open Go Go.RowKit
set_option linter.unusedVariables false
set_option linter.unusedSimpArgs false
set_option maxHeartbeats 2000000
set_option maxRecDepth 4000
attribute [local irreducible] mix

theorem recsL_one (r : Rec) : recsL [r] = recL r := by simp [recsL]
theorem recsL_nil : recsL [] = [] := rfl
theorem topB_cells (l : List Rec) : ([Value.int .u8 67, .int .u8 56, .int .u8 82, .int .u8 49] ++ (be 4 l.length).map (Value.int .u8)) ++ (l.flatMap encB).map (Value.int .u8) = (topB l).map (Value.int .u8) := by
  unfold topB magicL
  simp only [List.map_append, List.map_cons, List.map_nil, List.append_assoc, List.cons_append, List.nil_append]
theorem encodeT23 (l : List Rec) (A : Option Addr) (c : Nat) (hok : ∀ r ∈ l, r.pat.length = 16) (hval : ∀ r ∈ l, validR r = true) (hlen : l.length ≤ 1048576) (w : World) (hA : Rd w A (recsL l)) :
    Calls Try.prog 13 #[.slice A l.length c] w fun e w' => ∃ i : Option Addr × Nat, e = .returned (.tuple #[.slice i.1 (topB l).length i.2, .int .i64 0]) ∧ True ∧ Sat w [] [.own 5 1 (.slice i.1 (topB l).length i.2) (topB l).length ((topB l).map (Value.int .u8))] w' := by
  have h := encode23_ok l A c hok hval hlen w hA
  rw [topB_cells, ← top_len] at h
  exact h
theorem decodeOK23 (rs : List Rec) (A : Option Addr) (c : Nat) (ok : ∀ r ∈ rs, okR r) (hv : ∀ r ∈ rs, validR r = true) (hn : rs.length ≤ 1048576) (hmc : (topB rs).length ≤ c) (hm48 : (topB rs).length ≤ 140737488355328) (w : World) (hR : Rd w A ((topB rs).map (Value.int .u8))) :
    Calls Try.prog 16 #[.slice A (topB rs).length c] w fun e w' => ∃ i : Option Addr × Nat, e = .returned (.tuple #[.slice i.1 rs.length i.2, .int .i64 0]) ∧ True ∧ Sat w [] [.own 48 535 (.slice i.1 rs.length i.2) rs.length (recsL rs)] w' := by
  refine (decodeT23long (topB rs) A c (by rw [top_len]; omega) hmc hm48 (top_bytes ok) w hR).mono fun e w' h => ?_
  obtain ⟨i, he, ht, hs⟩ := h
  have h2 := top_dec (rest := []) ok hv hn (fun z hz => by cases hz)
  rw [List.append_nil] at h2
  rw [h2] at ht
  cases i with
  | none => cases ht
  | some i =>
    obtain ⟨e1, e2⟩ := top_recs ok hv hn
    have he : e = .returned (.tuple #[.slice i.1 (topN (topB rs)) i.2, .int .i64 0]) := he
    have hs : Sat w [] [.own 48 535 (.slice i.1 (topN (topB rs)) i.2) (topN (topB rs)) (recsL (tR (topB rs) (topN (topB rs))))] w' := hs
    rw [e1] at he
    rw [e2, e1] at hs
    exact ⟨i, he, trivial, hs⟩
theorem decodeT23 (l : List Int) (A : Option Addr) (c : Nat) (hmc : l.length ≤ c) (hm48 : l.length ≤ 140737488355328) (hl8 : bytesB l) (w : World) (hR : Rd w A (l.map (Value.int .u8))) :
    Calls Try.prog 16 #[.slice A l.length c] w fun e w' => ∃ i : Option (Option Addr × Nat), e = .returned (decV l i) ∧ topOK l = i.isSome ∧ Sat w [] (decA l i) w' :=
  if h : 4 ≤ l.length then decodeT23long l A c h hmc hm48 hl8 w hR else decodeT23short l A c (by omega) hmc hm48 hl8 w hR
theorem decodeBad23 (l : List Int) (A : Option Addr) (c : Nat) (hbad : topOK l = false) (hmc : l.length ≤ c) (hm48 : l.length ≤ 140737488355328) (hl8 : bytesB l) (w : World) (hR : Rd w A (l.map (Value.int .u8))) :
    Calls Try.prog 16 #[.slice A l.length c] w fun e w' => e = .returned (.tuple #[.slice none 0 0, .int .i64 6]) ∧ Sat w [] [] w' := by
  refine (decodeT23 l A c hmc hm48 hl8 w hR).mono fun e w' h => ?_
  obtain ⟨i, he, ht, hs⟩ := h
  rw [hbad] at ht
  cases i with
  | none => exact ⟨he, hs⟩
  | some i => cases ht
def PA (k y x : Nat) : Bool := k == 2 && (y == 0 && x == 63)
def PS (k y x : Nat) : Bool := PA k y x || (k == 0 && (y == 0 && x == 127))
def recA0 : Rec := { rec0 with P := PA }
def recA : Rec := ⟨PA, false, false, List.replicate 16 0, 0, 3, 4, 514, 7⟩
def recS : Rec := ⟨PS, false, false, List.replicate 16 0, 0, 3, 4, 514, 7⟩
theorem recA0_set : (recV rec0).setIfInBounds 256 (.int .u64 1) = recV recA0 := by kernel_rfl
theorem recA_set : splice (recV recA0) 531 #[.int .i64 3, .int .i64 4, .int .i64 514, .int .i64 7] = recV recA := by kernel_rfl
theorem recS_set : (recV recA).setIfInBounds 1 (.int .u64 1) = recV recS := by kernel_rfl
theorem usedA (k : Nat) : usedF PA k = (k == 2) := by
  unfold usedF
  cases h : (k == 2) with
  | true =>
    have hk : k = 2 := by simpa using h
    subst hk
    cases he : eqQ (PA 2) noneQ with
    | false => rfl
    | true => exact absurd ((eqQ_iff _ _).1 he 0 (by decide) 63 (by decide)) (by decide)
  | false =>
    rw [(eqQ_iff _ _).2 (fun y _ x _ => by unfold PA; rw [h]; rfl)]
    rfl
theorem validA : validR recA = true := by
  have hf : ∀ k, fitsB (PA k) false = true := fun k => (fitsB_iff _ _).2 fun y hy x hx hp => by
    unfold PA at hp
    simp only [Bool.and_eq_true, beq_iff_eq] at hp
    have e1 : wd false = 64 := rfl
    have e2 : ht false = 32 := rfl
    omega
  unfold validR
  show (((((true && fitsB (PA 0) false) && fitsB (PA 1) false) && fitsB (PA 2) false) && fitsB (PA 3) false) && statusB 3 4 514 7) = true
  rw [hf, hf, hf, hf]
  decide
theorem validS : validR recS = false := by
  have hf : fitsB (PS 0) false = false := by
    cases h : fitsB (PS 0) false with
    | false => rfl
    | true => exact absurd ((fitsB_iff _ _).1 h 0 (by decide) 127 (by decide) (by decide)).1 (by decide)
  unfold validR
  show (((((true && fitsB (PS 0) false) && fitsB (PS 1) false) && fitsB (PS 2) false) && fitsB (PS 3) false) && statusB 3 4 514 7) = false
  rw [hf]
  rfl
theorem okA : okR recA := ⟨rfl, fun z hz => by rw [(List.mem_replicate.1 hz).2]; decide, by decide, by decide⟩
theorem lenA : (topB [recA]).length = 1063 := by
  have e : lenB PA 4 = 1024 := by
    show (((0 + if usedF PA 0 then 1024 else 0) + if usedF PA 1 then 1024 else 0) + if usedF PA 2 then 1024 else 0) + (if usedF PA 3 then 1024 else 0) = 1024
    rw [usedA, usedA, usedA, usedA]
    rfl
  rw [top_len, List.flatMap_cons, List.flatMap_nil, List.append_nil, encB_len recA rfl]
  show 8 + (31 + lenB PA 4) = 1063
  rw [e]
theorem topB_nil : topB [] = [67, 56, 82, 49, 0, 0, 0, 0] := by decide
theorem magic_bad : topOK [67, 56, 82, 49] = false := by decide +kernel
theorem one_mem {P : Rec → Prop} {r : Rec} (h : P r) : ∀ r2 ∈ [r], P r2 := fun r2 hr => by rw [List.mem_singleton.1 hr]; exact h
theorem no_mem {P : Rec → Prop} : ∀ r2 ∈ ([] : List Rec), P r2 := fun r2 hr => by cases hr

end Go.Proofs.Ytgicjkjppnkodaa
