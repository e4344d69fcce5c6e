/-
  Records (chapter 23): Of.
-/
import Derived.Test.YtdkgnnieehidbaaDoorSeed23
namespace Go.Proofs.YtdkgnnieehidbaaDoor
open Go Go.RowKit
set_option linter.unusedVariables false
set_option linter.unusedSimpArgs false
set_option maxHeartbeats 2000000
set_option maxRecDepth 4000
attribute [local irreducible] mix

/-! things whose list has a tail that is not told -/
class TailRes (H2 H : List Res) : Prop where
  sub : ∃ G, H.Perm (H2 ++ G)
instance TailRes.refl (R : List Res) : TailRes R R := ⟨⟨[], by rw [List.append_nil]⟩⟩
instance TailRes.skip (R H : List Res) (x : Res) [h : TailRes R H] : TailRes R (x :: H) := ⟨by
  obtain ⟨G, hp⟩ := h.sub
  exact ⟨x :: G, (hp.cons x).trans List.perm_middle.symm⟩⟩
instance TailRes.app0 (R B : List Res) [h : TailRes R B] : TailRes R ([] ++ B) := h
instance TailRes.app (R A B : List Res) (x : Res) [h : TailRes R (x :: (A ++ B))] : TailRes R ((x :: A) ++ B) := h
instance (priority := low) SubRes.tail (R H : List Res) [h : TailRes R H] : SubRes R H := ⟨h.sub⟩
/-- all things of a list are there -/
def OkAll (R : List Res) (w : World) : Prop := ∀ x, x ∈ R → x.ok w
theorem Sat.okAll {w0 w : World} {S : List Nat} {H R : List Res} (h : Sat w0 S H w) (hs : Sat w0 S H w → Sat w0 S R w) : OkAll R w := (hs h).ok
structure Card where
  sd : List Int
  wide : Bool
  hires : Bool
  sound : Bool
  pat : List Int
  pitch : Int
  kind : Int
  cause : Int
  pc : Int
  cycle : Int
def okC (c : Card) : Prop := c.sd.length = 12 ∧ c.pat.length = 16
def cardT (c : Card) : List Value := [Value.bool c.wide, .bool c.hires, .bool c.sound] ++ (c.pat.map (Value.int .u8) ++ [.int .u8 c.pitch, .int .i64 c.kind, .int .i64 c.cause, .int .i64 c.pc, .int .i64 c.cycle])
def cardL (c : Card) : List Value := c.sd.map (Value.int .i64) ++ cardT c
def cardV (c : Card) : Array Value := (cardL c).toArray
theorem cardT_len {c : Card} (h : okC c) : (cardT c).length = 24 := by simp [cardT, h.2]
theorem cardL_len {c : Card} (h : okC c) : (cardL c).length = 36 := by simp [cardL, cardT_len h, h.1]
theorem cardV_size {c : Card} (h : okC c) : (cardV c).size = 36 := by
  show (cardL c).toArray.size = 36
  rw [List.size_toArray, cardL_len h]
theorem cardV_tail {c : Card} (h : okC c) (i : Nat) : (cardV c)[12 + i]? = (cardT c)[i]? := by
  show (cardL c).toArray[12 + i]? = _
  rw [List.getElem?_toArray]
  unfold cardL
  rw [List.getElem?_append, List.length_map, h.1, if_neg (by omega), Nat.add_sub_cancel_left]
theorem cardT_pat (c : Card) (i : Nat) : (cardT c)[3 + i]? = (c.pat.map (Value.int .u8) ++ [Value.int .u8 c.pitch, .int .i64 c.kind, .int .i64 c.cause, .int .i64 c.pc, .int .i64 c.cycle])[i]? := by
  unfold cardT
  rw [List.getElem?_append, if_neg (by simp), show 3 + i - [Value.bool c.wide, Value.bool c.hires, Value.bool c.sound].length = i by simp]
theorem cardT_end {c : Card} (h : okC c) (i : Nat) : (cardT c)[19 + i]? = ([Value.int .u8 c.pitch, .int .i64 c.kind, .int .i64 c.cause, .int .i64 c.pc, .int .i64 c.cycle])[i]? := by
  rw [show 19 + i = 3 + (16 + i) by omega, cardT_pat, List.getElem?_append, List.length_map, h.2, if_neg (by omega), Nat.add_sub_cancel_left]
theorem card_wide {c : Card} (h : okC c) : (cardV c)[12]? = some (.bool c.wide) := cardV_tail h 0
theorem card_hires {c : Card} (h : okC c) : (cardV c)[13]? = some (.bool c.hires) := cardV_tail h 1
theorem card_sound {c : Card} (h : okC c) : (cardV c)[14]? = some (.bool c.sound) := cardV_tail h 2
theorem card_pitch {c : Card} (h : okC c) : (cardV c)[31]? = some (.int .u8 c.pitch) := (cardV_tail h 19).trans (cardT_end h 0)
theorem card_pat {c : Card} (h : okC c) {j : Nat} {u : Value} (hj : (c.pat.map (Value.int .u8))[j]? = some u) : (cardV c)[15 + j]? = some u := by
  have hlt := (List.getElem?_eq_some_iff.1 hj).1
  rw [show 15 + j = 12 + (3 + j) by omega, cardV_tail h, cardT_pat, List.getElem?_append, if_pos hlt]
  exact hj
theorem card_status {c : Card} (h : okC c) : (cardV c).extract 32 36 = #[.int .i64 c.kind, .int .i64 c.cause, .int .i64 c.pc, .int .i64 c.cycle] := by
  apply Array.ext_getElem?
  intro i
  rw [Array.getElem?_extract, cardV_size h]
  rcases i with _ | _ | _ | _ | i
  · rw [if_pos (by omega)]; exact (cardV_tail h 20).trans (cardT_end h 1)
  · rw [if_pos (by omega)]; exact (cardV_tail h 21).trans (cardT_end h 2)
  · rw [if_pos (by omega)]; exact (cardV_tail h 22).trans (cardT_end h 3)
  · rw [if_pos (by omega)]; exact (cardV_tail h 23).trans (cardT_end h 4)
  · rw [if_neg (by omega)]; simp
theorem card_sd {c : Card} (h : okC c) {i : Nat} (hi : i < 12) : (cardV c)[i]? = some (.int .i64 (c.sd.getD i 0)) := by
  show (cardL c).toArray[i]? = _
  rw [List.getElem?_toArray]
  unfold cardL
  have hl : i < c.sd.length := by rw [h.1]; exact hi
  rw [List.getElem?_append, List.length_map, if_pos hl]
  simp [hl]
theorem card_seed {c : Card} (h : okC c) {k : Nat} (hk : k < 4) : (cardV c).extract (0 + 3 * k) (0 + 3 * k + 3) = #[.int .i64 (c.sd.getD (3 * k) 0), .int .i64 (c.sd.getD (3 * k + 1) 0), .int .i64 (c.sd.getD (3 * k + 2) 0)] := by
  apply Array.ext_getElem?
  intro i
  rw [Array.getElem?_extract, cardV_size h]
  rcases i with _ | _ | _ | i
  · rw [if_pos (by omega), Nat.zero_add]; exact card_sd h (by omega)
  · rw [if_pos (by omega), Nat.zero_add]; exact card_sd h (by omega)
  · rw [if_pos (by omega), Nat.zero_add]; exact card_sd h (by omega)
  · rw [if_neg (by omega)]; simp
/-- the record of a card -/
def recOf (c : Card) : Rec := ⟨fun k => seedQ (c.sd.getD (3 * k) 0) (c.sd.getD (3 * k + 1) 0) (c.sd.getD (3 * k + 2) 0) c.wide, c.hires, c.sound, c.pat, c.pitch, c.kind, c.cause, c.pc, c.cycle⟩
/-- where a record of the reference lies -/
structure RefIx where
  a : Nat
  c : Nat
  b : Nat
  d : Nat
  f : Nat → Nat
  R : List Res
def plS4 (f : Nat → Nat) (k : Nat) : List Value := (List.range k).map fun j => .slice (some ⟨f j, 0, none⟩) 8192 8192
def refV (r : Rec) (i : RefIx) : Array Value := #[.slice (some ⟨i.a, 0, none⟩) 4 i.c, .bool r.hires, .bool r.sound, .slice (some ⟨i.b, 0, none⟩) 16 i.d, .int .u8 r.pitch, .int .i64 r.kind, .int .i64 r.cause, .int .i64 r.pc, .int .i64 r.cycle]
def RefIs (w : World) (r : Rec) (i : RefIx) : Prop := Rd w (some ⟨i.a, 0, none⟩) (plS4 i.f 4) ∧ Rd w (some ⟨i.b, 0, none⟩) (r.pat.map (Value.int .u8)) ∧ ∀ j, j < 4 → Rd w (some ⟨i.f j, 0, none⟩) (boolsN 8192 (flatP (r.P j)))
theorem okAll_rd {R : List Res} {w : World} (h : OkAll R w) {T sz n c : Nat} {A : Option Addr} {xs : List Value} (hm : Res.own T sz (.slice A n c) n xs ∈ R) : Rd w A xs := owns_rd (h _ hm)
theorem RefIs.keep {w w1 : World} {r : Rec} {i : RefIx} {H : List Res} (h : RefIs w r i) (hw : Sat w [] H w1) : RefIs w1 r i := ⟨h.1.keep hw, h.2.1.keep hw, fun j hj => (h.2.2 j hj).keep hw⟩
def setF (f : Nat → Nat) (k b j : Nat) : Nat := if j = k then b else f j
theorem tells_step {R : List Res} {f : Nat → Nat} {k b : Nat} {P : Nat → Nat → Nat → Bool} (hR : ∀ w1, OkAll R w1 → ∀ j, j < k → Rd w1 (some ⟨f j, 0, none⟩) (boolsN 8192 (flatP (P j)))) :
    ∀ w1, OkAll (.own 4 1 (.slice (some ⟨b, 0, none⟩) 8192 8192) 8192 (boolsN 8192 (flatP (P k))) :: R) w1 → ∀ j, j < k + 1 → Rd w1 (some ⟨setF f k b j, 0, none⟩) (boolsN 8192 (flatP (P j))) := fun w1 h1 j hj => by
  unfold setF
  by_cases e : j = k
  · subst e
    rw [if_pos rfl]
    exact owns_rd (h1 _ (.head _))
  · rw [if_neg e]
    exact hR w1 (fun x hx => h1 x (.tail _ hx)) j (by omega)
theorem plS4_at (f : Nat → Nat) {k j : Nat} (h : j < k) : (plS4 f k)[j]? = some (.slice (some ⟨f j, 0, none⟩) 8192 8192) := by simp [plS4, h]
theorem plS4_snoc (f : Nat → Nat) (k b : Nat) : plS4 f k ++ [.slice (some ⟨b, 0, none⟩) 8192 8192] = plS4 (setF f k b) (k + 1) := by
  unfold plS4 setF
  rw [List.range_succ, List.map_append]
  congr 1
  · apply List.map_congr_left
    intro j hj
    have hj := List.mem_range.1 hj
    show _ = Value.slice (some ⟨if j = k then b else f j, 0, none⟩) 8192 8192
    rw [if_neg (by omega)]
  · simp


theorem of23 (c : Card) (hc0 : okC c) (w : World) :
    Calls Tryd.prog 8 #[.agg (cardV c)] w fun e w' => ∃ i : RefIx, e = .returned (.agg (refV (recOf c) i)) ∧ (∀ w1, OkAll i.R w1 → RefIs w1 (recOf c) i) ∧ Sat w [] i.R w' := by
  refine enter Tryd.func8 rfl rfl rfl ?_
  refine r_seq ?_
  refine r_region ?_
  refine r_boxV rfl rfl fun b1 => ?_
  refine r_allocV (cs := #[.slice none 0 0, .bool false, .bool false, .slice none 0 0, .int .u8 0, .int .i64 0, .int .i64 0, .int .i64 0, .int .i64 0]) (by kernel_rfl) rfl fun b2 => ?_
  refine r_nil ?_
  refine r_tn ?_
  refine r_seq ?_
  refine r_tree { xb := [], rb := [b1], rs := [6, 8, 14, 16], fs := [], acs := [3, 9, 12] } (.take 0 (.take 1 (.take 2 (.take 3 (.take 5 (.take 6 (.take 8 (.take 9 (.take 10 (.take 11 (.fork 4 (.fork 7 (.take 12 (.take 13 (.take 14 .done))) 13 (.take 7 (.take 12 (.take 14 .done)))) 13 (.take 4 (.take 7 (.take 12 (.take 14 .done))))))))))))))) (by kernel_rfl) (by kernel_rfl) (fun w hw k hk => by
    simp only [List.mem_cons, List.not_mem_nil, or_false] at hk
    rcases hk with rfl <;> exact Sat.lt hw) ?_
  refine r_take rfl ?_
  refine r_fieldAddr (off := 13) (o' := 13) rfl rfl rfl rfl ?_
  refine r_nil ?_
  refine r_take rfl ?_
  refine r_load1 rfl rfl rfl (card_hires hc0) ?_
  refine r_nil ?_
  refine r_take rfl ?_
  refine r_fieldAddr (off := 14) (o' := 14) rfl rfl rfl rfl ?_
  refine r_nil ?_
  refine r_take rfl ?_
  refine r_load1 rfl rfl rfl (card_sound hc0) ?_
  refine r_nil ?_
  refine r_take rfl ?_
  refine r_fieldAddr (off := 15) (o' := 15) rfl rfl rfl rfl ?_
  refine r_nil ?_
  refine r_take rfl ?_
  refine r_sliceArr rfl rfl rfl rfl ?_
  refine r_nil ?_
  refine r_take rfl ?_
  refine r_fieldAddr (off := 31) (o' := 31) rfl rfl rfl rfl ?_
  refine r_nil ?_
  refine r_take rfl ?_
  refine r_load1 rfl rfl rfl (card_pitch hc0) ?_
  refine r_nil ?_
  refine r_take rfl ?_
  refine r_fieldAddr (off := 32) (o' := 32) rfl rfl rfl rfl ?_
  refine r_nil ?_
  refine r_take rfl ?_
  refine r_loadN (m := 4) rfl rfl rfl rfl (by rw [cardV_size hc0]; decide) (card_status hc0) ?_
  refine r_nil ?_
  refine r_fork rfl rfl ?_ ?_
  · refine r_lit (sz := 1) (pv := []) (cells := #[]) rfl rfl rfl rfl rfl rfl (by kernel_rfl) rfl (fun b9 => ?_) (by decide)
    refine r_nil ?_
    refine r_fork rfl rfl ?_ ?_
    · refine r_appendG (k := 16) (xs := []) (news := c.pat.map (Value.int .u8)) (sz := 1) (bytes := 1) rfl rfl rfl rfl rfl rfl (fun w hw => Rd.nil w _) rfl (fun w hw => (Rd.blk (hw.look (HasBlk.pick (b := b1))) (fun j u h => card_pat hc0 h))) (by simp [hc0.2]) (by omega) (Nat.le_refl _) (by omega) (by unfold maxLen; omega) fun A12 c12 => ?_
      rw [show (0 : Nat) + 16 = 16 from rfl]
      refine r_nil ?_
      refine r_take rfl ?_
      refine r_build (cells := #[.slice none 0 0, .bool c.hires, .bool c.sound, .slice A12 16 c12, .int .u8 c.pitch, .int .i64 c.kind, .int .i64 c.cause, .int .i64 c.pc, .int .i64 c.cycle]) rfl rfl (by kernel_rfl) ?_
      refine r_nil ?_
      refine r_take rfl ?_
      refine r_allocV (cs := #[.slice none 0 0, .bool false, .bool false, .slice none 0 0, .int .u8 0, .int .i64 0, .int .i64 0, .int .i64 0, .int .i64 0]) (by kernel_rfl) rfl fun b3 => ?_
      refine r_nil ?_
      refine r_take rfl ?_
      refine r_storeV rfl rfl rfl rfl rfl rfl ?_
      refine r_nil ?_
      refine r_treeEnd ?_
      refine r_tn ?_
      refine r_seq ?_
      refine r_seq ?_
      refine r_region ?_
      refine r_assign rfl rfl ?_
      refine r_nil ?_
      refine r_tn ?_
      refine r_block ?_
      refine Run.ownNil 65 1 ?_
      refine r_loop4 (fun k A cc (f : Nat → Nat) (R : List Res) => [(1, .pointer (some ⟨b1, 0, none⟩)), (2, .pointer (some ⟨b2, 0, none⟩)), (3, .pointer (some ⟨b3, 0, none⟩)), (4, .int .i64 (k : Int))]) (fun k A cc f R => (.blk b1 (.cells (cardV c) 30 (0, 0)) :: .blk b2 (.cells #[.slice none 0 0, .bool false, .bool false, .slice none 0 0, .int .u8 0, .int .i64 0, .int .i64 0, .int .i64 0, .int .i64 0] 35 (0, 0)) :: .blk b3 (.cells #[.slice A k cc, .bool c.hires, .bool c.sound, .slice A12 16 c12, .int .u8 c.pitch, .int .i64 c.kind, .int .i64 c.cause, .int .i64 c.pc, .int .i64 c.cycle] 35 (0, 0)) :: .own 65 1 (.slice A k cc) k (plS4 f k) :: .own 5 1 (.slice A12 16 c12) 16 (c.pat.map (Value.int .u8)) :: R)) (fun k A cc f R => k ≤ 4 ∧ ∀ w1, OkAll R w1 → ∀ j, j < k → Rd w1 (some ⟨f j, 0, none⟩) (boolsN 8192 (flatP (seedQ (c.sd.getD (3 * j) 0) (c.sd.getD (3 * j + 1) 0) (c.sd.getD (3 * j + 2) 0) c.wide)))) 4 0 none 0 (fun _ => 0) [] ⟨by omega, fun w1 _ j hj => by omega⟩ ⟨rfl, rfl, rfl, rfl, trivial⟩ (fun w hw => by have h2 : Sat _ _ [.blk b1 (.cells (cardV c) 30 (0, 0)), .blk b2 (.cells #[.slice none 0 0, .bool false, .bool false, .slice none 0 0, .int .u8 0, .int .i64 0, .int .i64 0, .int .i64 0, .int .i64 0] 35 (0, 0)), .blk b3 (.cells #[.slice none 0 0, .bool c.hires, .bool c.sound, .slice A12 16 c12, .int .u8 c.pitch, .int .i64 c.kind, .int .i64 c.cause, .int .i64 c.pc, .int .i64 c.cycle] 35 (0, 0)), .own 65 1 (.slice none 0 0) 0 [], .own 5 1 (.slice A12 16 c12) 16 ([] ++ c.pat.map (Value.int .u8))] w := hw.sub; exact h2) fun k A cc f R hk => ?_
      obtain ⟨hk, hR⟩ := hk
      refine r_seq ?_
      refine r_seq ?_
      refine r_region ?_
      refine r_move rfl rfl ?_
      refine r_lss rfl rfl rfl rfl ?_
      refine r_nil ?_
      refine r_tn ?_
      refine r_cond rfl (fun hc => ?_) (fun hc => ?_)
      · refine r_skip ?_
        refine r_tn ?_
        refine r_seq ?_
        refine r_block ?_
        refine r_mixedD { xb := [], rb := [b3], rs := [23], fs := [], acs := [30, 31] } (by kernel_rfl) (by kernel_rfl) (fun w hw k hk => by
          simp only [List.mem_cons, List.not_mem_nil, or_false] at hk
          rcases hk with rfl <;> exact Sat.lt hw) ?_
        refine r_fieldAddr (off := 0) (o' := 0) rfl rfl rfl rfl ?_
        refine r_load1 rfl rfl rfl (by rfl) ?_
        have hk2 : k < 4 := by have h := of_decide_eq_true hc; omega
        refine r_move rfl rfl ?_
        refine r_fieldAddr (off := 0) (o' := 0) rfl rfl rfl rfl ?_
        refine r_indexArr (sz := 3) (o' := 0 + 3 * k) rfl rfl rfl rfl rfl (by omega) (by omega) (by omega) ?_
        refine r_loadN (m := 3) rfl rfl rfl rfl (by rw [cardV_size hc0]; omega) (card_seed hc0 hk2) ?_
        refine r_fieldAddr (off := 12) (o' := 12) rfl rfl rfl rfl ?_
        refine r_load1 rfl rfl rfl (card_wide hc0) ?_
        refine r_callx rfl rfl rfl (by kernel_rfl) rfl (fun w hw => by exact refPlane23 (c.sd.getD (3 * k) 0) (c.sd.getD (3 * k + 1) 0) (c.sd.getD (3 * k + 2) 0) c.wide w) ?_
        rintro b30 _
        refine r_lit (sz := 1) (pv := [(0, .slice (some ⟨b30, 0, none⟩) 8192 8192)]) (cells := #[.slice (some ⟨b30, 0, none⟩) 8192 8192]) rfl rfl rfl rfl rfl rfl (by kernel_rfl) rfl (fun b31 => ?_) (by decide)
        refine r_append (k := 1) (news := [.slice (some ⟨b30, 0, none⟩) 8192 8192]) (sz := 1) (bytes := 24) rfl rfl rfl rfl rfl rfl (by decide) (fun w hw => own_rd (A := some ⟨b31, 0, none⟩) (m := 1) (c := 1) hw) rfl (fun u hu => by rw [List.mem_singleton.1 hu]; rfl) (by omega) (by unfold maxLen; omega) fun A32 c32 => ?_
        refine r_fieldAddr (off := 0) (o' := 0) rfl rfl rfl rfl ?_
        refine r_store (m := 1) (cs' := #[.slice A32 (k + 1) c32, .bool c.hires, .bool c.sound, .slice A12 16 c12, .int .u8 c.pitch, .int .i64 c.kind, .int .i64 c.cause, .int .i64 c.pc, .int .i64 c.cycle]) rfl rfl rfl rfl (Nat.le_of_ble_eq_true rfl) rfl rfl ?_
        refine r_nil ?_
        refine r_bn ?_
        refine r_tn ?_
        refine r_region ?_
        refine r_move rfl rfl ?_
        refine r_add rfl rfl rfl (w64 (by omega)) ?_
        refine r_assign rfl rfl ?_
        refine r_nil ?_
        refine r_tn ?_
        exact r_again4 (k + 1) A32 c32 (setF f k b30) (.own 4 1 (.slice (some ⟨b30, 0, none⟩) 8192 8192) 8192 (boolsN 8192 (flatP (seedQ (c.sd.getD (3 * k) 0) (c.sd.getD (3 * k + 1) 0) (c.sd.getD (3 * k + 2) 0) c.wide))) :: R) ⟨by omega, tells_step (P := fun k => seedQ (c.sd.getD (3 * k) 0) (c.sd.getD (3 * k + 1) 0) (c.sd.getD (3 * k + 2) 0) c.wide) hR⟩ (by omega) ⟨rfl, rfl, rfl, rfl, trivial⟩ (fun w hw => by rw [plS4_snoc] at hw; have h2 : Sat _ _ ((.blk b1 (.cells (cardV c) 30 (0, 0)) :: .blk b2 (.cells #[.slice none 0 0, .bool false, .bool false, .slice none 0 0, .int .u8 0, .int .i64 0, .int .i64 0, .int .i64 0, .int .i64 0] 35 (0, 0)) :: .blk b3 (.cells #[.slice A32 (k + 1) c32, .bool c.hires, .bool c.sound, .slice A12 16 c12, .int .u8 c.pitch, .int .i64 c.kind, .int .i64 c.cause, .int .i64 c.pc, .int .i64 c.cycle] 35 (0, 0)) :: .own 65 1 (.slice A32 (k + 1) c32) (k + 1) (plS4 (setF f k b30) (k + 1)) :: .own 5 1 (.slice A12 16 c12) 16 (c.pat.map (Value.int .u8)) :: (.own 4 1 (.slice (some ⟨b30, 0, none⟩) 8192 8192) 8192 (boolsN 8192 (flatP (seedQ (c.sd.getD (3 * k) 0) (c.sd.getD (3 * k + 1) 0) (c.sd.getD (3 * k + 2) 0) c.wide))) :: R))) w := hw.sub; exact h2)
      · refine r_exit ?_
        refine r_te ?_
        refine r_te ?_
        refine r_be ?_
        refine r_tn ?_
        refine r_seq ?_
        refine r_region ?_
        have hk3 : k = 4 := by have h := of_decide_eq_false hc; omega
        subst hk3
        refine r_have (fun w hw => own_some (A := A) (m := 4) (c := cc) hw (by decide)) fun hga => ?_
        obtain ⟨ga, rfl⟩ := hga
        refine r_have (fun w hw => own_some (A := A12) (m := 16) (c := c12) hw (by decide)) fun hgb => ?_
        obtain ⟨gb, rfl⟩ := hgb
        refine r_loadV rfl rfl rfl rfl rfl ?_
        refine r_storeV rfl rfl rfl rfl rfl rfl ?_
        refine r_nil ?_
        refine r_tn ?_
        refine r_ret ?_
        exact r_done1 (.inl rfl) rfl (res_cellV rfl rfl rfl rfl) fun w hw => ⟨⟨ga, cc, gb, c12, f, .own 65 1 (.slice (some ⟨ga, 0, none⟩) 4 cc) 4 (plS4 f 4) :: .own 5 1 (.slice (some ⟨gb, 0, none⟩) 16 c12) 16 (c.pat.map (Value.int .u8)) :: R⟩, rfl, fun w1 h1 => ⟨okAll_rd (T := 65) (sz := 1) (n := 4) (c := cc) h1 (.head _), okAll_rd (T := 5) (sz := 1) (n := 16) (c := c12) h1 (.tail _ (.head _)), fun j hj => hR w1 (fun x hx => h1 x (.tail _ (.tail _ hx))) j hj⟩, hw.sub⟩
    · refine r_allocV (cs := #[.slice none 0 0, .bool false, .bool false, .slice none 0 0, .int .u8 0, .int .i64 0, .int .i64 0, .int .i64 0, .int .i64 0]) (by kernel_rfl) rfl fun b3 => ?_
      refine r_nil ?_
      refine r_take rfl ?_
      refine r_appendG (k := 16) (xs := []) (news := c.pat.map (Value.int .u8)) (sz := 1) (bytes := 1) rfl rfl rfl rfl rfl rfl (fun w hw => Rd.nil w _) rfl (fun w hw => (Rd.blk (hw.look (HasBlk.pick (b := b1))) (fun j u h => card_pat hc0 h))) (by simp [hc0.2]) (by omega) (Nat.le_refl _) (by omega) (by unfold maxLen; omega) fun A12 c12 => ?_
      rw [show (0 : Nat) + 16 = 16 from rfl]
      refine r_nil ?_
      refine r_take rfl ?_
      refine r_build (cells := #[.slice none 0 0, .bool c.hires, .bool c.sound, .slice A12 16 c12, .int .u8 c.pitch, .int .i64 c.kind, .int .i64 c.cause, .int .i64 c.pc, .int .i64 c.cycle]) rfl rfl (by kernel_rfl) ?_
      refine r_nil ?_
      refine r_take rfl ?_
      refine r_storeV rfl rfl rfl rfl rfl rfl ?_
      refine r_nil ?_
      refine r_treeEnd ?_
      refine r_tn ?_
      refine r_seq ?_
      refine r_seq ?_
      refine r_region ?_
      refine r_assign rfl rfl ?_
      refine r_nil ?_
      refine r_tn ?_
      refine r_block ?_
      refine Run.ownNil 65 1 ?_
      refine r_loop4 (fun k A cc (f : Nat → Nat) (R : List Res) => [(1, .pointer (some ⟨b1, 0, none⟩)), (2, .pointer (some ⟨b2, 0, none⟩)), (3, .pointer (some ⟨b3, 0, none⟩)), (4, .int .i64 (k : Int))]) (fun k A cc f R => (.blk b1 (.cells (cardV c) 30 (0, 0)) :: .blk b2 (.cells #[.slice none 0 0, .bool false, .bool false, .slice none 0 0, .int .u8 0, .int .i64 0, .int .i64 0, .int .i64 0, .int .i64 0] 35 (0, 0)) :: .blk b3 (.cells #[.slice A k cc, .bool c.hires, .bool c.sound, .slice A12 16 c12, .int .u8 c.pitch, .int .i64 c.kind, .int .i64 c.cause, .int .i64 c.pc, .int .i64 c.cycle] 35 (0, 0)) :: .own 65 1 (.slice A k cc) k (plS4 f k) :: .own 5 1 (.slice A12 16 c12) 16 (c.pat.map (Value.int .u8)) :: R)) (fun k A cc f R => k ≤ 4 ∧ ∀ w1, OkAll R w1 → ∀ j, j < k → Rd w1 (some ⟨f j, 0, none⟩) (boolsN 8192 (flatP (seedQ (c.sd.getD (3 * j) 0) (c.sd.getD (3 * j + 1) 0) (c.sd.getD (3 * j + 2) 0) c.wide)))) 4 0 none 0 (fun _ => 0) [] ⟨by omega, fun w1 _ j hj => by omega⟩ ⟨rfl, rfl, rfl, rfl, trivial⟩ (fun w hw => by have h2 : Sat _ _ [.blk b1 (.cells (cardV c) 30 (0, 0)), .blk b2 (.cells #[.slice none 0 0, .bool false, .bool false, .slice none 0 0, .int .u8 0, .int .i64 0, .int .i64 0, .int .i64 0, .int .i64 0] 35 (0, 0)), .blk b3 (.cells #[.slice none 0 0, .bool c.hires, .bool c.sound, .slice A12 16 c12, .int .u8 c.pitch, .int .i64 c.kind, .int .i64 c.cause, .int .i64 c.pc, .int .i64 c.cycle] 35 (0, 0)), .own 65 1 (.slice none 0 0) 0 [], .own 5 1 (.slice A12 16 c12) 16 ([] ++ c.pat.map (Value.int .u8))] w := hw.sub; exact h2) fun k A cc f R hk => ?_
      obtain ⟨hk, hR⟩ := hk
      refine r_seq ?_
      refine r_seq ?_
      refine r_region ?_
      refine r_move rfl rfl ?_
      refine r_lss rfl rfl rfl rfl ?_
      refine r_nil ?_
      refine r_tn ?_
      refine r_cond rfl (fun hc => ?_) (fun hc => ?_)
      · refine r_skip ?_
        refine r_tn ?_
        refine r_seq ?_
        refine r_block ?_
        refine r_mixedD { xb := [], rb := [b3], rs := [23], fs := [], acs := [30, 31] } (by kernel_rfl) (by kernel_rfl) (fun w hw k hk => by
          simp only [List.mem_cons, List.not_mem_nil, or_false] at hk
          rcases hk with rfl <;> exact Sat.lt hw) ?_
        refine r_fieldAddr (off := 0) (o' := 0) rfl rfl rfl rfl ?_
        refine r_load1 rfl rfl rfl (by rfl) ?_
        have hk2 : k < 4 := by have h := of_decide_eq_true hc; omega
        refine r_move rfl rfl ?_
        refine r_fieldAddr (off := 0) (o' := 0) rfl rfl rfl rfl ?_
        refine r_indexArr (sz := 3) (o' := 0 + 3 * k) rfl rfl rfl rfl rfl (by omega) (by omega) (by omega) ?_
        refine r_loadN (m := 3) rfl rfl rfl rfl (by rw [cardV_size hc0]; omega) (card_seed hc0 hk2) ?_
        refine r_fieldAddr (off := 12) (o' := 12) rfl rfl rfl rfl ?_
        refine r_load1 rfl rfl rfl (card_wide hc0) ?_
        refine r_callx rfl rfl rfl (by kernel_rfl) rfl (fun w hw => by exact refPlane23 (c.sd.getD (3 * k) 0) (c.sd.getD (3 * k + 1) 0) (c.sd.getD (3 * k + 2) 0) c.wide w) ?_
        rintro b30 _
        refine r_lit (sz := 1) (pv := [(0, .slice (some ⟨b30, 0, none⟩) 8192 8192)]) (cells := #[.slice (some ⟨b30, 0, none⟩) 8192 8192]) rfl rfl rfl rfl rfl rfl (by kernel_rfl) rfl (fun b31 => ?_) (by decide)
        refine r_append (k := 1) (news := [.slice (some ⟨b30, 0, none⟩) 8192 8192]) (sz := 1) (bytes := 24) rfl rfl rfl rfl rfl rfl (by decide) (fun w hw => own_rd (A := some ⟨b31, 0, none⟩) (m := 1) (c := 1) hw) rfl (fun u hu => by rw [List.mem_singleton.1 hu]; rfl) (by omega) (by unfold maxLen; omega) fun A32 c32 => ?_
        refine r_fieldAddr (off := 0) (o' := 0) rfl rfl rfl rfl ?_
        refine r_store (m := 1) (cs' := #[.slice A32 (k + 1) c32, .bool c.hires, .bool c.sound, .slice A12 16 c12, .int .u8 c.pitch, .int .i64 c.kind, .int .i64 c.cause, .int .i64 c.pc, .int .i64 c.cycle]) rfl rfl rfl rfl (Nat.le_of_ble_eq_true rfl) rfl rfl ?_
        refine r_nil ?_
        refine r_bn ?_
        refine r_tn ?_
        refine r_region ?_
        refine r_move rfl rfl ?_
        refine r_add rfl rfl rfl (w64 (by omega)) ?_
        refine r_assign rfl rfl ?_
        refine r_nil ?_
        refine r_tn ?_
        exact r_again4 (k + 1) A32 c32 (setF f k b30) (.own 4 1 (.slice (some ⟨b30, 0, none⟩) 8192 8192) 8192 (boolsN 8192 (flatP (seedQ (c.sd.getD (3 * k) 0) (c.sd.getD (3 * k + 1) 0) (c.sd.getD (3 * k + 2) 0) c.wide))) :: R) ⟨by omega, tells_step (P := fun k => seedQ (c.sd.getD (3 * k) 0) (c.sd.getD (3 * k + 1) 0) (c.sd.getD (3 * k + 2) 0) c.wide) hR⟩ (by omega) ⟨rfl, rfl, rfl, rfl, trivial⟩ (fun w hw => by rw [plS4_snoc] at hw; have h2 : Sat _ _ ((.blk b1 (.cells (cardV c) 30 (0, 0)) :: .blk b2 (.cells #[.slice none 0 0, .bool false, .bool false, .slice none 0 0, .int .u8 0, .int .i64 0, .int .i64 0, .int .i64 0, .int .i64 0] 35 (0, 0)) :: .blk b3 (.cells #[.slice A32 (k + 1) c32, .bool c.hires, .bool c.sound, .slice A12 16 c12, .int .u8 c.pitch, .int .i64 c.kind, .int .i64 c.cause, .int .i64 c.pc, .int .i64 c.cycle] 35 (0, 0)) :: .own 65 1 (.slice A32 (k + 1) c32) (k + 1) (plS4 (setF f k b30) (k + 1)) :: .own 5 1 (.slice A12 16 c12) 16 (c.pat.map (Value.int .u8)) :: (.own 4 1 (.slice (some ⟨b30, 0, none⟩) 8192 8192) 8192 (boolsN 8192 (flatP (seedQ (c.sd.getD (3 * k) 0) (c.sd.getD (3 * k + 1) 0) (c.sd.getD (3 * k + 2) 0) c.wide))) :: R))) w := hw.sub; exact h2)
      · refine r_exit ?_
        refine r_te ?_
        refine r_te ?_
        refine r_be ?_
        refine r_tn ?_
        refine r_seq ?_
        refine r_region ?_
        have hk3 : k = 4 := by have h := of_decide_eq_false hc; omega
        subst hk3
        refine r_have (fun w hw => own_some (A := A) (m := 4) (c := cc) hw (by decide)) fun hga => ?_
        obtain ⟨ga, rfl⟩ := hga
        refine r_have (fun w hw => own_some (A := A12) (m := 16) (c := c12) hw (by decide)) fun hgb => ?_
        obtain ⟨gb, rfl⟩ := hgb
        refine r_loadV rfl rfl rfl rfl rfl ?_
        refine r_storeV rfl rfl rfl rfl rfl rfl ?_
        refine r_nil ?_
        refine r_tn ?_
        refine r_ret ?_
        exact r_done1 (.inl rfl) rfl (res_cellV rfl rfl rfl rfl) fun w hw => ⟨⟨ga, cc, gb, c12, f, .own 65 1 (.slice (some ⟨ga, 0, none⟩) 4 cc) 4 (plS4 f 4) :: .own 5 1 (.slice (some ⟨gb, 0, none⟩) 16 c12) 16 (c.pat.map (Value.int .u8)) :: R⟩, rfl, fun w1 h1 => ⟨okAll_rd (T := 65) (sz := 1) (n := 4) (c := cc) h1 (.head _), okAll_rd (T := 5) (sz := 1) (n := 16) (c := c12) h1 (.tail _ (.head _)), fun j hj => hR w1 (fun x hx => h1 x (.tail _ (.tail _ hx))) j hj⟩, hw.sub⟩
  · refine r_allocV (cs := #[.slice none 0 0, .bool false, .bool false, .slice none 0 0, .int .u8 0, .int .i64 0, .int .i64 0, .int .i64 0, .int .i64 0]) (by kernel_rfl) rfl fun b3 => ?_
    refine r_nil ?_
    refine r_take rfl ?_
    refine r_lit (sz := 1) (pv := []) (cells := #[]) rfl rfl rfl rfl rfl rfl (by kernel_rfl) rfl (fun b9 => ?_) (by decide)
    refine r_nil ?_
    refine r_take rfl ?_
    refine r_appendG (k := 16) (xs := []) (news := c.pat.map (Value.int .u8)) (sz := 1) (bytes := 1) rfl rfl rfl rfl rfl rfl (fun w hw => Rd.nil w _) rfl (fun w hw => (Rd.blk (hw.look (HasBlk.pick (b := b1))) (fun j u h => card_pat hc0 h))) (by simp [hc0.2]) (by omega) (Nat.le_refl _) (by omega) (by unfold maxLen; omega) fun A12 c12 => ?_
    rw [show (0 : Nat) + 16 = 16 from rfl]
    refine r_nil ?_
    refine r_take rfl ?_
    refine r_build (cells := #[.slice none 0 0, .bool c.hires, .bool c.sound, .slice A12 16 c12, .int .u8 c.pitch, .int .i64 c.kind, .int .i64 c.cause, .int .i64 c.pc, .int .i64 c.cycle]) rfl rfl (by kernel_rfl) ?_
    refine r_nil ?_
    refine r_take rfl ?_
    refine r_storeV rfl rfl rfl rfl rfl rfl ?_
    refine r_nil ?_
    refine r_treeEnd ?_
    refine r_tn ?_
    refine r_seq ?_
    refine r_seq ?_
    refine r_region ?_
    refine r_assign rfl rfl ?_
    refine r_nil ?_
    refine r_tn ?_
    refine r_block ?_
    refine Run.ownNil 65 1 ?_
    refine r_loop4 (fun k A cc (f : Nat → Nat) (R : List Res) => [(1, .pointer (some ⟨b1, 0, none⟩)), (2, .pointer (some ⟨b2, 0, none⟩)), (3, .pointer (some ⟨b3, 0, none⟩)), (4, .int .i64 (k : Int))]) (fun k A cc f R => (.blk b1 (.cells (cardV c) 30 (0, 0)) :: .blk b2 (.cells #[.slice none 0 0, .bool false, .bool false, .slice none 0 0, .int .u8 0, .int .i64 0, .int .i64 0, .int .i64 0, .int .i64 0] 35 (0, 0)) :: .blk b3 (.cells #[.slice A k cc, .bool c.hires, .bool c.sound, .slice A12 16 c12, .int .u8 c.pitch, .int .i64 c.kind, .int .i64 c.cause, .int .i64 c.pc, .int .i64 c.cycle] 35 (0, 0)) :: .own 65 1 (.slice A k cc) k (plS4 f k) :: .own 5 1 (.slice A12 16 c12) 16 (c.pat.map (Value.int .u8)) :: R)) (fun k A cc f R => k ≤ 4 ∧ ∀ w1, OkAll R w1 → ∀ j, j < k → Rd w1 (some ⟨f j, 0, none⟩) (boolsN 8192 (flatP (seedQ (c.sd.getD (3 * j) 0) (c.sd.getD (3 * j + 1) 0) (c.sd.getD (3 * j + 2) 0) c.wide)))) 4 0 none 0 (fun _ => 0) [] ⟨by omega, fun w1 _ j hj => by omega⟩ ⟨rfl, rfl, rfl, rfl, trivial⟩ (fun w hw => by have h2 : Sat _ _ [.blk b1 (.cells (cardV c) 30 (0, 0)), .blk b2 (.cells #[.slice none 0 0, .bool false, .bool false, .slice none 0 0, .int .u8 0, .int .i64 0, .int .i64 0, .int .i64 0, .int .i64 0] 35 (0, 0)), .blk b3 (.cells #[.slice none 0 0, .bool c.hires, .bool c.sound, .slice A12 16 c12, .int .u8 c.pitch, .int .i64 c.kind, .int .i64 c.cause, .int .i64 c.pc, .int .i64 c.cycle] 35 (0, 0)), .own 65 1 (.slice none 0 0) 0 [], .own 5 1 (.slice A12 16 c12) 16 ([] ++ c.pat.map (Value.int .u8))] w := hw.sub; exact h2) fun k A cc f R hk => ?_
    obtain ⟨hk, hR⟩ := hk
    refine r_seq ?_
    refine r_seq ?_
    refine r_region ?_
    refine r_move rfl rfl ?_
    refine r_lss rfl rfl rfl rfl ?_
    refine r_nil ?_
    refine r_tn ?_
    refine r_cond rfl (fun hc => ?_) (fun hc => ?_)
    · refine r_skip ?_
      refine r_tn ?_
      refine r_seq ?_
      refine r_block ?_
      refine r_mixedD { xb := [], rb := [b3], rs := [23], fs := [], acs := [30, 31] } (by kernel_rfl) (by kernel_rfl) (fun w hw k hk => by
        simp only [List.mem_cons, List.not_mem_nil, or_false] at hk
        rcases hk with rfl <;> exact Sat.lt hw) ?_
      refine r_fieldAddr (off := 0) (o' := 0) rfl rfl rfl rfl ?_
      refine r_load1 rfl rfl rfl (by rfl) ?_
      have hk2 : k < 4 := by have h := of_decide_eq_true hc; omega
      refine r_move rfl rfl ?_
      refine r_fieldAddr (off := 0) (o' := 0) rfl rfl rfl rfl ?_
      refine r_indexArr (sz := 3) (o' := 0 + 3 * k) rfl rfl rfl rfl rfl (by omega) (by omega) (by omega) ?_
      refine r_loadN (m := 3) rfl rfl rfl rfl (by rw [cardV_size hc0]; omega) (card_seed hc0 hk2) ?_
      refine r_fieldAddr (off := 12) (o' := 12) rfl rfl rfl rfl ?_
      refine r_load1 rfl rfl rfl (card_wide hc0) ?_
      refine r_callx rfl rfl rfl (by kernel_rfl) rfl (fun w hw => by exact refPlane23 (c.sd.getD (3 * k) 0) (c.sd.getD (3 * k + 1) 0) (c.sd.getD (3 * k + 2) 0) c.wide w) ?_
      rintro b30 _
      refine r_lit (sz := 1) (pv := [(0, .slice (some ⟨b30, 0, none⟩) 8192 8192)]) (cells := #[.slice (some ⟨b30, 0, none⟩) 8192 8192]) rfl rfl rfl rfl rfl rfl (by kernel_rfl) rfl (fun b31 => ?_) (by decide)
      refine r_append (k := 1) (news := [.slice (some ⟨b30, 0, none⟩) 8192 8192]) (sz := 1) (bytes := 24) rfl rfl rfl rfl rfl rfl (by decide) (fun w hw => own_rd (A := some ⟨b31, 0, none⟩) (m := 1) (c := 1) hw) rfl (fun u hu => by rw [List.mem_singleton.1 hu]; rfl) (by omega) (by unfold maxLen; omega) fun A32 c32 => ?_
      refine r_fieldAddr (off := 0) (o' := 0) rfl rfl rfl rfl ?_
      refine r_store (m := 1) (cs' := #[.slice A32 (k + 1) c32, .bool c.hires, .bool c.sound, .slice A12 16 c12, .int .u8 c.pitch, .int .i64 c.kind, .int .i64 c.cause, .int .i64 c.pc, .int .i64 c.cycle]) rfl rfl rfl rfl (Nat.le_of_ble_eq_true rfl) rfl rfl ?_
      refine r_nil ?_
      refine r_bn ?_
      refine r_tn ?_
      refine r_region ?_
      refine r_move rfl rfl ?_
      refine r_add rfl rfl rfl (w64 (by omega)) ?_
      refine r_assign rfl rfl ?_
      refine r_nil ?_
      refine r_tn ?_
      exact r_again4 (k + 1) A32 c32 (setF f k b30) (.own 4 1 (.slice (some ⟨b30, 0, none⟩) 8192 8192) 8192 (boolsN 8192 (flatP (seedQ (c.sd.getD (3 * k) 0) (c.sd.getD (3 * k + 1) 0) (c.sd.getD (3 * k + 2) 0) c.wide))) :: R) ⟨by omega, tells_step (P := fun k => seedQ (c.sd.getD (3 * k) 0) (c.sd.getD (3 * k + 1) 0) (c.sd.getD (3 * k + 2) 0) c.wide) hR⟩ (by omega) ⟨rfl, rfl, rfl, rfl, trivial⟩ (fun w hw => by rw [plS4_snoc] at hw; have h2 : Sat _ _ ((.blk b1 (.cells (cardV c) 30 (0, 0)) :: .blk b2 (.cells #[.slice none 0 0, .bool false, .bool false, .slice none 0 0, .int .u8 0, .int .i64 0, .int .i64 0, .int .i64 0, .int .i64 0] 35 (0, 0)) :: .blk b3 (.cells #[.slice A32 (k + 1) c32, .bool c.hires, .bool c.sound, .slice A12 16 c12, .int .u8 c.pitch, .int .i64 c.kind, .int .i64 c.cause, .int .i64 c.pc, .int .i64 c.cycle] 35 (0, 0)) :: .own 65 1 (.slice A32 (k + 1) c32) (k + 1) (plS4 (setF f k b30) (k + 1)) :: .own 5 1 (.slice A12 16 c12) 16 (c.pat.map (Value.int .u8)) :: (.own 4 1 (.slice (some ⟨b30, 0, none⟩) 8192 8192) 8192 (boolsN 8192 (flatP (seedQ (c.sd.getD (3 * k) 0) (c.sd.getD (3 * k + 1) 0) (c.sd.getD (3 * k + 2) 0) c.wide))) :: R))) w := hw.sub; exact h2)
    · refine r_exit ?_
      refine r_te ?_
      refine r_te ?_
      refine r_be ?_
      refine r_tn ?_
      refine r_seq ?_
      refine r_region ?_
      have hk3 : k = 4 := by have h := of_decide_eq_false hc; omega
      subst hk3
      refine r_have (fun w hw => own_some (A := A) (m := 4) (c := cc) hw (by decide)) fun hga => ?_
      obtain ⟨ga, rfl⟩ := hga
      refine r_have (fun w hw => own_some (A := A12) (m := 16) (c := c12) hw (by decide)) fun hgb => ?_
      obtain ⟨gb, rfl⟩ := hgb
      refine r_loadV rfl rfl rfl rfl rfl ?_
      refine r_storeV rfl rfl rfl rfl rfl rfl ?_
      refine r_nil ?_
      refine r_tn ?_
      refine r_ret ?_
      exact r_done1 (.inl rfl) rfl (res_cellV rfl rfl rfl rfl) fun w hw => ⟨⟨ga, cc, gb, c12, f, .own 65 1 (.slice (some ⟨ga, 0, none⟩) 4 cc) 4 (plS4 f 4) :: .own 5 1 (.slice (some ⟨gb, 0, none⟩) 16 c12) 16 (c.pat.map (Value.int .u8)) :: R⟩, rfl, fun w1 h1 => ⟨okAll_rd (T := 65) (sz := 1) (n := 4) (c := cc) h1 (.head _), okAll_rd (T := 5) (sz := 1) (n := 16) (c := c12) h1 (.tail _ (.head _)), fun j hj => hR w1 (fun x hx => h1 x (.tail _ (.tail _ hx))) j hj⟩, hw.sub⟩
end Go.Proofs.YtdkgnnieehidbaaDoor
