/-
  Screens (chapter 08): the reference: Draw.
-/
import Derived.Test.YtgamehjakgcgnaaRefT08
namespace Go.Proofs.Ytgamehjakgcgnaa
open Go Go.RowKit
set_option linter.unusedVariables false
set_option linter.unusedSimpArgs false
set_option maxHeartbeats 2000000
set_option maxRecDepth 4000
attribute [local irreducible] mix

theorem rs_lt {w : World} {b o : Nat} {f : Nat → Nat} (h : Rd w (some ⟨b, o, none⟩) (plS4 f 4)) : b < w.heap.size := by
  obtain ⟨b2, o2, e, hc⟩ := h 0 _ (plS4_at f (by omega))
  injection e with e
  injection e with e1 _ _
  rw [e1]
  exact World.block_lt_of_cell? w ⟨b2, o2 + 0, none⟩ hc
theorem hitN_iff8 (P Q : Nat → Nat → Bool) : ∀ m, hitN P Q m = true ↔ ∃ i, i < m ∧ flatP P i = true ∧ flatP Q i = true
  | 0 => ⟨fun h => (by cases h), fun ⟨_, h, _⟩ => (by omega)⟩
  | m + 1 => by
    simp only [hitN, Bool.or_eq_true, Bool.and_eq_true]
    rw [hitN_iff8 P Q m]
    constructor
    · rintro (⟨i, hi, h⟩ | h)
      · exact ⟨i, by omega, h⟩
      · exact ⟨m, by omega, h⟩
    · rintro ⟨i, hi, h⟩
      by_cases e : i = m
      · subst e; exact .inr h
      · exact .inl ⟨i, by omega, h⟩
theorem hitK_iff8 (P Q : Nat → Nat → Bool) : ∀ m, hitK P Q m = true ↔ ∃ y, y < m ∧ ∃ x, x < 128 ∧ P y x = true ∧ Q y x = true
  | 0 => ⟨fun h => (by cases h), fun ⟨_, h, _⟩ => (by omega)⟩
  | m + 1 => by
    simp only [hitK, Bool.or_eq_true]
    rw [hitK_iff8 P Q m]
    constructor
    · rintro (⟨y, hy, h⟩ | h)
      · exact ⟨y, by omega, h⟩
      · have h2 : ¬ eqB (fun x => P m x && Q m x) noneP = true := by simpa using h
        rw [eqB_iff] at h2
        refine ⟨m, by omega, ?_⟩
        apply Classical.byContradiction
        intro h3
        refine h2 fun x hx => ?_
        cases hp : P m x <;> cases hq : Q m x <;> simp [noneP]
        exact h3 ⟨x, hx, hp, hq⟩
    · rintro ⟨y, hy, x, hx, hp, hq⟩
      by_cases e : y = m
      · subst e
        right
        have h2 : eqB (fun x => P y x && Q y x) noneP = false := Bool.eq_false_iff.2 fun h => by
          have := (eqB_iff _ _).1 h x hx
          simp [hp, hq, noneP] at this
        rw [h2]; rfl
      · exact .inl ⟨y, by omega, x, hx, hp, hq⟩
theorem hit_both (P Q : Nat → Nat → Bool) : hitN P Q 8192 = hitK P Q 64 := by
  rw [Bool.eq_iff_iff, hitN_iff8, hitK_iff8]
  constructor
  · rintro ⟨i, hi, hp, hq⟩
    exact ⟨i / 128, by omega, i % 128, by omega, hp, hq⟩
  · rintro ⟨y, hy, x, hx, hp, hq⟩
    refine ⟨128 * y + x, by omega, ?_⟩
    unfold flatP
    rw [show (128 * y + x) / 128 = y by omega, show (128 * y + x) % 128 = x by omega]
    exact ⟨hp, hq⟩
theorem refDrN08 (P Q : Nat → Nat → Bool) (a1 a2 : Nat) (w : World) (h1 : Rd w (some ⟨a1, 0, none⟩) (boolsN 8192 (flatP P))) (h2 : Rd w (some ⟨a2, 0, none⟩) (boolsN 8192 (flatP Q))) :
    Calls Try.prog 51 #[.slice (some ⟨a1, 0, none⟩) 8192 8192, .slice (some ⟨a2, 0, none⟩) 8192 8192] w fun e w' => ∃ b : Nat, e = .returned (.tuple #[.slice (some ⟨b, 0, none⟩) 8192 8192, .bool (hitK P Q 64)]) ∧ True ∧ Sat w [] [.own 4 1 (.slice (some ⟨b, 0, none⟩) 8192 8192) 8192 (boolsN 8192 (flatP (xorQ P Q)))] w' := by
  have h := refDraw07 P Q a1 8192 a2 8192 w h1 h2
  rw [hit_both] at h
  exact h
theorem perN_16 {n : Nat} (hn : n < 16) (big : Bool) : perN n big ≤ if big then 32 else 16 := by cases big <;> simp [perN] <;> omega
theorem refSprN08 (A : Option Addr) (c : Nat) (d : List Int) (big : Bool) (k : Nat) (hires clip : Bool) (x y : Nat) (hd8 : ∀ z ∈ d, 0 ≤ z ∧ z ≤ 255) (hl : d.length ≤ if big then 32 else 16) (hk : (rowsU d big).length = k) (w : World) (hA : Rd w A ((rowsU d big).map (Value.int .u16))) :
    Calls Try.prog 52 #[.slice A k c, .int .i64 ((cntB big : Nat) : Int), .int .i64 ((x % wd hires : Nat) : Int), .int .i64 ((y % ht hires : Nat) : Int), .bool hires, .bool clip] w fun e w' => ∃ b : Nat, e = .returned (.slice (some ⟨b, 0, none⟩) 8192 8192) ∧ True ∧ Sat w [] [.own 4 1 (.slice (some ⟨b, 0, none⟩) 8192 8192) 8192 (boolsN 8192 (flatP (sprD ⟨fun _ => noneQ, hires, 0⟩ big clip x y d)))] w' := by
  subst hk
  rw [sprD_def]
  have hwd : 64 ≤ wd hires := by cases hires <;> decide
  have hht : 32 ≤ ht hires := by cases hires <;> decide
  exact refSprite07 A c (rowsU d big) (cntB big) (x % wd hires) (y % ht hires) hires clip w hA (rowsU_all hd8 big) (rowsU_len16 rfl hl) (by cases big <;> decide) (Nat.mod_lt _ (by omega)) (Nat.mod_lt _ (by omega))
attribute [local irreducible] plS4 setF stP stH sprD


theorem refDraw08 (P0 : Nat → Nat → Nat → Bool) (i0 : RSc) (hires : Bool) (m : Nat) (hm : m < 16) (x y n : Nat) (hn : n < 16) (big clip : Bool) (D : Option Addr) (dc : Nat) (d : List Int) (hd : d.length = (sel m).length * perN n big) (hd8 : ∀ z ∈ d, 0 ≤ z ∧ z ≤ 255) (w : World) (h0 : RefS w P0 i0) (hR : Rd w D (d.map (Value.int .u8))) :
    Calls Try.prog 33 #[.agg (rsV i0 hires (m : Int)), .int .i64 (x : Int), .int .i64 (y : Int), .int .i64 (n : Int), .bool big, .bool clip, .slice D d.length dc] w fun e w' => ∃ i : RSc, e = .returned (.tuple #[.agg (rsV i hires (m : Int)), .bool (stH (ffD hires x y n big clip d) (hhD hires x y n big clip d) P0 (sel m))]) ∧ (Tells P0 i0 (stP (ffD hires x y n big clip d) P0 (sel m)).1 i) ∧ Sat w [] (i.R) w' := by
  have hwd : 64 ≤ wd hires := by cases hires <;> decide
  have hht : 32 ≤ ht hires := by cases hires <;> decide
  cases big
  · refine enter Try.func33 rfl rfl rfl ?_
    refine r_seq ?_
    refine r_region ?_
    refine r_boxV rfl rfl fun b7 => ?_
    refine r_allocV (cs := #[.slice none 0 0, .bool false, .int .i64 0]) (by kernel_rfl) rfl fun b14 => ?_
    refine r_assign rfl rfl ?_
    refine r_nil ?_
    refine r_tn ?_
    refine r_seq ?_
    refine r_region ?_
    refine r_assign rfl rfl ?_
    refine r_nil ?_
    refine r_tn ?_
    refine r_seq ?_
    refine r_region ?_
    refine r_assign rfl rfl ?_
    refine r_nil ?_
    refine r_tn ?_
    refine r_seq ?_
    refine r_region ?_
    refine r_fieldAddr (off := 1) (o' := 1) rfl rfl rfl rfl ?_
    refine r_load1 rfl rfl rfl (by rfl) ?_
    refine r_call rfl rfl rfl (by kernel_rfl) rfl (fun w hw => by exact width06 hires w) ?_
    refine r_assign rfl rfl ?_
    refine r_nil ?_
    refine r_tn ?_
    refine r_seq ?_
    refine r_region ?_
    refine r_fieldAddr (off := 1) (o' := 1) rfl rfl rfl rfl ?_
    refine r_load1 rfl rfl rfl (by rfl) ?_
    refine r_call rfl rfl rfl (by kernel_rfl) rfl (fun w hw => by exact refHeight07 hires w) ?_
    refine r_assign rfl rfl ?_
    refine r_nil ?_
    refine r_tn ?_
    refine r_seq ?_
    refine r_seq ?_
    refine r_region ?_
    refine r_assign rfl rfl ?_
    refine r_nil ?_
    refine r_tn ?_
    refine r_block ?_
    refine r_loop4 (fun k A cc (f : Nat → Nat) (R : List Res) => [(7, .pointer (some ⟨b7, 0, none⟩)), (1, .int .i64 (x : Int)), (2, .int .i64 (y : Int)), (3, .int .i64 (n : Int)), (4, .bool false), (5, .bool clip), (6, .slice D d.length dc), (14, .pointer (some ⟨b14, 0, none⟩)), (16, .bool (stH (ffD hires x y n false clip d) (hhD hires x y n false clip d) P0 (selK m k))), (17, .int .i64 ((((selK m k).length * perN n false) : Nat) : Int)), (18, .int .i64 (wd hires : Nat)), (19, .int .i64 (ht hires : Nat)), (20, .int .i64 (k : Int))]) (fun k A cc f R => (.blk b7 (.cells #[.slice A 4 cc, .bool hires, .int .i64 (m : Int)] 36 (0, 0)) :: .blk b14 (.cells #[.slice none 0 0, .bool false, .int .i64 0] 36 (0, 0)) :: R)) (fun k A cc f R => k ≤ 4 ∧ Tells P0 i0 (stP (ffD hires x y n false clip d) P0 (selK m k)).1 ⟨A, cc, f, R⟩) 4 0 i0.A i0.c i0.f [] ⟨by omega, fun w1 h1 _ => by rw [show selK m 0 = [] from rfl, stP_nil]; exact h1⟩ ⟨rfl, rfl, rfl, rfl, rfl, rfl, rfl, rfl, by rw [show selK m 0 = [] from rfl, stH_nil]; rfl, by rw [show (selK m 0).length * perN n false = 0 from Nat.zero_mul _]; rfl, rfl, rfl, rfl, trivial⟩ (fun w hw => by have h2 : Sat _ _ [.blk b7 (.cells (rsV i0 hires (m : Int)) 36 (0, 0)), .blk b14 (.cells #[.slice none 0 0, .bool false, .int .i64 0] 36 (0, 0))] w := hw.sub; exact h2) fun k A cc f R hk => ?_
    obtain ⟨hk, hT⟩ := hk
    refine r_seq ?_
    refine r_seq ?_
    refine r_region ?_
    refine r_move rfl rfl ?_
    refine r_lss rfl rfl rfl rfl ?_
    refine r_nil ?_
    refine r_tn ?_
    refine r_cond rfl (fun hc => ?_) (fun hc => ?_)
    · refine r_skip ?_
      refine r_tn ?_
      refine r_seq ?_
      refine r_block ?_
      refine r_seq ?_
      refine r_seq ?_
      refine r_region ?_
      have hk2 : k < 4 := by have h := of_decide_eq_true hc; omega
      clear hc
      refine r_fieldAddr (off := 2) (o' := 2) rfl rfl rfl rfl ?_
      refine r_load1 rfl rfl rfl (by rfl) ?_
      refine r_move rfl rfl ?_
      refine r_call rfl rfl rfl (by kernel_rfl) rfl (fun w hw => by exact on08 m k hm (by omega) w) ?_
      refine r_not rfl rfl rfl ?_
      refine r_nil ?_
      refine r_tn ?_
      refine r_cond rfl (fun hc => ?_) (fun hc => ?_)
      · refine r_exit ?_
        refine r_te ?_
        refine r_be ?_
        refine r_tn ?_
        refine r_region ?_
        refine r_move rfl rfl ?_
        refine r_add rfl rfl rfl (w64 (by omega)) ?_
        refine r_assign rfl rfl ?_
        refine r_nil ?_
        refine r_tn ?_
        first | exact r_again4 (k + 1) A113 c113 (setF f k b107) (.own 64 1 (.slice A113 4 c113) 4 (plS4 (setF f k b107) 4) :: .own 4 1 (.slice (some ⟨b107, 0, none⟩) 8192 8192) 8192 (boolsN 8192 (flatP (xorQ ((stP (ffD hires x y n false clip d) P0 (selK m k)).1 k) (sprD ⟨fun _ => noneQ, hires, 0⟩ false clip x y ((d.drop ((selK m k).length * perN n false)).take (perN n false)))))) :: R) ⟨by omega, fun w1 h1 h2 => by rw [selK_yes hk2 hb, stP_snoc]; exact refS_step (i := ⟨some ⟨ba, oa, none⟩, cc, f, R⟩) (hT w1 h1 (fun x hx => h2 x (.tail _ (.tail _ hx)))) (okAll_rd (T := 64) (sz := 1) (n := 4) (c := c113) h2 (.head _)) (okAll_rd (T := 4) (sz := 1) (n := 8192) (c := 8192) h2 (.tail _ (.head _)))⟩ (by omega) ⟨rfl, rfl, rfl, rfl, rfl, rfl, rfl, rfl, by rw [selK_yes hk2 hb, stH_snoc, hb115]; rfl, by rw [jp_yes hk2 hb]; rfl, rfl, rfl, rfl, trivial⟩ (fun w hw => by have h2 : Sat _ _ (.blk b7 (.cells #[.slice A113 4 c113, .bool hires, .int .i64 (m : Int)] 36 (0, 0)) :: .blk b14 (.cells #[.slice none 0 0, .bool false, .int .i64 0] 36 (0, 0)) :: .own 64 1 (.slice A113 4 c113) 4 (plS4 (setF f k b107) 4) :: .own 4 1 (.slice (some ⟨b107, 0, none⟩) 8192 8192) 8192 (boolsN 8192 (flatP (xorQ ((stP (ffD hires x y n false clip d) P0 (selK m k)).1 k) (sprD ⟨fun _ => noneQ, hires, 0⟩ false clip x y ((d.drop ((selK m k).length * perN n false)).take (perN n false)))))) :: R) w := hw.sub; exact h2) | exact r_again4 (k + 1) A cc f R ⟨by omega, by rw [selK_no hk2 (by simpa using hc)]; exact hT⟩ (by omega) ⟨rfl, rfl, rfl, rfl, rfl, rfl, rfl, rfl, by rw [selK_no hk2 (by simpa using hc)]; rfl, by rw [selK_no hk2 (by simpa using hc)]; rfl, rfl, rfl, rfl, trivial⟩ (fun w hw => hw.sub)
      · refine r_skip ?_
        refine r_tn ?_
        refine r_seq ?_
        have hb : m.testBit k = true := by simpa using hc
        clear hc
        have hjl := jp_le (n := n) hk2 hb false
        rw [← hd] at hjl
        have hper := perN_le (n := n) (by omega) false
        have hel : (((d.drop ((selK m k).length * perN n false)).take (perN n false))).length = perN n false := by rw [List.length_take, List.length_drop]; omega
        have hnl := need_le (m := m) (n := n) (by omega) false
        rw [← hd] at hnl
        have he8 : ∀ z ∈ ((d.drop ((selK m k).length * perN n false)).take (perN n false)), 0 ≤ z ∧ z ≤ 255 := fun z hz => hd8 z (List.mem_of_mem_drop (List.mem_of_mem_take hz))
        refine r_region ?_
        refine r_assign rfl rfl ?_
        refine r_nil ?_
        refine r_tn ?_
        refine r_seq ?_
        refine r_region ?_
        refine r_assign rfl rfl ?_
        refine r_nil ?_
        refine r_tn ?_
        refine r_seq ?_
        refine r_seq ?_
        refine r_region ?_
        refine r_move rfl rfl ?_
        refine r_nil ?_
        refine r_tn ?_
        refine r_cond_f rfl ?_
        refine r_seq ?_
        refine r_region ?_
        refine r_assign rfl rfl ?_
        refine r_nil ?_
        refine r_tn ?_
        refine r_block ?_
        refine Run.ownNil 90 1 ?_
        refine r_loop2 (fun j A21 c21 => [(7, .pointer (some ⟨b7, 0, none⟩)), (1, .int .i64 (x : Int)), (2, .int .i64 (y : Int)), (3, .int .i64 (n : Int)), (4, .bool false), (5, .bool clip), (6, .slice D d.length dc), (14, .pointer (some ⟨b14, 0, none⟩)), (16, .bool (stH (ffD hires x y n false clip d) (hhD hires x y n false clip d) P0 (selK m k))), (17, .int .i64 ((((selK m k).length * perN n false) : Nat) : Int)), (18, .int .i64 (wd hires : Nat)), (19, .int .i64 (ht hires : Nat)), (20, .int .i64 (k : Int)), (21, .slice A21 j c21), (22, .int .i64 8), (24, .int .i64 (j : Int))]) (fun j A21 c21 => (.own 90 1 (.slice A21 (j) c21) (j) ((((d.drop ((selK m k).length * perN n false)).take (perN n false)).take j).map (Value.int .u16)) :: .blk b7 (.cells #[.slice A 4 cc, .bool hires, .int .i64 (m : Int)] 36 (0, 0)) :: .blk b14 (.cells #[.slice none 0 0, .bool false, .int .i64 0] 36 (0, 0)) :: R)) (fun j A21 c21 => j ≤ n) n 0 none 0 (by omega) ⟨rfl, rfl, rfl, rfl, rfl, rfl, rfl, rfl, rfl, rfl, rfl, rfl, rfl, rfl, rfl, rfl, trivial⟩ (fun w hw => by have h2 : Sat _ _ (.own 90 1 (.slice none (0) 0) (0) ([]) :: .blk b7 (.cells #[.slice A 4 cc, .bool hires, .int .i64 (m : Int)] 36 (0, 0)) :: .blk b14 (.cells #[.slice none 0 0, .bool false, .int .i64 0] 36 (0, 0)) :: R) w := hw.sub; exact h2) fun j A21 c21 hj => ?_
        refine r_seq ?_
        refine r_seq ?_
        refine r_region ?_
        refine r_move rfl rfl ?_
        refine r_move rfl rfl ?_
        refine r_lss rfl rfl rfl rfl ?_
        refine r_nil ?_
        refine r_tn ?_
        refine r_cond rfl (fun hc => ?_) (fun hc => ?_)
        · refine r_skip ?_
          refine r_tn ?_
          refine r_seq ?_
          refine r_block ?_
          refine r_region ?_
          have hj2 : j < n := by have h := of_decide_eq_true hc; omega
          clear hc
          have hpn : perN n false = n := rfl
          have hje : j < ((d.drop ((selK m k).length * perN n false)).take (perN n false)).length := by omega
          have hd_z1 : d[((selK m k).length * perN n false) + j] = ((d.drop ((selK m k).length * perN n false)).take (perN n false))[j] := by rw [List.getElem_take, List.getElem_drop]
          obtain ⟨z1, hz1⟩ : ∃ z : Nat, d[((selK m k).length * perN n false) + j] = z := ⟨d[((selK m k).length * perN n false) + j].toNat, by have h := hd8 _ (List.getElem_mem (show ((selK m k).length * perN n false) + j < d.length by omega)); omega⟩
          have hrz1 := hd8 _ (List.getElem_mem (show ((selK m k).length * perN n false) + j < d.length by omega))
          rw [hz1] at hrz1 hd_z1
          obtain ⟨bd, od, rfl, hcd⟩ := hR (((selK m k).length * perN n false) + j) _ (by rw [List.getElem?_map, List.getElem?_eq_getElem (show ((selK m k).length * perN n false) + j < d.length by omega)]; rfl)
          refine r_move rfl rfl ?_
          refine r_move rfl rfl ?_
          refine r_move rfl rfl ?_
          refine r_move rfl rfl ?_
          refine r_add (r := ((((selK m k).length * perN n false) + j : Nat) : Int)) rfl rfl rfl ((w64 (by omega)).trans (by omega)) ?_
          refine r_indexSl (sz := 1) (o' := od + (((selK m k).length * perN n false) + j)) rfl rfl rfl rfl rfl (by omega) (by omega) (by omega) ?_
          refine r_loadC (p := ⟨bd, od + (((selK m k).length * perN n false) + j), none⟩) (v := .int .u8 (z1 : Int)) rfl rfl rfl (fun w hw => (hR.keep hw).cell (by rw [List.getElem?_map, List.getElem?_eq_getElem (show ((selK m k).length * perN n false) + j < d.length by omega), hz1]; rfl) rfl) ?_
          refine r_convert (r := (z1 : Int)) rfl rfl rfl rfl (IntWalk.u16_in _ ⟨by omega, by omega⟩) ?_
          rw [hd_z1]
          refine r_lit (sz := 1) (pv := [(0, .int .u16 ((d.drop ((selK m k).length * perN n false)).take (perN n false))[j])]) (cells := #[.int .u16 ((d.drop ((selK m k).length * perN n false)).take (perN n false))[j]]) rfl rfl rfl rfl rfl rfl (by kernel_rfl) rfl (fun b82 => ?_) (by decide)
          refine r_append (k := 1) (news := ([((d.drop ((selK m k).length * perN n false)).take (perN n false))[j]].map (Value.int .u16))) (sz := 1) (bytes := 2) rfl rfl rfl rfl rfl rfl (by decide) (fun w hw => own_rd (A := some ⟨b82, 0, none⟩) (m := 1) (c := 1) hw) rfl (fun u hu => by obtain ⟨z, _, rfl⟩ := List.mem_map.1 hu; rfl) (by omega) (by unfold maxLen; omega) fun A83 c83 => ?_
          refine r_assign rfl rfl ?_
          refine r_nil ?_
          refine r_bn ?_
          refine r_tn ?_
          refine r_region ?_
          refine r_move rfl rfl ?_
          refine r_add rfl rfl rfl (w64 (by omega)) ?_
          refine r_assign rfl rfl ?_
          refine r_nil ?_
          refine r_tn ?_
          exact r_again2 (j + 1) A83 c83 (by omega) (by omega) ⟨rfl, rfl, rfl, rfl, rfl, rfl, rfl, rfl, rfl, rfl, rfl, rfl, rfl, rfl, rfl, rfl, trivial⟩ (fun w hw => by rw [List.take_add_one, List.getElem?_eq_getElem hje, show (some ((d.drop ((selK m k).length * perN n false)).take (perN n false))[j]).toList = [((d.drop ((selK m k).length * perN n false)).take (perN n false))[j]] from rfl, List.map_append]; exact hw.sub)
        · refine r_exit ?_
          refine r_te ?_
          refine r_te ?_
          refine r_be ?_
          refine r_tn ?_
          refine r_seq ?_
          refine r_region ?_
          have hj3 : n = j := by have h := of_decide_eq_false hc; omega
          subst hj3
          have hru : rowsU ((d.drop ((selK m k).length * perN n false)).take (perN n false)) false = ((d.drop ((selK m k).length * perN n false)).take (perN n false)).take n := by rw [rowsU_small]; exact (List.take_of_length_le (Nat.le_of_eq hel)).symm
          refine r_move rfl rfl ?_
          refine r_move rfl rfl ?_
          refine r_move rfl rfl ?_
          refine r_call rfl rfl rfl (by kernel_rfl) rfl (fun w hw => by exact refPer08 (n : Int) false w) ?_
          refine r_add (r := ((((selK m k).length * perN n false) + perN n false : Nat) : Int)) rfl rfl rfl (by rw [per_cast]; exact (w64 (by omega)).trans (by omega)) ?_
          refine r_assign rfl rfl ?_
          refine r_nil ?_
          refine r_tn ?_
          refine r_seq ?_
          refine r_have (p := ∃ b o, A = some ⟨b, o, none⟩) (fun w hw => rs_some (hT w (h0.keep hw) (fun x hx => hw.ok x (by simp [hx]))).1) fun hA => ?_
          obtain ⟨ba, oa, rfl⟩ := hA
          refine r_mixedD { xb := [], rb := [ba, b7], rs := [91, 94], fs := [], acs := [106] } (by kernel_rfl) (by kernel_rfl) (fun w hw k2 hk2 => by
            simp only [List.mem_cons, List.not_mem_nil, or_false] at hk2
            rcases hk2 with rfl | rfl
            · exact rs_lt (hT w (h0.keep hw) (fun x hx => hw.ok x (by simp [hx]))).1
            · exact Sat.lt hw) ?_
          refine r_fieldAddr (off := 0) (o' := 0) rfl rfl rfl rfl ?_
          refine r_load1 rfl rfl rfl (by rfl) ?_
          refine r_move rfl rfl ?_
          refine r_indexSl (sz := 1) (o' := oa + k) rfl rfl rfl rfl rfl (by omega) (by omega) (by omega) ?_
          refine r_loadC (p := ⟨ba, oa + k, none⟩) (v := .slice (some ⟨f k, 0, none⟩) 8192 8192) rfl rfl rfl (fun w hw => (hT w (h0.keep hw) (fun x hx => hw.ok x (by simp [hx]))).1.cell (plS4_at f hk2) rfl) ?_
          refine r_move rfl rfl ?_
          refine r_move rfl rfl ?_
          refine r_move rfl rfl ?_
          refine r_move rfl rfl ?_
          refine r_rem (r := ((x % wd hires : Nat) : Int)) rfl rfl rfl (by omega) rfl ?_
          refine r_move rfl rfl ?_
          refine r_move rfl rfl ?_
          refine r_rem (r := ((y % ht hires : Nat) : Int)) rfl rfl rfl (by omega) rfl ?_
          refine r_fieldAddr (off := 1) (o' := 1) rfl rfl rfl rfl ?_
          refine r_load1 rfl rfl rfl (by rfl) ?_
          refine r_move rfl rfl ?_
          refine r_callx rfl rfl rfl (by kernel_rfl) rfl (fun w hw => by exact refSprN08 A21 c21 ((d.drop ((selK m k).length * perN n false)).take (perN n false)) false n hires clip x y he8 (by rw [hel]; exact perN_16 hn false) (by rw [hru, List.length_take, hel]; exact Nat.min_self _) w (by rw [hru]; exact own_rd (A := A21) (m := n) (c := c21) hw)) ?_
          rintro b106 _
          refine r_callx rfl rfl rfl (by kernel_rfl) rfl (fun w hw => by exact refDrN08 ((stP (ffD hires x y n false clip d) P0 (selK m k)).1 k) (sprD ⟨fun _ => noneQ, hires, 0⟩ false clip x y ((d.drop ((selK m k).length * perN n false)).take (perN n false))) (f k) b106 w ((hT w (h0.keep hw) (fun x hx => hw.ok x (by simp [hx]))).2 k hk2) (own_rd (A := some ⟨b106, 0, none⟩) (m := 8192) (c := 8192) hw)) ?_
          rintro b107 _
          refine r_move rfl rfl ?_
          refine r_extract rfl rfl rfl ?_
          refine r_extract rfl rfl rfl ?_
          refine r_assign rfl rfl ?_
          refine r_assign rfl rfl ?_
          refine r_nil ?_
          refine r_tn ?_
          refine r_seq ?_
          refine r_region ?_
          refine r_loadV rfl rfl rfl rfl rfl ?_
          refine r_move rfl rfl ?_
          refine r_move rfl rfl ?_
          refine r_callx rfl rfl rfl (by kernel_rfl) rfl (fun w hw => by exact refWith08 f (some ⟨ba, oa, none⟩) cc hires (m : Int) k b107 hk2 w (hT w (h0.keep hw) (fun x hx => hw.ok x (by simp [hx]))).1) ?_
          rintro ⟨A113, c113⟩ _
          refine r_storeV rfl rfl rfl rfl rfl rfl ?_
          refine r_nil ?_
          refine r_tn ?_
          refine r_region ?_
          refine r_move rfl rfl ?_
          refine r_move rfl rfl ?_
          refine r_split 115 rfl (fun hb115 => ?_) (fun hb115 => ?_)
          · refine r_pass rfl rfl rfl rfl ?_
            refine r_pick_t rfl rfl rfl ?_
            refine r_assign rfl rfl ?_
            refine r_nil ?_
            refine r_bn ?_
            refine r_tn ?_
            refine r_region ?_
            refine r_move rfl rfl ?_
            refine r_add rfl rfl rfl (w64 (by omega)) ?_
            refine r_assign rfl rfl ?_
            refine r_nil ?_
            refine r_tn ?_
            first | exact r_again4 (k + 1) A113 c113 (setF f k b107) (.own 64 1 (.slice A113 4 c113) 4 (plS4 (setF f k b107) 4) :: .own 4 1 (.slice (some ⟨b107, 0, none⟩) 8192 8192) 8192 (boolsN 8192 (flatP (xorQ ((stP (ffD hires x y n false clip d) P0 (selK m k)).1 k) (sprD ⟨fun _ => noneQ, hires, 0⟩ false clip x y ((d.drop ((selK m k).length * perN n false)).take (perN n false)))))) :: R) ⟨by omega, fun w1 h1 h2 => by rw [selK_yes hk2 hb, stP_snoc]; exact refS_step (i := ⟨some ⟨ba, oa, none⟩, cc, f, R⟩) (hT w1 h1 (fun x hx => h2 x (.tail _ (.tail _ hx)))) (okAll_rd (T := 64) (sz := 1) (n := 4) (c := c113) h2 (.head _)) (okAll_rd (T := 4) (sz := 1) (n := 8192) (c := 8192) h2 (.tail _ (.head _)))⟩ (by omega) ⟨rfl, rfl, rfl, rfl, rfl, rfl, rfl, rfl, by rw [selK_yes hk2 hb, stH_snoc, hb115]; rfl, by rw [jp_yes hk2 hb]; rfl, rfl, rfl, rfl, trivial⟩ (fun w hw => by have h2 : Sat _ _ (.blk b7 (.cells #[.slice A113 4 c113, .bool hires, .int .i64 (m : Int)] 36 (0, 0)) :: .blk b14 (.cells #[.slice none 0 0, .bool false, .int .i64 0] 36 (0, 0)) :: .own 64 1 (.slice A113 4 c113) 4 (plS4 (setF f k b107) 4) :: .own 4 1 (.slice (some ⟨b107, 0, none⟩) 8192 8192) 8192 (boolsN 8192 (flatP (xorQ ((stP (ffD hires x y n false clip d) P0 (selK m k)).1 k) (sprD ⟨fun _ => noneQ, hires, 0⟩ false clip x y ((d.drop ((selK m k).length * perN n false)).take (perN n false)))))) :: R) w := hw.sub; exact h2) | exact r_again4 (k + 1) A cc f R ⟨by omega, by rw [selK_no hk2 (by simpa using hc)]; exact hT⟩ (by omega) ⟨rfl, rfl, rfl, rfl, rfl, rfl, rfl, rfl, by rw [selK_no hk2 (by simpa using hc)]; rfl, by rw [selK_no hk2 (by simpa using hc)]; rfl, rfl, rfl, rfl, trivial⟩ (fun w hw => hw.sub)
          · refine r_go rfl rfl ?_
            refine r_move rfl rfl ?_
            refine r_pick_f rfl rfl rfl ?_
            refine r_assign rfl rfl ?_
            refine r_nil ?_
            refine r_bn ?_
            refine r_tn ?_
            refine r_region ?_
            refine r_move rfl rfl ?_
            refine r_add rfl rfl rfl (w64 (by omega)) ?_
            refine r_assign rfl rfl ?_
            refine r_nil ?_
            refine r_tn ?_
            first | exact r_again4 (k + 1) A113 c113 (setF f k b107) (.own 64 1 (.slice A113 4 c113) 4 (plS4 (setF f k b107) 4) :: .own 4 1 (.slice (some ⟨b107, 0, none⟩) 8192 8192) 8192 (boolsN 8192 (flatP (xorQ ((stP (ffD hires x y n false clip d) P0 (selK m k)).1 k) (sprD ⟨fun _ => noneQ, hires, 0⟩ false clip x y ((d.drop ((selK m k).length * perN n false)).take (perN n false)))))) :: R) ⟨by omega, fun w1 h1 h2 => by rw [selK_yes hk2 hb, stP_snoc]; exact refS_step (i := ⟨some ⟨ba, oa, none⟩, cc, f, R⟩) (hT w1 h1 (fun x hx => h2 x (.tail _ (.tail _ hx)))) (okAll_rd (T := 64) (sz := 1) (n := 4) (c := c113) h2 (.head _)) (okAll_rd (T := 4) (sz := 1) (n := 8192) (c := 8192) h2 (.tail _ (.head _)))⟩ (by omega) ⟨rfl, rfl, rfl, rfl, rfl, rfl, rfl, rfl, by rw [selK_yes hk2 hb, stH_snoc, hb115]; rfl, by rw [jp_yes hk2 hb]; rfl, rfl, rfl, rfl, trivial⟩ (fun w hw => by have h2 : Sat _ _ (.blk b7 (.cells #[.slice A113 4 c113, .bool hires, .int .i64 (m : Int)] 36 (0, 0)) :: .blk b14 (.cells #[.slice none 0 0, .bool false, .int .i64 0] 36 (0, 0)) :: .own 64 1 (.slice A113 4 c113) 4 (plS4 (setF f k b107) 4) :: .own 4 1 (.slice (some ⟨b107, 0, none⟩) 8192 8192) 8192 (boolsN 8192 (flatP (xorQ ((stP (ffD hires x y n false clip d) P0 (selK m k)).1 k) (sprD ⟨fun _ => noneQ, hires, 0⟩ false clip x y ((d.drop ((selK m k).length * perN n false)).take (perN n false)))))) :: R) w := hw.sub; exact h2) | exact r_again4 (k + 1) A cc f R ⟨by omega, by rw [selK_no hk2 (by simpa using hc)]; exact hT⟩ (by omega) ⟨rfl, rfl, rfl, rfl, rfl, rfl, rfl, rfl, by rw [selK_no hk2 (by simpa using hc)]; rfl, by rw [selK_no hk2 (by simpa using hc)]; rfl, rfl, rfl, rfl, trivial⟩ (fun w hw => hw.sub)
    · refine r_exit ?_
      refine r_te ?_
      refine r_te ?_
      refine r_be ?_
      refine r_tn ?_
      refine r_seq ?_
      refine r_region ?_
      have hk3 : k = 4 := by have h := of_decide_eq_false hc; omega
      subst hk3
      refine r_loadV rfl rfl rfl rfl rfl ?_
      refine r_move rfl rfl ?_
      refine r_storeV rfl rfl rfl rfl rfl rfl ?_
      refine r_assign rfl rfl ?_
      refine r_nil ?_
      refine r_tn ?_
      refine r_ret ?_
      exact r_done2 (.inl rfl) rfl (res_cellV rfl rfl rfl rfl) (res_tmp rfl) fun w hw => ⟨⟨A, cc, f, R⟩, rfl, hT, hw.sub⟩
  · refine enter Try.func33 rfl rfl rfl ?_
    refine r_seq ?_
    refine r_region ?_
    refine r_boxV rfl rfl fun b7 => ?_
    refine r_allocV (cs := #[.slice none 0 0, .bool false, .int .i64 0]) (by kernel_rfl) rfl fun b14 => ?_
    refine r_assign rfl rfl ?_
    refine r_nil ?_
    refine r_tn ?_
    refine r_seq ?_
    refine r_region ?_
    refine r_assign rfl rfl ?_
    refine r_nil ?_
    refine r_tn ?_
    refine r_seq ?_
    refine r_region ?_
    refine r_assign rfl rfl ?_
    refine r_nil ?_
    refine r_tn ?_
    refine r_seq ?_
    refine r_region ?_
    refine r_fieldAddr (off := 1) (o' := 1) rfl rfl rfl rfl ?_
    refine r_load1 rfl rfl rfl (by rfl) ?_
    refine r_call rfl rfl rfl (by kernel_rfl) rfl (fun w hw => by exact width06 hires w) ?_
    refine r_assign rfl rfl ?_
    refine r_nil ?_
    refine r_tn ?_
    refine r_seq ?_
    refine r_region ?_
    refine r_fieldAddr (off := 1) (o' := 1) rfl rfl rfl rfl ?_
    refine r_load1 rfl rfl rfl (by rfl) ?_
    refine r_call rfl rfl rfl (by kernel_rfl) rfl (fun w hw => by exact refHeight07 hires w) ?_
    refine r_assign rfl rfl ?_
    refine r_nil ?_
    refine r_tn ?_
    refine r_seq ?_
    refine r_seq ?_
    refine r_region ?_
    refine r_assign rfl rfl ?_
    refine r_nil ?_
    refine r_tn ?_
    refine r_block ?_
    refine r_loop4 (fun k A cc (f : Nat → Nat) (R : List Res) => [(7, .pointer (some ⟨b7, 0, none⟩)), (1, .int .i64 (x : Int)), (2, .int .i64 (y : Int)), (3, .int .i64 (n : Int)), (4, .bool true), (5, .bool clip), (6, .slice D d.length dc), (14, .pointer (some ⟨b14, 0, none⟩)), (16, .bool (stH (ffD hires x y n true clip d) (hhD hires x y n true clip d) P0 (selK m k))), (17, .int .i64 ((((selK m k).length * perN n true) : Nat) : Int)), (18, .int .i64 (wd hires : Nat)), (19, .int .i64 (ht hires : Nat)), (20, .int .i64 (k : Int))]) (fun k A cc f R => (.blk b7 (.cells #[.slice A 4 cc, .bool hires, .int .i64 (m : Int)] 36 (0, 0)) :: .blk b14 (.cells #[.slice none 0 0, .bool false, .int .i64 0] 36 (0, 0)) :: R)) (fun k A cc f R => k ≤ 4 ∧ Tells P0 i0 (stP (ffD hires x y n true clip d) P0 (selK m k)).1 ⟨A, cc, f, R⟩) 4 0 i0.A i0.c i0.f [] ⟨by omega, fun w1 h1 _ => by rw [show selK m 0 = [] from rfl, stP_nil]; exact h1⟩ ⟨rfl, rfl, rfl, rfl, rfl, rfl, rfl, rfl, by rw [show selK m 0 = [] from rfl, stH_nil]; rfl, by rw [show (selK m 0).length * perN n true = 0 from Nat.zero_mul _]; rfl, rfl, rfl, rfl, trivial⟩ (fun w hw => by have h2 : Sat _ _ [.blk b7 (.cells (rsV i0 hires (m : Int)) 36 (0, 0)), .blk b14 (.cells #[.slice none 0 0, .bool false, .int .i64 0] 36 (0, 0))] w := hw.sub; exact h2) fun k A cc f R hk => ?_
    obtain ⟨hk, hT⟩ := hk
    refine r_seq ?_
    refine r_seq ?_
    refine r_region ?_
    refine r_move rfl rfl ?_
    refine r_lss rfl rfl rfl rfl ?_
    refine r_nil ?_
    refine r_tn ?_
    refine r_cond rfl (fun hc => ?_) (fun hc => ?_)
    · refine r_skip ?_
      refine r_tn ?_
      refine r_seq ?_
      refine r_block ?_
      refine r_seq ?_
      refine r_seq ?_
      refine r_region ?_
      have hk2 : k < 4 := by have h := of_decide_eq_true hc; omega
      clear hc
      refine r_fieldAddr (off := 2) (o' := 2) rfl rfl rfl rfl ?_
      refine r_load1 rfl rfl rfl (by rfl) ?_
      refine r_move rfl rfl ?_
      refine r_call rfl rfl rfl (by kernel_rfl) rfl (fun w hw => by exact on08 m k hm (by omega) w) ?_
      refine r_not rfl rfl rfl ?_
      refine r_nil ?_
      refine r_tn ?_
      refine r_cond rfl (fun hc => ?_) (fun hc => ?_)
      · refine r_exit ?_
        refine r_te ?_
        refine r_be ?_
        refine r_tn ?_
        refine r_region ?_
        refine r_move rfl rfl ?_
        refine r_add rfl rfl rfl (w64 (by omega)) ?_
        refine r_assign rfl rfl ?_
        refine r_nil ?_
        refine r_tn ?_
        first | exact r_again4 (k + 1) A113 c113 (setF f k b107) (.own 64 1 (.slice A113 4 c113) 4 (plS4 (setF f k b107) 4) :: .own 4 1 (.slice (some ⟨b107, 0, none⟩) 8192 8192) 8192 (boolsN 8192 (flatP (xorQ ((stP (ffD hires x y n true clip d) P0 (selK m k)).1 k) (sprD ⟨fun _ => noneQ, hires, 0⟩ true clip x y ((d.drop ((selK m k).length * perN n true)).take (perN n true)))))) :: R) ⟨by omega, fun w1 h1 h2 => by rw [selK_yes hk2 hb, stP_snoc]; exact refS_step (i := ⟨some ⟨ba, oa, none⟩, cc, f, R⟩) (hT w1 h1 (fun x hx => h2 x (.tail _ (.tail _ hx)))) (okAll_rd (T := 64) (sz := 1) (n := 4) (c := c113) h2 (.head _)) (okAll_rd (T := 4) (sz := 1) (n := 8192) (c := 8192) h2 (.tail _ (.head _)))⟩ (by omega) ⟨rfl, rfl, rfl, rfl, rfl, rfl, rfl, rfl, by rw [selK_yes hk2 hb, stH_snoc, hb115]; rfl, by rw [jp_yes hk2 hb]; rfl, rfl, rfl, rfl, trivial⟩ (fun w hw => by have h2 : Sat _ _ (.blk b7 (.cells #[.slice A113 4 c113, .bool hires, .int .i64 (m : Int)] 36 (0, 0)) :: .blk b14 (.cells #[.slice none 0 0, .bool false, .int .i64 0] 36 (0, 0)) :: .own 64 1 (.slice A113 4 c113) 4 (plS4 (setF f k b107) 4) :: .own 4 1 (.slice (some ⟨b107, 0, none⟩) 8192 8192) 8192 (boolsN 8192 (flatP (xorQ ((stP (ffD hires x y n true clip d) P0 (selK m k)).1 k) (sprD ⟨fun _ => noneQ, hires, 0⟩ true clip x y ((d.drop ((selK m k).length * perN n true)).take (perN n true)))))) :: R) w := hw.sub; exact h2) | exact r_again4 (k + 1) A cc f R ⟨by omega, by rw [selK_no hk2 (by simpa using hc)]; exact hT⟩ (by omega) ⟨rfl, rfl, rfl, rfl, rfl, rfl, rfl, rfl, by rw [selK_no hk2 (by simpa using hc)]; rfl, by rw [selK_no hk2 (by simpa using hc)]; rfl, rfl, rfl, rfl, trivial⟩ (fun w hw => hw.sub)
      · refine r_skip ?_
        refine r_tn ?_
        refine r_seq ?_
        have hb : m.testBit k = true := by simpa using hc
        clear hc
        have hjl := jp_le (n := n) hk2 hb true
        rw [← hd] at hjl
        have hper := perN_le (n := n) (by omega) true
        have hel : (((d.drop ((selK m k).length * perN n true)).take (perN n true))).length = perN n true := by rw [List.length_take, List.length_drop]; omega
        have hnl := need_le (m := m) (n := n) (by omega) true
        rw [← hd] at hnl
        have he8 : ∀ z ∈ ((d.drop ((selK m k).length * perN n true)).take (perN n true)), 0 ≤ z ∧ z ≤ 255 := fun z hz => hd8 z (List.mem_of_mem_drop (List.mem_of_mem_take hz))
        refine r_region ?_
        refine r_assign rfl rfl ?_
        refine r_nil ?_
        refine r_tn ?_
        refine r_seq ?_
        refine r_region ?_
        refine r_assign rfl rfl ?_
        refine r_nil ?_
        refine r_tn ?_
        refine r_seq ?_
        refine r_seq ?_
        refine r_region ?_
        refine r_move rfl rfl ?_
        refine r_nil ?_
        refine r_tn ?_
        refine r_cond_t rfl ?_
        refine r_seq ?_
        refine r_region ?_
        refine r_assign rfl rfl ?_
        refine r_nil ?_
        refine r_tn ?_
        refine r_seq ?_
        refine r_region ?_
        refine r_assign rfl rfl ?_
        refine r_nil ?_
        refine r_tn ?_
        refine r_block ?_
        refine Run.ownNil 90 1 ?_
        refine r_loop2 (fun j A21 c21 => [(7, .pointer (some ⟨b7, 0, none⟩)), (1, .int .i64 (x : Int)), (2, .int .i64 (y : Int)), (3, .int .i64 (n : Int)), (4, .bool true), (5, .bool clip), (6, .slice D d.length dc), (14, .pointer (some ⟨b14, 0, none⟩)), (16, .bool (stH (ffD hires x y n true clip d) (hhD hires x y n true clip d) P0 (selK m k))), (17, .int .i64 ((((selK m k).length * perN n true) : Nat) : Int)), (18, .int .i64 (wd hires : Nat)), (19, .int .i64 (ht hires : Nat)), (20, .int .i64 (k : Int)), (21, .slice A21 j c21), (22, .int .i64 16), (23, .int .i64 (j : Int))]) (fun j A21 c21 => (.own 90 1 (.slice A21 (j) c21) (j) ((pairU ((d.drop ((selK m k).length * perN n true)).take (perN n true)) j).map (Value.int .u16)) :: .blk b7 (.cells #[.slice A 4 cc, .bool hires, .int .i64 (m : Int)] 36 (0, 0)) :: .blk b14 (.cells #[.slice none 0 0, .bool false, .int .i64 0] 36 (0, 0)) :: R)) (fun j A21 c21 => j ≤ 16) 16 0 none 0 (by omega) ⟨rfl, rfl, rfl, rfl, rfl, rfl, rfl, rfl, rfl, rfl, rfl, rfl, rfl, rfl, rfl, rfl, trivial⟩ (fun w hw => by have h2 : Sat _ _ (.own 90 1 (.slice none (0) 0) (0) ([]) :: .blk b7 (.cells #[.slice A 4 cc, .bool hires, .int .i64 (m : Int)] 36 (0, 0)) :: .blk b14 (.cells #[.slice none 0 0, .bool false, .int .i64 0] 36 (0, 0)) :: R) w := hw.sub; exact h2) fun j A21 c21 hj => ?_
        refine r_seq ?_
        refine r_seq ?_
        refine r_region ?_
        refine r_move rfl rfl ?_
        refine r_lss rfl rfl rfl rfl ?_
        refine r_nil ?_
        refine r_tn ?_
        refine r_cond rfl (fun hc => ?_) (fun hc => ?_)
        · refine r_skip ?_
          refine r_tn ?_
          refine r_seq ?_
          refine r_block ?_
          refine r_mixed (by kernel_rfl) (by kernel_rfl) ?_
          have hj2 : j < 16 := by have h := of_decide_eq_true hc; omega
          clear hc
          have hp32 : perN n true = 32 := rfl
          have hje : 2 * j < ((d.drop ((selK m k).length * perN n true)).take (perN n true)).length := by omega
          have hje2 : 2 * j + 1 < ((d.drop ((selK m k).length * perN n true)).take (perN n true)).length := by omega
          have hd_z1 : d[((selK m k).length * perN n true) + 2 * j] = ((d.drop ((selK m k).length * perN n true)).take (perN n true))[2 * j] := by rw [List.getElem_take, List.getElem_drop]
          obtain ⟨z1, hz1⟩ : ∃ z : Nat, d[((selK m k).length * perN n true) + 2 * j] = z := ⟨d[((selK m k).length * perN n true) + 2 * j].toNat, by have h := hd8 _ (List.getElem_mem (show ((selK m k).length * perN n true) + 2 * j < d.length by omega)); omega⟩
          have hrz1 := hd8 _ (List.getElem_mem (show ((selK m k).length * perN n true) + 2 * j < d.length by omega))
          rw [hz1] at hrz1 hd_z1
          have hd_z2 : d[((selK m k).length * perN n true) + (2 * j + 1)] = ((d.drop ((selK m k).length * perN n true)).take (perN n true))[(2 * j + 1)] := by rw [List.getElem_take, List.getElem_drop]
          obtain ⟨z2, hz2⟩ : ∃ z : Nat, d[((selK m k).length * perN n true) + (2 * j + 1)] = z := ⟨d[((selK m k).length * perN n true) + (2 * j + 1)].toNat, by have h := hd8 _ (List.getElem_mem (show ((selK m k).length * perN n true) + (2 * j + 1) < d.length by omega)); omega⟩
          have hrz2 := hd8 _ (List.getElem_mem (show ((selK m k).length * perN n true) + (2 * j + 1) < d.length by omega))
          rw [hz2] at hrz2 hd_z2
          obtain ⟨bd, od, rfl, hcd⟩ := hR (((selK m k).length * perN n true) + 2 * j) _ (by rw [List.getElem?_map, List.getElem?_eq_getElem (show ((selK m k).length * perN n true) + 2 * j < d.length by omega)]; rfl)
          refine r_move rfl rfl ?_
          refine r_move rfl rfl ?_
          refine r_move rfl rfl ?_
          refine r_move rfl rfl ?_
          refine r_mul (r := ((2 * j : Nat) : Int)) rfl rfl rfl ((w64 (by omega)).trans (by omega)) ?_
          refine r_add (r := ((((selK m k).length * perN n true) + 2 * j : Nat) : Int)) rfl rfl rfl ((w64 (by omega)).trans (by omega)) ?_
          refine r_indexSl (sz := 1) (o' := od + (((selK m k).length * perN n true) + 2 * j)) rfl rfl rfl rfl rfl (by omega) (by omega) (by omega) ?_
          refine r_loadC (p := ⟨bd, od + (((selK m k).length * perN n true) + 2 * j), none⟩) (v := .int .u8 (z1 : Int)) rfl rfl rfl (fun w hw => (hR.keep hw).cell (by rw [List.getElem?_map, List.getElem?_eq_getElem (show ((selK m k).length * perN n true) + 2 * j < d.length by omega), hz1]; rfl) rfl) ?_
          refine r_convert (r := (z1 : Int)) rfl rfl rfl rfl (IntWalk.u16_in _ ⟨by omega, by omega⟩) ?_
          refine r_mul (r := ((256 * z1 : Nat) : Int)) rfl rfl rfl ((IntWalk.u16_in _ ⟨by omega, by omega⟩).trans (by omega)) ?_
          refine r_move rfl rfl ?_
          refine r_move rfl rfl ?_
          refine r_move rfl rfl ?_
          refine r_mul (r := ((2 * j : Nat) : Int)) rfl rfl rfl ((w64 (by omega)).trans (by omega)) ?_
          refine r_add (r := ((((selK m k).length * perN n true) + 2 * j : Nat) : Int)) rfl rfl rfl ((w64 (by omega)).trans (by omega)) ?_
          refine r_add (r := ((((selK m k).length * perN n true) + (2 * j + 1) : Nat) : Int)) rfl rfl rfl ((w64 (by omega)).trans (by omega)) ?_
          refine r_indexSl (sz := 1) (o' := od + (((selK m k).length * perN n true) + (2 * j + 1))) rfl rfl rfl rfl rfl (by omega) (by omega) (by omega) ?_
          refine r_loadC (p := ⟨bd, od + (((selK m k).length * perN n true) + (2 * j + 1)), none⟩) (v := .int .u8 (z2 : Int)) rfl rfl rfl (fun w hw => (hR.keep hw).cell (by rw [List.getElem?_map, List.getElem?_eq_getElem (show ((selK m k).length * perN n true) + (2 * j + 1) < d.length by omega), hz2]; rfl) rfl) ?_
          refine r_convert (r := (z2 : Int)) rfl rfl rfl rfl (IntWalk.u16_in _ ⟨by omega, by omega⟩) ?_
          refine r_add (r := ((256 * z1 + z2 : Nat) : Int)) rfl rfl rfl ((IntWalk.u16_in _ ⟨by omega, by omega⟩).trans (by omega)) ?_
          have hpe : pairAt ((d.drop ((selK m k).length * perN n true)).take (perN n true)) j = ((256 * z1 + z2 : Nat) : Int) := pairAt_is hje2 hd_z1.symm hd_z2.symm
          rw [← hpe]
          refine r_lit (sz := 1) (pv := [(0, .int .u16 (pairAt ((d.drop ((selK m k).length * perN n true)).take (perN n true)) j))]) (cells := #[.int .u16 (pairAt ((d.drop ((selK m k).length * perN n true)).take (perN n true)) j)]) rfl rfl rfl rfl rfl rfl (by kernel_rfl) rfl (fun b67 => ?_) (by decide)
          refine r_append (k := 1) (news := ([pairAt ((d.drop ((selK m k).length * perN n true)).take (perN n true)) j].map (Value.int .u16))) (sz := 1) (bytes := 2) rfl rfl rfl rfl rfl rfl (by decide) (fun w hw => own_rd (A := some ⟨b67, 0, none⟩) (m := 1) (c := 1) hw) rfl (fun u hu => by obtain ⟨z, _, rfl⟩ := List.mem_map.1 hu; rfl) (by omega) (by unfold maxLen; omega) fun A68 c68 => ?_
          refine r_assign rfl rfl ?_
          refine r_nil ?_
          refine r_bn ?_
          refine r_tn ?_
          refine r_region ?_
          refine r_move rfl rfl ?_
          refine r_add rfl rfl rfl (w64 (by omega)) ?_
          refine r_assign rfl rfl ?_
          refine r_nil ?_
          refine r_tn ?_
          exact r_again2 (j + 1) A68 c68 (by omega) (by omega) ⟨rfl, rfl, rfl, rfl, rfl, rfl, rfl, rfl, rfl, rfl, rfl, rfl, rfl, rfl, rfl, rfl, trivial⟩ (fun w hw => by rw [pairU_succ, List.map_append]; exact hw.sub)
        · refine r_exit ?_
          refine r_te ?_
          refine r_te ?_
          refine r_be ?_
          refine r_tn ?_
          refine r_seq ?_
          refine r_region ?_
          have hj3 : j = 16 := by have h := of_decide_eq_false hc; omega
          subst hj3
          have hru : rowsU ((d.drop ((selK m k).length * perN n true)).take (perN n true)) true = pairU ((d.drop ((selK m k).length * perN n true)).take (perN n true)) 16 := by rw [rowsU_big, hel]; exact congrArg (pairU _) (by rw [show perN n true = 32 from rfl])
          refine r_move rfl rfl ?_
          refine r_move rfl rfl ?_
          refine r_move rfl rfl ?_
          refine r_call rfl rfl rfl (by kernel_rfl) rfl (fun w hw => by exact refPer08 (n : Int) true w) ?_
          refine r_add (r := ((((selK m k).length * perN n true) + perN n true : Nat) : Int)) rfl rfl rfl (by rw [per_cast]; exact (w64 (by omega)).trans (by omega)) ?_
          refine r_assign rfl rfl ?_
          refine r_nil ?_
          refine r_tn ?_
          refine r_seq ?_
          refine r_have (p := ∃ b o, A = some ⟨b, o, none⟩) (fun w hw => rs_some (hT w (h0.keep hw) (fun x hx => hw.ok x (by simp [hx]))).1) fun hA => ?_
          obtain ⟨ba, oa, rfl⟩ := hA
          refine r_mixedD { xb := [], rb := [ba, b7], rs := [91, 94], fs := [], acs := [106] } (by kernel_rfl) (by kernel_rfl) (fun w hw k2 hk2 => by
            simp only [List.mem_cons, List.not_mem_nil, or_false] at hk2
            rcases hk2 with rfl | rfl
            · exact rs_lt (hT w (h0.keep hw) (fun x hx => hw.ok x (by simp [hx]))).1
            · exact Sat.lt hw) ?_
          refine r_fieldAddr (off := 0) (o' := 0) rfl rfl rfl rfl ?_
          refine r_load1 rfl rfl rfl (by rfl) ?_
          refine r_move rfl rfl ?_
          refine r_indexSl (sz := 1) (o' := oa + k) rfl rfl rfl rfl rfl (by omega) (by omega) (by omega) ?_
          refine r_loadC (p := ⟨ba, oa + k, none⟩) (v := .slice (some ⟨f k, 0, none⟩) 8192 8192) rfl rfl rfl (fun w hw => (hT w (h0.keep hw) (fun x hx => hw.ok x (by simp [hx]))).1.cell (plS4_at f hk2) rfl) ?_
          refine r_move rfl rfl ?_
          refine r_move rfl rfl ?_
          refine r_move rfl rfl ?_
          refine r_move rfl rfl ?_
          refine r_rem (r := ((x % wd hires : Nat) : Int)) rfl rfl rfl (by omega) rfl ?_
          refine r_move rfl rfl ?_
          refine r_move rfl rfl ?_
          refine r_rem (r := ((y % ht hires : Nat) : Int)) rfl rfl rfl (by omega) rfl ?_
          refine r_fieldAddr (off := 1) (o' := 1) rfl rfl rfl rfl ?_
          refine r_load1 rfl rfl rfl (by rfl) ?_
          refine r_move rfl rfl ?_
          refine r_callx rfl rfl rfl (by kernel_rfl) rfl (fun w hw => by exact refSprN08 A21 c21 ((d.drop ((selK m k).length * perN n true)).take (perN n true)) true 16 hires clip x y he8 (by rw [hel]; exact perN_16 hn true) (by rw [hru, pairU_len]) w (by rw [hru]; exact own_rd (A := A21) (m := 16) (c := c21) hw)) ?_
          rintro b106 _
          refine r_callx rfl rfl rfl (by kernel_rfl) rfl (fun w hw => by exact refDrN08 ((stP (ffD hires x y n true clip d) P0 (selK m k)).1 k) (sprD ⟨fun _ => noneQ, hires, 0⟩ true clip x y ((d.drop ((selK m k).length * perN n true)).take (perN n true))) (f k) b106 w ((hT w (h0.keep hw) (fun x hx => hw.ok x (by simp [hx]))).2 k hk2) (own_rd (A := some ⟨b106, 0, none⟩) (m := 8192) (c := 8192) hw)) ?_
          rintro b107 _
          refine r_move rfl rfl ?_
          refine r_extract rfl rfl rfl ?_
          refine r_extract rfl rfl rfl ?_
          refine r_assign rfl rfl ?_
          refine r_assign rfl rfl ?_
          refine r_nil ?_
          refine r_tn ?_
          refine r_seq ?_
          refine r_region ?_
          refine r_loadV rfl rfl rfl rfl rfl ?_
          refine r_move rfl rfl ?_
          refine r_move rfl rfl ?_
          refine r_callx rfl rfl rfl (by kernel_rfl) rfl (fun w hw => by exact refWith08 f (some ⟨ba, oa, none⟩) cc hires (m : Int) k b107 hk2 w (hT w (h0.keep hw) (fun x hx => hw.ok x (by simp [hx]))).1) ?_
          rintro ⟨A113, c113⟩ _
          refine r_storeV rfl rfl rfl rfl rfl rfl ?_
          refine r_nil ?_
          refine r_tn ?_
          refine r_region ?_
          refine r_move rfl rfl ?_
          refine r_move rfl rfl ?_
          refine r_split 115 rfl (fun hb115 => ?_) (fun hb115 => ?_)
          · refine r_pass rfl rfl rfl rfl ?_
            refine r_pick_t rfl rfl rfl ?_
            refine r_assign rfl rfl ?_
            refine r_nil ?_
            refine r_bn ?_
            refine r_tn ?_
            refine r_region ?_
            refine r_move rfl rfl ?_
            refine r_add rfl rfl rfl (w64 (by omega)) ?_
            refine r_assign rfl rfl ?_
            refine r_nil ?_
            refine r_tn ?_
            first | exact r_again4 (k + 1) A113 c113 (setF f k b107) (.own 64 1 (.slice A113 4 c113) 4 (plS4 (setF f k b107) 4) :: .own 4 1 (.slice (some ⟨b107, 0, none⟩) 8192 8192) 8192 (boolsN 8192 (flatP (xorQ ((stP (ffD hires x y n true clip d) P0 (selK m k)).1 k) (sprD ⟨fun _ => noneQ, hires, 0⟩ true clip x y ((d.drop ((selK m k).length * perN n true)).take (perN n true)))))) :: R) ⟨by omega, fun w1 h1 h2 => by rw [selK_yes hk2 hb, stP_snoc]; exact refS_step (i := ⟨some ⟨ba, oa, none⟩, cc, f, R⟩) (hT w1 h1 (fun x hx => h2 x (.tail _ (.tail _ hx)))) (okAll_rd (T := 64) (sz := 1) (n := 4) (c := c113) h2 (.head _)) (okAll_rd (T := 4) (sz := 1) (n := 8192) (c := 8192) h2 (.tail _ (.head _)))⟩ (by omega) ⟨rfl, rfl, rfl, rfl, rfl, rfl, rfl, rfl, by rw [selK_yes hk2 hb, stH_snoc, hb115]; rfl, by rw [jp_yes hk2 hb]; rfl, rfl, rfl, rfl, trivial⟩ (fun w hw => by have h2 : Sat _ _ (.blk b7 (.cells #[.slice A113 4 c113, .bool hires, .int .i64 (m : Int)] 36 (0, 0)) :: .blk b14 (.cells #[.slice none 0 0, .bool false, .int .i64 0] 36 (0, 0)) :: .own 64 1 (.slice A113 4 c113) 4 (plS4 (setF f k b107) 4) :: .own 4 1 (.slice (some ⟨b107, 0, none⟩) 8192 8192) 8192 (boolsN 8192 (flatP (xorQ ((stP (ffD hires x y n true clip d) P0 (selK m k)).1 k) (sprD ⟨fun _ => noneQ, hires, 0⟩ true clip x y ((d.drop ((selK m k).length * perN n true)).take (perN n true)))))) :: R) w := hw.sub; exact h2) | exact r_again4 (k + 1) A cc f R ⟨by omega, by rw [selK_no hk2 (by simpa using hc)]; exact hT⟩ (by omega) ⟨rfl, rfl, rfl, rfl, rfl, rfl, rfl, rfl, by rw [selK_no hk2 (by simpa using hc)]; rfl, by rw [selK_no hk2 (by simpa using hc)]; rfl, rfl, rfl, rfl, trivial⟩ (fun w hw => hw.sub)
          · refine r_go rfl rfl ?_
            refine r_move rfl rfl ?_
            refine r_pick_f rfl rfl rfl ?_
            refine r_assign rfl rfl ?_
            refine r_nil ?_
            refine r_bn ?_
            refine r_tn ?_
            refine r_region ?_
            refine r_move rfl rfl ?_
            refine r_add rfl rfl rfl (w64 (by omega)) ?_
            refine r_assign rfl rfl ?_
            refine r_nil ?_
            refine r_tn ?_
            first | exact r_again4 (k + 1) A113 c113 (setF f k b107) (.own 64 1 (.slice A113 4 c113) 4 (plS4 (setF f k b107) 4) :: .own 4 1 (.slice (some ⟨b107, 0, none⟩) 8192 8192) 8192 (boolsN 8192 (flatP (xorQ ((stP (ffD hires x y n true clip d) P0 (selK m k)).1 k) (sprD ⟨fun _ => noneQ, hires, 0⟩ true clip x y ((d.drop ((selK m k).length * perN n true)).take (perN n true)))))) :: R) ⟨by omega, fun w1 h1 h2 => by rw [selK_yes hk2 hb, stP_snoc]; exact refS_step (i := ⟨some ⟨ba, oa, none⟩, cc, f, R⟩) (hT w1 h1 (fun x hx => h2 x (.tail _ (.tail _ hx)))) (okAll_rd (T := 64) (sz := 1) (n := 4) (c := c113) h2 (.head _)) (okAll_rd (T := 4) (sz := 1) (n := 8192) (c := 8192) h2 (.tail _ (.head _)))⟩ (by omega) ⟨rfl, rfl, rfl, rfl, rfl, rfl, rfl, rfl, by rw [selK_yes hk2 hb, stH_snoc, hb115]; rfl, by rw [jp_yes hk2 hb]; rfl, rfl, rfl, rfl, trivial⟩ (fun w hw => by have h2 : Sat _ _ (.blk b7 (.cells #[.slice A113 4 c113, .bool hires, .int .i64 (m : Int)] 36 (0, 0)) :: .blk b14 (.cells #[.slice none 0 0, .bool false, .int .i64 0] 36 (0, 0)) :: .own 64 1 (.slice A113 4 c113) 4 (plS4 (setF f k b107) 4) :: .own 4 1 (.slice (some ⟨b107, 0, none⟩) 8192 8192) 8192 (boolsN 8192 (flatP (xorQ ((stP (ffD hires x y n true clip d) P0 (selK m k)).1 k) (sprD ⟨fun _ => noneQ, hires, 0⟩ true clip x y ((d.drop ((selK m k).length * perN n true)).take (perN n true)))))) :: R) w := hw.sub; exact h2) | exact r_again4 (k + 1) A cc f R ⟨by omega, by rw [selK_no hk2 (by simpa using hc)]; exact hT⟩ (by omega) ⟨rfl, rfl, rfl, rfl, rfl, rfl, rfl, rfl, by rw [selK_no hk2 (by simpa using hc)]; rfl, by rw [selK_no hk2 (by simpa using hc)]; rfl, rfl, rfl, rfl, trivial⟩ (fun w hw => hw.sub)
    · refine r_exit ?_
      refine r_te ?_
      refine r_te ?_
      refine r_be ?_
      refine r_tn ?_
      refine r_seq ?_
      refine r_region ?_
      have hk3 : k = 4 := by have h := of_decide_eq_false hc; omega
      subst hk3
      refine r_loadV rfl rfl rfl rfl rfl ?_
      refine r_move rfl rfl ?_
      refine r_storeV rfl rfl rfl rfl rfl rfl ?_
      refine r_assign rfl rfl ?_
      refine r_nil ?_
      refine r_tn ?_
      refine r_ret ?_
      exact r_done2 (.inl rfl) rfl (res_cellV rfl rfl rfl rfl) (res_tmp rfl) fun w hw => ⟨⟨A, cc, f, R⟩, rfl, hT, hw.sub⟩
end Go.Proofs.Ytgamehjakgcgnaa
