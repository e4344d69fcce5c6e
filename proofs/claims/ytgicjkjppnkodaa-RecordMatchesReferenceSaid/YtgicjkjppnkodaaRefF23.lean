/-
  Records (chapter 23): the reference s Encode.
-/
import Derived.Test.YtgicjkjppnkodaaRefE23
namespace Go.Proofs.Ytgicjkjppnkodaa
open Go Go.RowKit
set_option linter.unusedVariables false
set_option linter.unusedSimpArgs false
set_option maxHeartbeats 2000000
set_option maxRecDepth 4000
attribute [local irreducible] mix

theorem usedF_def (P : Nat → Nat → Nat → Bool) (k : Nat) : (!eqQ (P k) noneQ) = usedF P k := rfl
def refsL (l : List (Rec × RefIx)) : List Value := l.flatMap fun p => (refV p.1 p.2).toList
theorem refs_at : ∀ {l : List (Rec × RefIx)} {i j : Nat} (hi : i < l.length), j < 9 → (refsL l)[i * 9 + j]? = (refV l[i].1 l[i].2).toList[j]?
  | [], i, _, hi, _ => by simp at hi
  | p :: l, 0, j, hi, hj => by
    show ((refV p.1 p.2).toList ++ refsL l)[0 * 9 + j]? = _
    have hl : (refV p.1 p.2).toList.length = 9 := rfl
    rw [Nat.zero_mul, Nat.zero_add, List.getElem?_append, hl, if_pos hj]; rfl
  | p :: l, i + 1, j, hi, hj => by
    show ((refV p.1 p.2).toList ++ refsL l)[(i + 1) * 9 + j]? = _
    have hl : (refV p.1 p.2).toList.length = 9 := rfl
    rw [List.getElem?_append, hl, if_neg (by omega), show (i + 1) * 9 + j - 9 = i * 9 + j by omega]
    exact refs_at (by simpa using hi) hj
theorem refs_some {w : World} {A : Option Addr} {l : List (Rec × RefIx)} (hA : Rd w A (refsL l)) {i : Nat} (hi : i < l.length) : ∃ b o, A = some ⟨b, o, none⟩ := by
  have h1 := refs_at hi (j := 0) (by decide)
  have h2 : (refV l[i].1 l[i].2).toList[0]? = some (.slice (some ⟨l[i].2.a, 0, none⟩) 4 l[i].2.c) := rfl
  rw [h2] at h1
  obtain ⟨b, o, e, _⟩ := hA _ _ h1
  exact ⟨b, o, e⟩
theorem Rd_ref {w : World} {b o : Nat} {l : List (Rec × RefIx)} (hA : Rd w (some ⟨b, o, none⟩) (refsL l)) {i : Nat} (hi : i < l.length) : Rd w (some ⟨b, o + i * 9, none⟩) (refV l[i].1 l[i].2).toList := fun j u hj => by
  have hlt : j < 9 := (List.getElem?_eq_some_iff.1 hj).1
  have h2 := hA.cell (j := i * 9 + j) (u := u) (by rw [refs_at hi hlt]; exact hj) rfl
  exact ⟨b, o + i * 9, rfl, by rw [show o + i * 9 + j = o + (i * 9 + j) by omega]; exact h2⟩
theorem refsL_snoc (l : List (Rec × RefIx)) (p : Rec × RefIx) : refsL (l ++ [p]) = refsL l ++ (refV p.1 p.2).toList := by
  unfold refsL
  rw [List.flatMap_append, List.flatMap_cons, List.flatMap_nil, List.append_nil]
theorem flag_sum (a b : Bool) : IntKind.i64.wrap ((if a then 1 else 0) + (if b then 2 else 0)) = ((flagN a b : Nat) : Int) := by cases a <;> cases b <;> decide
/-- the bytes of the first records -/
def BL (l : List (Rec × RefIx)) (i : Nat) : List Int := (magicL ++ be 4 l.length) ++ (l.take i).flatMap fun p => encB p.1
theorem BL_zero (l : List (Rec × RefIx)) : BL l 0 = magicL ++ be 4 l.length := by
  unfold BL
  rw [List.take_zero, List.flatMap_nil, List.append_nil]
theorem BL_all (l : List (Rec × RefIx)) : BL l l.length = topB (l.map Prod.fst) := by
  unfold BL topB
  rw [List.take_length, List.append_assoc, List.length_map, List.flatMap_map]
theorem BL_succ {l : List (Rec × RefIx)} {i : Nat} (hi : i < l.length) : BL l (i + 1) = ((((((BL l i ++ [((flagN l[i].1.hires l[i].1.sound : Nat) : Int), l[i].1.pitch]) ++ l[i].1.pat) ++ [IntKind.u8.wrap l[i].1.kind, IntKind.u8.wrap l[i].1.cause]) ++ be 2 l[i].1.pc.toNat) ++ be 8 l[i].1.cycle.toNat) ++ [((num (usedF l[i].1.P) 4 : Nat) : Int)]) ++ bodyB l[i].1.P 4 := by
  unfold BL
  rw [List.take_add_one, List.getElem?_eq_getElem hi, List.flatMap_append]
  have e : ((some l[i]).toList.flatMap fun p : Rec × RefIx => encB p.1) = encB l[i].1 := by
    show [l[i]].flatMap (fun p : Rec × RefIx => encB p.1) = _
    rw [List.flatMap_cons, List.flatMap_nil, List.append_nil]
  rw [e]
  unfold encB headB flagN
  simp only [List.append_assoc, List.cons_append, List.nil_append]
theorem BL_le {l : List (Rec × RefIx)} (h : ∀ p ∈ l, p.1.pat.length = 16) : ∀ {i : Nat}, i ≤ l.length → (BL l i).length ≤ 8 + 4127 * i
  | 0, _ => by rw [BL_zero, List.length_append, be_len]; exact Nat.le_refl _
  | i + 1, hi => by
    have h1 := BL_le h (i := i) (by omega)
    have h2 := lenB_le l[i].1.P 4
    rw [BL_succ (by omega)]
    simp only [List.length_append, List.length_cons, List.length_nil, be_len, bodyB_len, h _ (List.getElem_mem (show i < l.length by omega))]
    omega
theorem num_yes {f : Nat → Bool} {k : Nat} (h : f k = true) : num f k + 2 ^ k = num f (k + 1) := by simp only [num]; rw [h]; rfl
theorem num_no {f : Nat → Bool} {k : Nat} (h : f k = false) : num f k = num f (k + 1) := by simp only [num]; rw [h]; rfl
theorem bodyB_zero (P : Nat → Nat → Nat → Bool) : bodyB P 0 = [] := rfl
theorem two_pow (k : Nat) : 2 * 2 ^ k = 2 ^ (k + 1) := by rw [Nat.pow_succ]; omega
theorem add_rng {x y : Nat} (h : x < y) (h2 : y ≤ 2 ^ 4) : -9223372036854775808 ≤ (x : Int) + (y : Int) ∧ (x : Int) + (y : Int) ≤ 9223372036854775807 := by omega
theorem mul_rng {y : Nat} (h2 : y ≤ 2 ^ 4) : -9223372036854775808 ≤ 2 * (y : Int) ∧ 2 * (y : Int) ≤ 9223372036854775807 := by omega


attribute [local irreducible] topB usedF validR BL refsL bodyB rowsB be


theorem refEncode23 (l : List (Rec × RefIx)) (A : Option Addr) (c : Nat) (hlen : l.length ≤ 4) (w : World) (ok : ∀ p ∈ l, RefIs w p.1 p.2 ∧ p.1.pat.length = 16 ∧ validR p.1 = true) (hA : Rd w A (refsL l)) :
    Calls Try.prog 15 #[.slice A l.length c] w fun e w' => ∃ i : Option Addr × Nat, e = .returned (.slice i.1 (topB (l.map Prod.fst)).length i.2) ∧ True ∧ Sat w [] [.own 5 1 (.slice i.1 (topB (l.map Prod.fst)).length i.2) (topB (l.map Prod.fst)).length ((topB (l.map Prod.fst)).map (Value.int .u8))] w' := by
  refine enter Try.func15 rfl rfl rfl ?_
  refine r_seq ?_
  refine r_region ?_
  refine r_assign rfl rfl ?_
  refine r_nil ?_
  refine r_tn ?_
  refine r_seq ?_
  refine r_region ?_
  refine r_lit (sz := 1) (pv := [(0, .int .u8 (67)), (1, .int .u8 (56)), (2, .int .u8 (82)), (3, .int .u8 (49))]) (cells := #[.int .u8 (67), .int .u8 (56), .int .u8 (82), .int .u8 (49)]) rfl rfl rfl rfl rfl rfl (by kernel_rfl) rfl (fun b10 => ?_) (by decide)
  refine Run.openOwn (.slice (some ⟨b10, 0, none⟩) 4 4) rfl (fun h => by cases h) fun g cur e1 e2 e3 e4 e5 => ?_
  injection e1 with e1
  injection e1 with e1 _ _
  subst e1
  have hcur : ∀ j u, (magicL.map (Value.int .u8))[j]? = some u → cur[0 + j]? = some u := fun j u hj => take_cell e5 hj
  refine r_convConst rfl rfl rfl rfl ?_
  refine r_move rfl rfl ?_
  refine r_len rfl rfl rfl ?_
  refine r_callx rfl rfl rfl (by kernel_rfl) rfl (fun w hw => by exact refNumber23 (l.length : Int) 4 (by omega) (by decide) (by decide) w) ?_
  rintro b14 _
  refine r_appendG (k := 4) (xs := magicL.map (Value.int .u8)) (news := (be 4 l.length).map (Value.int .u8)) (sz := 1) (bytes := 1) rfl rfl rfl rfl rfl rfl (fun w hw => Rd.blk (hw.look (HasBlk.pick (b := b10))) hcur) rfl (fun w hw => own_rd (A := some ⟨b14, 0, none⟩) (m := 4) (c := 4) hw) (by simp [be_len]) (by omega) (Nat.le_refl _) (by omega) (by unfold maxLen; omega) fun A15 c15 => ?_
  rw [← List.map_append, show (4 : Nat) + 4 = (magicL ++ be 4 l.length).length by rw [List.length_append, be_len]; rfl]
  refine r_assign rfl rfl ?_
  refine r_nil ?_
  refine r_tn ?_
  refine r_seq ?_
  refine r_seq ?_
  refine r_region ?_
  refine r_assign rfl rfl ?_
  refine r_nil ?_
  refine r_tn ?_
  refine r_block ?_
  refine r_loop2 (fun i A3 c3 => [(0, .slice A l.length c), (3, .slice A3 (BL l i).length c3), (4, .int .i64 (i : Int))]) (fun i A3 c3 => [.own 5 1 (.slice A3 (BL l i).length c3) (BL l i).length ((BL l i).map (Value.int .u8))]) (fun i A3 c3 => i ≤ l.length) l.length 0 A15 c15 (by omega) ⟨rfl, by rw [BL_zero]; rfl, rfl, trivial⟩ (fun w hw => by rw [BL_zero]; exact hw.sub) fun i A3 c3 hi => ?_
  refine r_seq ?_
  refine r_seq ?_
  refine r_region ?_
  refine r_move rfl rfl ?_
  refine r_move rfl rfl ?_
  refine r_len rfl rfl rfl ?_
  refine r_lss rfl rfl rfl rfl ?_
  refine r_nil ?_
  refine r_tn ?_
  refine r_cond rfl (fun hc => ?_) (fun hc => ?_)
  · refine r_skip ?_
    refine r_tn ?_
    refine r_seq ?_
    refine r_block ?_
    refine r_seq ?_
    refine r_region ?_
    have hi2 : i < l.length := by have h := of_decide_eq_true hc; omega
    clear hc
    obtain ⟨hri, hpat, hval⟩ := ok _ (List.getElem_mem hi2)
    obtain ⟨ba, oa, rfl⟩ := refs_some hA hi2
    have hrd := Rd_ref hA hi2
    have hBLl := BL_le (fun p hp => (ok p hp).2.1) (show i ≤ l.length by omega)
    obtain ⟨L, hL⟩ : ∃ L, BL l i = L := ⟨_, rfl⟩
    rw [hL] at hBLl ⊢
    obtain ⟨r, hr⟩ : ∃ r, l[i].1 = r := ⟨_, rfl⟩
    obtain ⟨ix, hix⟩ : ∃ ix, l[i].2 = ix := ⟨_, rfl⟩
    rw [hr] at hri hpat hval
    rw [hix] at hri
    have hrd2 : Rd w (some ⟨ba, oa + i * 9, none⟩) (refV r ix).toList := by rw [← hr, ← hix]; exact hrd
    obtain ⟨ra, rc, rb, rd, f, RR⟩ := ix
    obtain ⟨hRA, hRB, hRP⟩ := hri
    have hRA : Rd w (some ⟨ra, 0, none⟩) (plS4 f 4) := hRA
    have hRB : Rd w (some ⟨rb, 0, none⟩) (r.pat.map (Value.int .u8)) := hRB
    have hRP : ∀ j, j < 4 → Rd w (some ⟨f j, 0, none⟩) (boolsN 8192 (flatP (r.P j))) := hRP
    obtain ⟨⟨hpc0, hpc1⟩, ⟨hcy0, hcy1⟩⟩ := valid_get hval
    have hrd2 : Rd w (some ⟨ba, oa + i * 9, none⟩) (#[.slice (some ⟨ra, 0, none⟩) 4 rc, .bool r.hires, .bool r.sound, .slice (some ⟨rb, 0, none⟩) 16 rd, .int .u8 r.pitch, .int .i64 r.kind, .int .i64 r.cause, .int .i64 r.pc, .int .i64 r.cycle]).toList := hrd2
    refine r_move rfl rfl ?_
    refine r_move rfl rfl ?_
    refine r_indexSl (sz := 9) (o' := oa + i * 9) rfl rfl rfl rfl rfl (by omega) (by omega) (by simp) ?_
    refine r_loadRd (vs := #[.slice (some ⟨ra, 0, none⟩) 4 rc, .bool r.hires, .bool r.sound, .slice (some ⟨rb, 0, none⟩) 16 rd, .int .u8 r.pitch, .int .i64 r.kind, .int .i64 r.cause, .int .i64 r.pc, .int .i64 r.cycle].toList) rfl rfl rfl rfl rfl (fun w hw => hrd2.keep hw) ?_
    refine r_allocV (cs := #[.slice none 0 0, .bool false, .bool false, .slice none 0 0, .int .u8 0, .int .i64 0, .int .i64 0, .int .i64 0, .int .i64 0]) (by kernel_rfl) rfl fun b5 => ?_
    refine r_storeV (vs := #[.slice (some ⟨ra, 0, none⟩) 4 rc, .bool r.hires, .bool r.sound, .slice (some ⟨rb, 0, none⟩) 16 rd, .int .u8 r.pitch, .int .i64 r.kind, .int .i64 r.cause, .int .i64 r.pc, .int .i64 r.cycle]) rfl rfl rfl rfl rfl rfl ?_
    refine r_nil ?_
    refine r_tn ?_
    refine r_seq ?_
    refine r_mixedD { xb := [], rb := [b5], rs := [31, 36], fs := [], acs := [29, 32] } (by kernel_rfl) (by kernel_rfl) (fun w hw k hk => by
      simp only [List.mem_cons, List.not_mem_nil, or_false] at hk
      rcases hk with rfl <;> exact Sat.lt hw) ?_
    refine r_move rfl rfl ?_
    refine r_fieldAddr (off := 1) (o' := 1) rfl rfl rfl rfl ?_
    refine r_load1 rfl rfl rfl (by rfl) ?_
    refine r_call rfl rfl rfl (by kernel_rfl) rfl (fun w hw => by exact refFlag23 r.hires 1 w) ?_
    refine r_fieldAddr (off := 2) (o' := 2) rfl rfl rfl rfl ?_
    refine r_load1 rfl rfl rfl (by rfl) ?_
    refine r_call rfl rfl rfl (by kernel_rfl) rfl (fun w hw => by exact refFlag23 r.sound 2 w) ?_
    have hfl := flagN_le r.hires r.sound
    refine r_add (r := ((flagN r.hires r.sound : Nat) : Int)) rfl rfl rfl (flag_sum _ _) ?_
    refine r_convert (r := ((flagN r.hires r.sound : Nat) : Int)) rfl rfl rfl rfl (IntWalk.u8_in _ ⟨by omega, by omega⟩) ?_
    refine r_fieldAddr (off := 4) (o' := 4) rfl rfl rfl rfl ?_
    refine r_load1 rfl rfl rfl (by rfl) ?_
    refine r_lit (sz := 1) (pv := [(0, .int .u8 ((flagN r.hires r.sound : Nat) : Int)), (1, .int .u8 r.pitch)]) (cells := #[.int .u8 ((flagN r.hires r.sound : Nat) : Int), .int .u8 r.pitch]) rfl rfl rfl rfl rfl rfl (by kernel_rfl) rfl (fun b37 => ?_) (by decide)
    refine r_append (k := 2) (news := (([((flagN r.hires r.sound : Nat) : Int), r.pitch]).map (Value.int .u8))) (sz := 1) (bytes := 1) rfl rfl rfl rfl rfl rfl (by decide) (fun w hw => own_rd (A := some ⟨b37, 0, none⟩) (m := 2) (c := 2) hw) (by first | (simp; done) | (simp; omega)) (fun u hu => by obtain ⟨z, _, rfl⟩ := List.mem_map.1 hu; rfl) (by omega) (by unfold maxLen; omega) fun A38 c38 => ?_
    rw [← List.map_append, show (L).length + 2 = (L ++ [((flagN r.hires r.sound : Nat) : Int), r.pitch]).length from (congrArg ((L).length + ·) (show 2 = ([((flagN r.hires r.sound : Nat) : Int), r.pitch]).length from rfl)).trans List.length_append.symm]
    have hl1 : (L ++ [((flagN r.hires r.sound : Nat) : Int), r.pitch]).length = L.length + 2 := by simp only [List.length_append, List.length_cons, List.length_nil]
    refine r_assign rfl rfl ?_
    refine r_nil ?_
    refine r_tn ?_
    refine r_seq ?_
    refine r_region ?_
    refine r_move rfl rfl ?_
    refine r_fieldAddr (off := 3) (o' := 3) rfl rfl rfl rfl ?_
    refine r_load1 rfl rfl rfl (by rfl) ?_
    refine r_append (k := 16) (news := ((r.pat).map (Value.int .u8))) (sz := 1) (bytes := 1) rfl rfl rfl rfl rfl rfl (by decide) (fun w hw => hRB.keep hw) (by rw [List.length_map, hpat]) (fun u hu => by obtain ⟨z, _, rfl⟩ := List.mem_map.1 hu; rfl) (by omega) (by unfold maxLen; omega) fun A42 c42 => ?_
    rw [← List.map_append, show (L ++ [((flagN r.hires r.sound : Nat) : Int), r.pitch]).length + 16 = (L ++ [((flagN r.hires r.sound : Nat) : Int), r.pitch] ++ r.pat).length from (congrArg ((L ++ [((flagN r.hires r.sound : Nat) : Int), r.pitch]).length + ·) (show 16 = (r.pat).length from hpat.symm)).trans List.length_append.symm]
    have hl2 : ((L ++ [((flagN r.hires r.sound : Nat) : Int), r.pitch]) ++ r.pat).length = L.length + 18 := by simp only [List.length_append, List.length_cons, List.length_nil, hpat]
    refine r_assign rfl rfl ?_
    refine r_nil ?_
    refine r_tn ?_
    refine r_seq ?_
    refine r_region ?_
    refine r_move rfl rfl ?_
    refine r_fieldAddr (off := 5) (o' := 5) rfl rfl rfl rfl ?_
    refine r_fieldAddr (off := 0) (o' := 5) rfl rfl rfl rfl ?_
    refine r_load1 rfl rfl rfl rfl ?_
    refine r_convert rfl rfl rfl rfl rfl ?_
    refine r_fieldAddr (off := 5) (o' := 5) rfl rfl rfl rfl ?_
    refine r_fieldAddr (off := 1) (o' := 6) rfl rfl rfl rfl ?_
    refine r_load1 rfl rfl rfl rfl ?_
    refine r_convert rfl rfl rfl rfl rfl ?_
    refine r_lit (sz := 1) (pv := [(0, .int .u8 (IntKind.u8.wrap r.kind)), (1, .int .u8 (IntKind.u8.wrap r.cause))]) (cells := #[.int .u8 (IntKind.u8.wrap r.kind), .int .u8 (IntKind.u8.wrap r.cause)]) rfl rfl rfl rfl rfl rfl (by kernel_rfl) rfl (fun b52 => ?_) (by decide)
    refine r_append (k := 2) (news := (([IntKind.u8.wrap r.kind, IntKind.u8.wrap r.cause]).map (Value.int .u8))) (sz := 1) (bytes := 1) rfl rfl rfl rfl rfl rfl (by decide) (fun w hw => own_rd (A := some ⟨b52, 0, none⟩) (m := 2) (c := 2) hw) (by first | (simp; done) | (simp; omega)) (fun u hu => by obtain ⟨z, _, rfl⟩ := List.mem_map.1 hu; rfl) (by omega) (by unfold maxLen; omega) fun A53 c53 => ?_
    rw [← List.map_append, show ((L ++ [((flagN r.hires r.sound : Nat) : Int), r.pitch]) ++ r.pat).length + 2 = ((L ++ [((flagN r.hires r.sound : Nat) : Int), r.pitch]) ++ r.pat ++ [IntKind.u8.wrap r.kind, IntKind.u8.wrap r.cause]).length from (congrArg (((L ++ [((flagN r.hires r.sound : Nat) : Int), r.pitch]) ++ r.pat).length + ·) (show 2 = ([IntKind.u8.wrap r.kind, IntKind.u8.wrap r.cause]).length from rfl)).trans List.length_append.symm]
    refine r_assign rfl rfl ?_
    refine r_nil ?_
    refine r_tn ?_
    refine r_seq ?_
    have hl3 : (((L ++ [((flagN r.hires r.sound : Nat) : Int), r.pitch]) ++ r.pat) ++ [IntKind.u8.wrap r.kind, IntKind.u8.wrap r.cause]).length = L.length + 20 := by simp only [List.length_append, List.length_cons, List.length_nil, hpat]
    refine r_have (fun w hw => own_some (A := A53) (m := (((L ++ [((flagN r.hires r.sound : Nat) : Int), r.pitch]) ++ r.pat) ++ [IntKind.u8.wrap r.kind, IntKind.u8.wrap r.cause]).length) (c := c53) hw (by omega)) fun hg => ?_
    obtain ⟨g, rfl⟩ := hg
    refine r_have (fun w hw => own_ne (b := b5) (g := g) (m := (((L ++ [((flagN r.hires r.sound : Nat) : Int), r.pitch]) ++ r.pat) ++ [IntKind.u8.wrap r.kind, IntKind.u8.wrap r.cause]).length) (c := c53) hw) fun hne => ?_
    refine r_mixedD { xb := [g], rb := [b5], rs := [62], fs := [], acs := [58, 59] } (by kernel_rfl) (by kernel_rfl) (fun w hw k hk => by
      simp only [List.mem_cons, List.not_mem_nil, or_false] at hk
      rcases hk with rfl <;> exact Sat.lt hw) ?_
    refine r_move rfl rfl ?_
    refine r_fieldAddr (off := 5) (o' := 5) rfl rfl rfl rfl ?_
    refine r_fieldAddr (off := 2) (o' := 7) rfl rfl rfl rfl ?_
    refine r_load1 rfl rfl rfl (by rfl) ?_
    refine r_callx rfl rfl rfl (by kernel_rfl) rfl (fun w hw => by exact refNumber23 r.pc 2 (by omega) (by decide) (by decide) w) ?_
    rintro b58 _
    refine r_append (k := 2) (news := ((be 2 r.pc.toNat).map (Value.int .u8))) (sz := 1) (bytes := 1) rfl rfl rfl rfl rfl rfl (by decide) (fun w hw => own_rd (A := some ⟨b58, 0, none⟩) (m := 2) (c := 2) hw) (by rw [List.length_map, be_len]) (fun u hu => by obtain ⟨z, _, rfl⟩ := List.mem_map.1 hu; rfl) (by omega) (by unfold maxLen; omega) (fun A59 c59 => ?_) (hok := by first | exact True.intro | (simp [OkAct, dstIn, Value.ownBlock]; done))
    rw [← List.map_append, show (((L ++ [((flagN r.hires r.sound : Nat) : Int), r.pitch]) ++ r.pat) ++ [IntKind.u8.wrap r.kind, IntKind.u8.wrap r.cause]).length + 2 = (((L ++ [((flagN r.hires r.sound : Nat) : Int), r.pitch]) ++ r.pat) ++ [IntKind.u8.wrap r.kind, IntKind.u8.wrap r.cause] ++ be 2 r.pc.toNat).length from (congrArg ((((L ++ [((flagN r.hires r.sound : Nat) : Int), r.pitch]) ++ r.pat) ++ [IntKind.u8.wrap r.kind, IntKind.u8.wrap r.cause]).length + ·) (show 2 = (be 2 r.pc.toNat).length from (be_len _ _).symm)).trans List.length_append.symm]
    have hl4 : ((((L ++ [((flagN r.hires r.sound : Nat) : Int), r.pitch]) ++ r.pat) ++ [IntKind.u8.wrap r.kind, IntKind.u8.wrap r.cause]) ++ be 2 r.pc.toNat).length = L.length + 22 := by simp only [List.length_append, List.length_cons, List.length_nil, hpat, be_len]
    refine r_fieldAddr (off := 5) (o' := 5) rfl rfl rfl rfl ?_
    refine r_fieldAddr (off := 3) (o' := 8) rfl rfl rfl rfl ?_
    refine r_load1 rfl rfl rfl (by rfl) ?_
    refine r_callx rfl rfl rfl (by kernel_rfl) rfl (fun w hw => by exact refNumber23 r.cycle 8 (by omega) (by decide) (by decide) w) ?_
    rintro b63 _
    refine r_append (k := 8) (news := ((be 8 r.cycle.toNat).map (Value.int .u8))) (sz := 1) (bytes := 1) rfl rfl rfl rfl rfl rfl (by decide) (fun w hw => own_rd (A := some ⟨b63, 0, none⟩) (m := 8) (c := 8) hw) (by rw [List.length_map, be_len]) (fun u hu => by obtain ⟨z, _, rfl⟩ := List.mem_map.1 hu; rfl) (by omega) (by unfold maxLen; omega) fun A64 c64 => ?_
    rw [← List.map_append, show ((((L ++ [((flagN r.hires r.sound : Nat) : Int), r.pitch]) ++ r.pat) ++ [IntKind.u8.wrap r.kind, IntKind.u8.wrap r.cause]) ++ be 2 r.pc.toNat).length + 8 = ((((L ++ [((flagN r.hires r.sound : Nat) : Int), r.pitch]) ++ r.pat) ++ [IntKind.u8.wrap r.kind, IntKind.u8.wrap r.cause]) ++ be 2 r.pc.toNat ++ be 8 r.cycle.toNat).length from (congrArg (((((L ++ [((flagN r.hires r.sound : Nat) : Int), r.pitch]) ++ r.pat) ++ [IntKind.u8.wrap r.kind, IntKind.u8.wrap r.cause]) ++ be 2 r.pc.toNat).length + ·) (show 8 = (be 8 r.cycle.toNat).length from (be_len _ _).symm)).trans List.length_append.symm]
    refine r_assign rfl rfl ?_
    refine r_nil ?_
    refine r_tn ?_
    refine r_seq ?_
    refine r_region ?_
    refine r_assign rfl rfl ?_
    refine r_nil ?_
    refine r_tn ?_
    refine r_seq ?_
    refine r_region ?_
    refine r_assign rfl rfl ?_
    refine r_nil ?_
    refine r_tn ?_
    refine r_seq ?_
    refine r_region ?_
    refine r_assign rfl rfl ?_
    refine r_nil ?_
    refine r_tn ?_
    refine r_seq ?_
    refine r_seq ?_
    refine r_region ?_
    refine r_assign rfl rfl ?_
    refine r_nil ?_
    refine r_tn ?_
    refine r_block ?_
    have hl5 : (((((L ++ [((flagN r.hires r.sound : Nat) : Int), r.pitch]) ++ r.pat) ++ [IntKind.u8.wrap r.kind, IntKind.u8.wrap r.cause]) ++ be 2 r.pc.toNat) ++ be 8 r.cycle.toNat).length = L.length + 30 := by simp only [List.length_append, List.length_cons, List.length_nil, hpat, be_len]
    refine Run.ownNil 5 1 ?_
    refine r_loop2 (fun k A8 c8 => [(0, .slice (some ⟨ba, oa, none⟩) l.length c), (3, .slice A64 (((((L ++ [((flagN r.hires r.sound : Nat) : Int), r.pitch]) ++ r.pat) ++ [IntKind.u8.wrap r.kind, IntKind.u8.wrap r.cause]) ++ be 2 r.pc.toNat) ++ be 8 r.cycle.toNat).length c64), (4, .int .i64 (i : Int)), (5, .pointer (some ⟨b5, 0, none⟩)), (6, .int .i64 ((num (usedF r.P) k : Nat) : Int)), (7, .int .i64 ((2 ^ k : Nat) : Int)), (8, .slice A8 (bodyB r.P k).length c8), (9, .int .i64 (k : Int))]) (fun k A8 c8 => [.own 5 1 (.slice A64 (((((L ++ [((flagN r.hires r.sound : Nat) : Int), r.pitch]) ++ r.pat) ++ [IntKind.u8.wrap r.kind, IntKind.u8.wrap r.cause]) ++ be 2 r.pc.toNat) ++ be 8 r.cycle.toNat).length c64) (((((L ++ [((flagN r.hires r.sound : Nat) : Int), r.pitch]) ++ r.pat) ++ [IntKind.u8.wrap r.kind, IntKind.u8.wrap r.cause]) ++ be 2 r.pc.toNat) ++ be 8 r.cycle.toNat).length ((((((L ++ [((flagN r.hires r.sound : Nat) : Int), r.pitch]) ++ r.pat) ++ [IntKind.u8.wrap r.kind, IntKind.u8.wrap r.cause]) ++ be 2 r.pc.toNat) ++ be 8 r.cycle.toNat).map (Value.int .u8)), .own 5 1 (.slice A8 (bodyB r.P k).length c8) (bodyB r.P k).length ((bodyB r.P k).map (Value.int .u8)), .blk b5 (.cells #[.slice (some ⟨ra, 0, none⟩) 4 rc, .bool r.hires, .bool r.sound, .slice (some ⟨rb, 0, none⟩) 16 rd, .int .u8 r.pitch, .int .i64 r.kind, .int .i64 r.cause, .int .i64 r.pc, .int .i64 r.cycle] 32 (0, 0))]) (fun k A8 c8 => k ≤ 4) 4 0 none 0 (by omega) ⟨rfl, rfl, rfl, rfl, rfl, rfl, by rw [bodyB_zero]; rfl, rfl, trivial⟩ (fun w hw => by rw [bodyB_zero]; have h2 : Sat _ _ [.own 5 1 (.slice A64 (((((L ++ [((flagN r.hires r.sound : Nat) : Int), r.pitch]) ++ r.pat) ++ [IntKind.u8.wrap r.kind, IntKind.u8.wrap r.cause]) ++ be 2 r.pc.toNat) ++ be 8 r.cycle.toNat).length c64) (((((L ++ [((flagN r.hires r.sound : Nat) : Int), r.pitch]) ++ r.pat) ++ [IntKind.u8.wrap r.kind, IntKind.u8.wrap r.cause]) ++ be 2 r.pc.toNat) ++ be 8 r.cycle.toNat).length ((((((L ++ [((flagN r.hires r.sound : Nat) : Int), r.pitch]) ++ r.pat) ++ [IntKind.u8.wrap r.kind, IntKind.u8.wrap r.cause]) ++ be 2 r.pc.toNat) ++ be 8 r.cycle.toNat).map (Value.int .u8)), .own 5 1 (.slice none 0 0) 0 [], .blk b5 (.cells #[.slice (some ⟨ra, 0, none⟩) 4 rc, .bool r.hires, .bool r.sound, .slice (some ⟨rb, 0, none⟩) 16 rd, .int .u8 r.pitch, .int .i64 r.kind, .int .i64 r.cause, .int .i64 r.pc, .int .i64 r.cycle] 32 (0, 0))] w := hw.sub; exact h2) fun k A8 c8 hk => ?_
    have hnk := num_lt (usedF r.P) k
    have hpk : 2 ^ k ≤ 2 ^ 4 := Nat.pow_le_pow_right (by decide) hk
    have hbk := lenB_le r.P k
    rw [← bodyB_len] at hbk
    refine r_seq ?_
    refine r_seq ?_
    refine r_region ?_
    refine r_move rfl rfl ?_
    refine r_lss rfl rfl rfl rfl ?_
    refine r_nil ?_
    refine r_tn ?_
    refine r_cond rfl (fun hc => ?_) (fun hc => ?_)
    · refine r_skip ?_
      refine r_tn ?_
      refine r_seq ?_
      refine r_block ?_
      refine r_seq ?_
      refine r_seq ?_
      refine r_region ?_
      have hk2 : k < 4 := by have h := of_decide_eq_true hc; omega
      clear hc
      refine r_fieldAddr (off := 0) (o' := 0) rfl rfl rfl rfl ?_
      refine r_load1 rfl rfl rfl (by rfl) ?_
      refine r_move rfl rfl ?_
      refine r_indexSl (sz := 1) (o' := 0 + k) rfl rfl rfl rfl rfl (by omega) (by omega) (by omega) ?_
      refine r_loadC (p := ⟨ra, 0 + k, none⟩) (v := .slice (some ⟨f k, 0, none⟩) 8192 8192) rfl rfl rfl (fun w hw => (hRA.keep hw).cell (plS4_at f hk2) rfl) ?_
      refine r_call rfl rfl rfl (by kernel_rfl) rfl (fun w hw => by exact refBlank23 (r.P k) (f k) 8192 w ((hRP k hk2).keep hw)) ?_
      refine r_not rfl rfl rfl ?_
      rw [usedF_def]
      refine r_nil ?_
      refine r_tn ?_
      refine r_cond rfl (fun hc => ?_) (fun hc => ?_)
      · refine r_seq ?_
        refine r_region ?_
        have hu : usedF r.P k = true := hc
        refine r_move rfl rfl ?_
        refine r_move rfl rfl ?_
        refine r_add (r := ((num (usedF r.P) k + 2 ^ k : Nat) : Int)) rfl rfl rfl ((w64 (add_rng hnk hpk)).trans (Int.natCast_add _ _).symm) ?_
        refine r_assign rfl rfl ?_
        refine r_nil ?_
        refine r_tn ?_
        refine r_region ?_
        refine r_move rfl rfl ?_
        refine r_fieldAddr (off := 0) (o' := 0) rfl rfl rfl rfl ?_
        refine r_load1 rfl rfl rfl (by rfl) ?_
        refine r_move rfl rfl ?_
        refine r_indexSl (sz := 1) (o' := 0 + k) rfl rfl rfl rfl rfl (by omega) (by omega) (by omega) ?_
        refine r_loadC (p := ⟨ra, 0 + k, none⟩) (v := .slice (some ⟨f k, 0, none⟩) 8192 8192) rfl rfl rfl (fun w hw => (hRA.keep hw).cell (plS4_at f hk2) rfl) ?_
        refine r_callx rfl rfl rfl (by kernel_rfl) rfl (fun w hw => by exact refPixels23 (r.P k) (f k) 8192 w ((hRP k hk2).keep hw)) ?_
        rintro ⟨A85, c85⟩ _
        refine r_append (k := 1024) (news := ((rowsB (r.P k) 64).map (Value.int .u8))) (sz := 1) (bytes := 1) rfl rfl rfl rfl rfl rfl (by decide) (fun w hw => own_rd (A := A85) (m := 1024) (c := c85) hw) (by rw [List.length_map, rowsB_len]) (fun u hu => by obtain ⟨z, _, rfl⟩ := List.mem_map.1 hu; rfl) (by omega) (by unfold maxLen; omega) fun A86 c86 => ?_
        rw [← List.map_append, show (bodyB r.P k).length + 1024 = (bodyB r.P k ++ rowsB (r.P k) 64).length from (congrArg ((bodyB r.P k).length + ·) (show 1024 = (rowsB (r.P k) 64).length from (rowsB_len (r.P k) 64).symm)).trans List.length_append.symm]
        refine r_assign rfl rfl ?_
        refine r_nil ?_
        refine r_tn ?_
        refine r_region ?_
        refine r_move rfl rfl ?_
        refine r_mul (r := ((2 * 2 ^ k : Nat) : Int)) rfl rfl rfl ((w64 (mul_rng hpk)).trans (Int.natCast_mul 2 _).symm) ?_
        refine r_assign rfl rfl ?_
        refine r_nil ?_
        refine r_bn ?_
        refine r_tn ?_
        refine r_region ?_
        refine r_move rfl rfl ?_
        refine r_add rfl rfl rfl (w64 (by omega)) ?_
        refine r_assign rfl rfl ?_
        refine r_nil ?_
        refine r_tn ?_
        first
          | exact r_again2 (k + 1) A86 c86 (by omega) (by omega) ⟨rfl, rfl, rfl, rfl, congrArg (fun z : Nat => some (Value.int .i64 (z : Int))) (num_yes hu), congrArg (fun z : Nat => some (Value.int .i64 (z : Int))) (two_pow k), by rw [bodyB_yes hu]; rfl, rfl, trivial⟩ (fun w hw => by rw [bodyB_yes hu]; exact hw.sub)
          | exact r_again2 (k + 1) A8 c8 (by omega) (by omega) ⟨rfl, rfl, rfl, rfl, congrArg (fun z : Nat => some (Value.int .i64 (z : Int))) (num_no hc), congrArg (fun z : Nat => some (Value.int .i64 (z : Int))) (two_pow k), by rw [bodyB_no hc]; rfl, rfl, trivial⟩ (fun w hw => by rw [bodyB_no hc]; exact hw.sub)
      · refine r_skip ?_
        refine r_tn ?_
        refine r_region ?_
        refine r_move rfl rfl ?_
        refine r_mul (r := ((2 * 2 ^ k : Nat) : Int)) rfl rfl rfl ((w64 (mul_rng hpk)).trans (Int.natCast_mul 2 _).symm) ?_
        refine r_assign rfl rfl ?_
        refine r_nil ?_
        refine r_bn ?_
        refine r_tn ?_
        refine r_region ?_
        refine r_move rfl rfl ?_
        refine r_add rfl rfl rfl (w64 (by omega)) ?_
        refine r_assign rfl rfl ?_
        refine r_nil ?_
        refine r_tn ?_
        first
          | exact r_again2 (k + 1) A86 c86 (by omega) (by omega) ⟨rfl, rfl, rfl, rfl, congrArg (fun z : Nat => some (Value.int .i64 (z : Int))) (num_yes hu), congrArg (fun z : Nat => some (Value.int .i64 (z : Int))) (two_pow k), by rw [bodyB_yes hu]; rfl, rfl, trivial⟩ (fun w hw => by rw [bodyB_yes hu]; exact hw.sub)
          | exact r_again2 (k + 1) A8 c8 (by omega) (by omega) ⟨rfl, rfl, rfl, rfl, congrArg (fun z : Nat => some (Value.int .i64 (z : Int))) (num_no hc), congrArg (fun z : Nat => some (Value.int .i64 (z : Int))) (two_pow k), by rw [bodyB_no hc]; rfl, rfl, trivial⟩ (fun w hw => by rw [bodyB_no hc]; exact hw.sub)
    · refine r_exit ?_
      refine r_te ?_
      refine r_te ?_
      refine r_be ?_
      refine r_tn ?_
      refine r_region ?_
      have hk4 : k = 4 := by have h := of_decide_eq_false hc; omega
      subst hk4
      have hnl : num (usedF r.P) 4 < 16 := num_lt (usedF r.P) 4
      refine r_move rfl rfl ?_
      refine r_move rfl rfl ?_
      refine r_convert (r := ((num (usedF r.P) 4 : Nat) : Int)) rfl rfl rfl rfl (IntWalk.u8_in _ ⟨by omega, by omega⟩) ?_
      refine r_lit (sz := 1) (pv := [(0, .int .u8 ((num (usedF r.P) 4 : Nat) : Int))]) (cells := #[.int .u8 ((num (usedF r.P) 4 : Nat) : Int)]) rfl rfl rfl rfl rfl rfl (by kernel_rfl) rfl (fun b92 => ?_) (by decide)
      refine r_append (k := 1) (news := (([((num (usedF r.P) 4 : Nat) : Int)]).map (Value.int .u8))) (sz := 1) (bytes := 1) rfl rfl rfl rfl rfl rfl (by decide) (fun w hw => own_rd (A := some ⟨b92, 0, none⟩) (m := 1) (c := 1) hw) (by first | (simp; done) | (simp; omega)) (fun u hu => by obtain ⟨z, _, rfl⟩ := List.mem_map.1 hu; rfl) (by omega) (by unfold maxLen; omega) fun A93 c93 => ?_
      rw [← List.map_append, show (((((L ++ [((flagN r.hires r.sound : Nat) : Int), r.pitch]) ++ r.pat) ++ [IntKind.u8.wrap r.kind, IntKind.u8.wrap r.cause]) ++ be 2 r.pc.toNat) ++ be 8 r.cycle.toNat).length + 1 = (((((L ++ [((flagN r.hires r.sound : Nat) : Int), r.pitch]) ++ r.pat) ++ [IntKind.u8.wrap r.kind, IntKind.u8.wrap r.cause]) ++ be 2 r.pc.toNat) ++ be 8 r.cycle.toNat ++ [((num (usedF r.P) 4 : Nat) : Int)]).length from (congrArg ((((((L ++ [((flagN r.hires r.sound : Nat) : Int), r.pitch]) ++ r.pat) ++ [IntKind.u8.wrap r.kind, IntKind.u8.wrap r.cause]) ++ be 2 r.pc.toNat) ++ be 8 r.cycle.toNat).length + ·) (show 1 = ([((num (usedF r.P) 4 : Nat) : Int)]).length from rfl)).trans List.length_append.symm]
      have hl6 : ((((((L ++ [((flagN r.hires r.sound : Nat) : Int), r.pitch]) ++ r.pat) ++ [IntKind.u8.wrap r.kind, IntKind.u8.wrap r.cause]) ++ be 2 r.pc.toNat) ++ be 8 r.cycle.toNat) ++ [((num (usedF r.P) 4 : Nat) : Int)]).length = L.length + 31 := by rw [List.length_append, hl5]; rfl
      refine r_move rfl rfl ?_
      refine r_append (k := (bodyB r.P 4).length) (news := ((bodyB r.P 4).map (Value.int .u8))) (sz := 1) (bytes := 1) rfl rfl rfl rfl rfl rfl (by decide) (fun w hw => own_rd (A := A8) (m := (bodyB r.P 4).length) (c := c8) hw) (by first | (simp; done) | (simp; omega)) (fun u hu => by obtain ⟨z, _, rfl⟩ := List.mem_map.1 hu; rfl) (by omega) (by unfold maxLen; omega) fun A95 c95 => ?_
      rw [← List.map_append, show ((((((L ++ [((flagN r.hires r.sound : Nat) : Int), r.pitch]) ++ r.pat) ++ [IntKind.u8.wrap r.kind, IntKind.u8.wrap r.cause]) ++ be 2 r.pc.toNat) ++ be 8 r.cycle.toNat) ++ [((num (usedF r.P) 4 : Nat) : Int)]).length + (bodyB r.P 4).length = ((((((L ++ [((flagN r.hires r.sound : Nat) : Int), r.pitch]) ++ r.pat) ++ [IntKind.u8.wrap r.kind, IntKind.u8.wrap r.cause]) ++ be 2 r.pc.toNat) ++ be 8 r.cycle.toNat) ++ [((num (usedF r.P) 4 : Nat) : Int)] ++ bodyB r.P 4).length from (congrArg (((((((L ++ [((flagN r.hires r.sound : Nat) : Int), r.pitch]) ++ r.pat) ++ [IntKind.u8.wrap r.kind, IntKind.u8.wrap r.cause]) ++ be 2 r.pc.toNat) ++ be 8 r.cycle.toNat) ++ [((num (usedF r.P) 4 : Nat) : Int)]).length + ·) (show (bodyB r.P 4).length = (bodyB r.P 4).length from rfl)).trans List.length_append.symm]
      refine r_assign rfl rfl ?_
      refine r_nil ?_
      refine r_bn ?_
      refine r_tn ?_
      refine r_region ?_
      refine r_move rfl rfl ?_
      refine r_add rfl rfl rfl (w64 (by omega)) ?_
      refine r_assign rfl rfl ?_
      refine r_nil ?_
      refine r_tn ?_
      exact r_again2 (i + 1) A95 c95 (by omega) (by omega) ⟨rfl, by rw [BL_succ hi2, hL, hr]; rfl, rfl, trivial⟩ (fun w hw => by rw [BL_succ hi2, hL, hr]; exact hw.sub)
  · refine r_exit ?_
    refine r_te ?_
    refine r_te ?_
    refine r_be ?_
    refine r_tn ?_
    refine r_seq ?_
    refine r_region ?_
    have hi3 : i = l.length := by have h := of_decide_eq_false hc; omega
    subst hi3
    refine r_move rfl rfl ?_
    refine r_assign rfl rfl ?_
    refine r_nil ?_
    refine r_tn ?_
    refine r_ret ?_
    exact r_done1 (.inl rfl) rfl (res_tmp rfl) fun w hw => ⟨(A3, c3), by rw [BL_all], trivial, by rw [BL_all] at hw; exact hw.sub⟩
end Go.Proofs.Ytgicjkjppnkodaa
