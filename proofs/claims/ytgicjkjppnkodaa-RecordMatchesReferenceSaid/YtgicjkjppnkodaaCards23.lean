/-
  Records (chapter 23): lists of cards, and lists of records with one part turned.
-/
import Derived.Test.YtgicjkjppnkodaaFwd23
import Derived.Test.YtgicjkjppnkodaaFlats
namespace Go.Proofs.Ytgicjkjppnkodaa
open Go Go.RowKit
set_option linter.unusedVariables false
set_option linter.unusedSimpArgs false
set_option maxHeartbeats 2000000
set_option maxRecDepth 4000
attribute [local irreducible] mix

theorem Sat.behind {w0 w : World} {S : List Nat} {A G : List Res} (h : Sat w0 S (A ++ G) w) : Sat w0 S G w := (h.perm List.perm_append_comm).front
section
variable {P : Program} {n : Nat} {w0 : World} {S : List Nat} {E : List (Nat × Value)} {H H' G G1 : List Res} {Q : Exit → Act → World → Prop}
variable {dr : Option Dr} {ops : Array Oper} {K : Act → World → Prop} {rest : List Oper} {d : Nat} {ty : TypeId} {pos : String} {after : Array Edge} {x y z : Operand}
/-- of the things that are there some are looked at no more, or in another order -/
theorem Run.less {Gl : Act → World → Prop} (hs : ∀ w, Sat w0 S H w → Sat w0 S H' w) (h : Run n w0 S E H' Gl) : Run n w0 S E H Gl := fun a w ha hw => h a w ha (hs w hw)
theorem r_storeOwnN {t : TypeId} {T sz m c i g : Nat} {xs : List Value} {v : Value} (hx : ev E x = some (.pointer (some ⟨g, i, none⟩))) (hy : ev E y = some v) [hp : HasOwn (.slice (some ⟨g, 0, none⟩) m c) H T sz m xs G]
    (hm : (P.info? t).map (·.size) = some 1) (hv : v.cells = #[v]) (h1 : v.oneCell' = true) (hi : i < m * sz)
    (hk : Run n w0 S E (.own T sz (.slice (some ⟨g, 0, none⟩) m c) m (xs.set i v) :: G) (mix P dr ops K rest)) (hok : OkWrite dr x g := by first | exact True.intro | (simp [OkWrite, slotIn]; done) | (simp [OkWrite, slotIn, *]; done)) :
    Run n w0 S E H (mix P dr ops K (⟨none, .store t x y, ty, pos, after, none⟩ :: rest)) := by
  refine Run.openOwn (.slice (some ⟨g, 0, none⟩) m c) rfl (fun h => by cases h) fun g' cur e1 e2 e3 e4 e5 => ?_
  injection e1 with e1
  injection e1 with e1 _ _
  subst e1
  refine r_store1 hx hy hm hv h1 (by rw [e4]; exact Nat.lt_of_lt_of_le hi (Nat.mul_le_mul_right _ e2)) ?_ hok
  refine Run.closeOwn (sz := sz) e2 e3 (by simpa using e4) ?_ hk
  rw [← e5, Array.toList_setIfInBounds, List.take_set]
end
def cardsL (l : List Card) : List Value := l.flatMap cardL
def okCard (c : Card) : Prop := okC c ∧ bytesB c.pat ∧ (0 ≤ c.pitch ∧ c.pitch ≤ 255)
def cardLs : List LeafK := List.replicate 12 (.i .i64) ++ (.b :: .b :: .b :: (List.replicate 16 (.i .u8) ++ (.i .u8 :: .i .i64 :: .i .i64 :: .i .i64 :: .i .i64 :: [])))
theorem card_of {cs : List Value} (h : cellsWf cardLs cs = true) : ∃ c : Card, okCard c ∧ cs = cardL c := by
  obtain ⟨sd, cs1, e1, hsd, _, h1⟩ := cellsWf_ints .i64 h
  obtain ⟨wide, cs2, e2, h2⟩ := cellsWf_bool h1
  obtain ⟨hires, cs3, e3, h3⟩ := cellsWf_bool h2
  obtain ⟨sound, cs4, e4, h4⟩ := cellsWf_bool h3
  obtain ⟨pat, cs5, e5, hpat, hpb, h5⟩ := cellsWf_ints .u8 h4
  obtain ⟨pitch, cs6, e6, hpi, h6⟩ := cellsWf_int h5
  obtain ⟨kind, cs7, e7, _, h7⟩ := cellsWf_int h6
  obtain ⟨cause, cs8, e8, _, h8⟩ := cellsWf_int h7
  obtain ⟨pc, cs9, e9, _, h9⟩ := cellsWf_int h8
  obtain ⟨cycle, cs10, e10, _, h10⟩ := cellsWf_int h9
  have e11 := cellsWf_nil h10
  subst e11 e10 e9 e8 e7 e6 e5 e4 e3 e2 e1
  exact ⟨⟨sd, wide, hires, sound, pat, pitch, kind, cause, pc, cycle⟩, ⟨⟨hsd, hpat⟩, fun z hz => wfu8 (hpb z hz), wfu8 hpi⟩, rfl⟩
theorem cards_of {ch : Nat → List Value} : ∀ {len : Nat}, (∀ i, i < len → cellsWf cardLs (ch i) = true) → ∃ l : List Card, l.length = len ∧ (∀ c ∈ l, okCard c) ∧ (List.range len).flatMap ch = cardsL l
  | 0, _ => ⟨[], rfl, fun c hc => (by cases hc), rfl⟩
  | len + 1, h => by
    obtain ⟨l, h1, h2, h3⟩ := cards_of (len := len) (fun i hi => h i (by omega))
    obtain ⟨c, hc, e⟩ := card_of (h len (by omega))
    refine ⟨l ++ [c], by simp [h1], fun x hx => ?_, ?_⟩
    · rcases List.mem_append.1 hx with hx | hx
      · exact h2 x hx
      · rw [List.mem_singleton.1 hx]; exact hc
    · rw [List.range_succ, List.flatMap_append, h3, List.flatMap_cons, List.flatMap_nil, List.append_nil, e]
      unfold cardsL
      rw [List.flatMap_append, List.flatMap_cons, List.flatMap_nil, List.append_nil]
theorem cards_at : ∀ {l : List Card}, (∀ c ∈ l, okCard c) → ∀ {i j : Nat} (hi : i < l.length), j < 36 → (cardsL l)[i * 36 + j]? = (cardL l[i])[j]?
  | [], _, i, _, hi, _ => by simp at hi
  | c :: l, h, 0, j, hi, hj => by
    show (cardL c ++ cardsL l)[0 * 36 + j]? = _
    rw [Nat.zero_mul, Nat.zero_add, List.getElem?_append, cardL_len (h c (.head _)).1, if_pos hj]; rfl
  | c :: l, h, i + 1, j, hi, hj => by
    show (cardL c ++ cardsL l)[(i + 1) * 36 + j]? = _
    rw [List.getElem?_append, cardL_len (h c (.head _)).1, if_neg (by omega), show (i + 1) * 36 + j - 36 = i * 36 + j by omega]
    exact cards_at (fun c hc => h c (.tail _ hc)) (by simpa using hi) hj
theorem Rd_card {w : World} {b o : Nat} {l : List Card} (hA : Rd w (some ⟨b, o, none⟩) (cardsL l)) (h : ∀ c ∈ l, okCard c) {i : Nat} (hi : i < l.length) : Rd w (some ⟨b, o + i * 36, none⟩) (cardL l[i]) := fun j u hj => by
  have hlt : j < 36 := by
    have := (List.getElem?_eq_some_iff.1 hj).1
    rwa [cardL_len (h _ (List.getElem_mem hi)).1] at this
  have h2 := hA.cell (j := i * 36 + j) (u := u) (by rw [cards_at h hi hlt]; exact hj) rfl
  exact ⟨b, o + i * 36, rfl, by rw [show o + i * 36 + j = o + (i * 36 + j) by omega]; exact h2⟩
theorem cards_some {w : World} {A : Option Addr} {l : List Card} (hA : Rd w A (cardsL l)) (h : ∀ c ∈ l, okCard c) {i : Nat} (hi : i < l.length) : ∃ b o, A = some ⟨b, o, none⟩ := by
  have h1 := cards_at h hi (j := 0) (by decide)
  have hl := cardL_len (h _ (List.getElem_mem hi)).1
  have h2 : (cardL l[i])[0]? = some ((cardL l[i])[0]'(by omega)) := List.getElem?_eq_getElem (by omega)
  rw [h2] at h1
  obtain ⟨b, o, e, _⟩ := hA _ _ h1
  exact ⟨b, o, e⟩
/-- the records of the first cards -/
def recsK (l : List Card) (k : Nat) : List Rec := (l.take k).map recOf
theorem recsK_len (l : List Card) {k : Nat} (h : k ≤ l.length) : (recsK l k).length = k := by
  unfold recsK
  rw [List.length_map, List.length_take]; omega
theorem recsK_succ {l : List Card} {k : Nat} (h : k < l.length) : recsK l (k + 1) = recsK l k ++ [recOf l[k]] := by
  unfold recsK
  rw [List.take_add_one, List.getElem?_eq_getElem h, List.map_append]
  rfl
theorem recsK_all (l : List Card) : recsK l l.length = l.map recOf := by unfold recsK; rw [List.take_length]
theorem recOf_ok {c : Card} (h : okCard c) : okR (recOf c) := ⟨h.1.2, h.2⟩
theorem recs_ok {l : List Card} (h : ∀ c ∈ l, okCard c) : ∀ r ∈ l.map recOf, okR r := fun r hr => by
  obtain ⟨c, hc, rfl⟩ := List.mem_map.1 hr
  exact recOf_ok (h c hc)
theorem recs_pat {l : List Card} (h : ∀ c ∈ l, okCard c) : ∀ r ∈ l.map recOf, r.pat.length = 16 := fun r hr => (recs_ok h r hr).1
theorem recsL_one' {u : Value} {l : List Rec} (h : u ∈ recsL l) : u.oneCell' = true := by
  obtain ⟨r, _, hr⟩ := List.mem_flatMap.1 h
  exact recL_one hr
theorem recsL_len : ∀ {l : List Rec}, (∀ r ∈ l, r.pat.length = 16) → (recsL l).length = l.length * 535
  | [], _ => rfl
  | r :: l, h => by
    show (recL r ++ recsL l).length = _
    rw [List.length_append, recL_len (h r (.head _)), recsL_len (fun r hr => h r (.tail _ hr)), List.length_cons]
    omega
theorem recsL_set {l : List Rec} (h : ∀ r ∈ l, r.pat.length = 16) {i j : Nat} (hi : i < l.length) (hj : j < 535) {v : Value} {r2 : Rec} (e : (recL l[i]).set j v = recL r2) : (recsL l).set (i * 535 + j) v = recsL (l.set i r2) := by
  induction l generalizing i with
  | nil => simp at hi
  | cons r l ih =>
    have hr := recL_len (h r (.head _))
    cases i with
    | zero =>
      show (recL r ++ recsL l).set (0 * 535 + j) v = recL r2 ++ recsL l
      rw [Nat.zero_mul, Nat.zero_add, List.set_append_left _ _ (by omega)]
      rw [show (recL r).set j v = recL r2 from e]
    | succ i =>
      show (recL r ++ recsL l).set ((i + 1) * 535 + j) v = recL r ++ recsL (l.set i r2)
      rw [List.set_append_right _ _ (by omega), show (i + 1) * 535 + j - (recL r).length = i * 535 + j by omega, ih (fun r hr => h r (.tail _ hr)) (by simpa using hi) e]
theorem recL_sound (r : Rec) (v : Bool) : (recL r).set 513 (.bool v) = recL { r with sound := v } := by
  have h := congrArg Array.toList (set_sound r v)
  rw [Array.toList_setIfInBounds] at h
  exact h
theorem recL_pitch {r : Rec} (hp : r.pat.length = 16) (v : Int) : (recL r).set 530 (.int .u8 v) = recL { r with pitch := v } := by
  have h := congrArg Array.toList (set_pitch hp v)
  rw [Array.toList_setIfInBounds] at h
  exact h
theorem recEq_sound {r s : Rec} (h1 : r.pat.length = 16) (h2 : s.pat.length = 16) (h : r.sound ≠ s.sound) : recEq r s = false := by
  cases he : recEq r s with
  | false => rfl
  | true =>
    have e := cellsEq_eq (recV_ok h1) (recV_ok h2) he
    have e2 : (recV r)[513]? = (recV s)[513]? := by rw [← Array.getElem?_toList, e, Array.getElem?_toList]
    rw [rec_sound, rec_sound] at e2
    injection e2 with e2
    injection e2 with e2
    exact absurd e2 h
theorem recEq_self {r : Rec} (h : r.pat.length = 16) : recEq r r = true := cellsEq_self (recV_ok h)

end Go.Proofs.Ytgicjkjppnkodaa
