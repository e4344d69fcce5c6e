/-
  append to a slice without capacity: no old block is turned.
-/
import Derived.Test.YtghjbnbkfohmlaaDoorRefC30
import Derived.ArgAppend
namespace Go.Proofs.YtghjbnbkfohmlaaDoor
open Go Go.RowKit
set_option linter.unusedVariables false
set_option linter.unusedSimpArgs false
set_option maxHeartbeats 2000000
section
variable {P : Program} {n : Nat} {w0 : World} {S : List Nat} {E : List (Nat × Value)} {H G : List Res} {Q : Exit → Act → World → Prop}
variable {dr : Option Dr} {ops : Array Oper} {K : Act → World → Prop} {rest : List Oper} {x y : Operand} {d : Nat} {ty : TypeId} {pos : String} {after : Array Edge}
theorem r_append0 {t e : TypeId} {sz bytes k c2 b : Nat} {z : Value} {A2 : Option Addr} {news : List Value} (hd : Nat.blt d n = true) (hx : ev E x = some (.slice (some ⟨b, 0, none⟩) 0 0)) (hy : ev E y = some (.slice A2 k c2)) [hp : HasOwn (.slice (some ⟨b, 0, none⟩) 0 0) H e sz 0 [] G]
    (ht : P.underlying t = some (.slice e)) (hinfo : (P.info? e).map (fun i => (i.zero, i.size, i.bytes)) = some (some z, sz, bytes)) (hzs : z.cells.size = sz) (hsz : 0 < sz)
    (hsrc : ∀ w, Sat w0 S H w → Rd w A2 news) (hl : news.length = k * sz) (h1 : ∀ u ∈ news, u.oneCell' = true) (hb : k * bytes ≤ 140737488355328) (h63 : k ≤ maxLen)
    (hk : ∀ A' c', Run n w0 S ((d, .slice A' k c') :: E) (.own e sz (.slice A' k c') k news :: G) (mix P dr ops K rest)) (hok : OkAct dr (some d) [] := by first | exact True.intro | (simp [OkAct, dstIn]; done)) :
    Run n w0 S E H (mix P dr ops K (⟨some d, .call { callee := .builtin .append, args := #[x, y], argTypes := #[t, t] }, ty, pos, after, none⟩ :: rest)) :=
  r_act (X := []) (by cases dr <;> rfl) hok fun a w ha hw => by
    have hw' := hw.pick hp.pick
    have hown := hw.look hp.pick
    obtain ⟨i, hi, hz0, hz1, hz2⟩ := info_parts hinfo
    have hr := hsrc w hw
    have fin : ∀ v' w', (Builtin.append_ #[t, t] ty #[.slice (some ⟨b, 0, none⟩) 0 0, .slice A2 k c2]).run P w = .ok v' w' → w'.ownsRow 0 e sz v' k news → w.grownBy w' none → (∀ q, v'.ownBlock = some q → (Value.slice (some ⟨b, 0, none⟩) 0 0).ownBlock = some q ∨ w.heap.size ≤ q) →
        actUpon P ⟨some d, .call { callee := .builtin .append, args := #[x, y], argTypes := #[t, t] }, ty, pos, after, none⟩ (fun a w' => Keep [] w w' ∧ mix P dr ops K rest a w') a ((execOp a.eval ⟨some d, .call { callee := .builtin .append, args := #[x, y], argTypes := #[t, t] }, ty, pos, after, none⟩).run P w) := by
      intro v' w' hrun ho hg hq
      have hv' : ∃ A' c', v' = .slice A' k c' := by
        rcases ho.2 with ⟨h1, h2⟩ | ⟨g, cap, cur, h1, _⟩
        · exact ⟨none, 0, by rw [h1, h2]⟩
        · exact ⟨_, _, h1⟩
      obtain ⟨A', c', rfl⟩ := hv'
      have hg2 : w.grownBy w' (Res.own e sz (.slice (some ⟨b, 0, none⟩) 0 0) 0 []).foot := ⟨hg.os, hg.tape, hg.output, hg.size, fun k hk _ => hg.block k hk (fun e => by cases e)⟩
      have h := hk A' c' _ w' (ha.put hd _) (hw'.grown (r' := .own e sz (.slice A' k c') k news) hg2 hq ho)
      simp [execOp, resolve, invoke, builtin, ha.ev hx, ha.ev hy, hrun, actUpon]
      exact ⟨⟨hg.size, fun k hk hX => hg.block k hk (fun e => by cases e)⟩, h⟩
    have same : k = 0 → (Builtin.append_ #[t, t] ty #[.slice (some ⟨b, 0, none⟩) 0 0, .slice A2 k c2]).run P w = .ok (.slice (some ⟨b, 0, none⟩) 0 0) w := fun h0 => by
      subst h0
      cases A2 <;> simp [Builtin.append_, run_underlying ht, sizeOf, typeInfo, hi, Builtin.lenOf, Builtin.firstCells, loadCells, loadCellsFrom, storeCells]
    by_cases h0 : k = 0
    · have e0 := same h0
      have hn : news = [] := List.eq_nil_of_length_eq_zero (by rw [hl, h0, Nat.zero_mul])
      subst hn
      refine fin _ w e0 (by rw [h0]; exact hown) ⟨rfl, rfl, rfl, Nat.le_refl _, fun _ _ _ => rfl⟩ (fun q hq => .inl hq)
    · cases A2 with
      | none =>
        exfalso
        have hn : news = [] := by
          cases news with
          | nil => rfl
          | cons u l => obtain ⟨b, o, h1, _⟩ := hr 0 u rfl; cases h1
        rw [hn] at hl
        have := Nat.mul_pos (Nat.pos_of_ne_zero h0) hsz
        simp at hl
        omega
      | some ad =>
        have hn : ∀ j u, news[j]? = some u → w.cell? (ad.add j) = some u := fun j u hj => by
          obtain ⟨b, o, h1, h2⟩ := hr j u hj
          injection h1 with h1
          subst h1
          rw [addr_add]; exact h2
        obtain ⟨v', w', hrun, ho, hg⟩ := run_append_arg_grows (P := P) w t ty e i z sz bytes ht hi hz0 hz1 hz2 hzs hsz ⟨b, 0, none⟩ 0 0 [] (by simp) (fun j u hj => by simp at hj) ad k c2 news hl hn (by omega) (by omega) (by rw [Nat.zero_add]; exact hb)
        rw [Nat.zero_add, List.nil_append] at ho
        refine fin v' w' hrun ⟨ho.1, ?_⟩ hg fun q hq => ?_
        · rcases ho.2 with h | ⟨g, cap, cur, h1, h2, h3⟩
          · exact .inl h
          · exact .inr ⟨g, cap, cur, h1, Nat.zero_le _, h3⟩
        · rcases ho.2 with h | ⟨g, cap, cur, h1, h2, h3⟩
          · rw [h.1] at hq
            cases hq
          · rw [h1] at hq
            simp only [Value.ownBlock, Option.some.injEq] at hq
            exact .inr (by omega)
end
end Go.Proofs.YtghjbnbkfohmlaaDoor
