/-
  Screens (chapter 08): drawing on one plane.
-/
import Derived.Test.YtgamehjakgcgnaaTwice08
namespace Go.Proofs.Ytgamehjakgcgnaa
open Go Go.RowKit
set_option linter.unusedVariables false
set_option linter.unusedSimpArgs false
set_option maxHeartbeats 2000000
set_option maxRecDepth 4000
attribute [local irreducible] mix

theorem jp_yes {m k n : Nat} {big : Bool} (hk : k < 4) (hb : m.testBit k = true) : (selK m (k + 1)).length * perN n big = (selK m k).length * perN n big + perN n big := by
  rw [selK_yes hk hb, List.length_append]
  exact Nat.succ_mul _ _
theorem jp_le {m k n : Nat} (hk : k < 4) (hb : m.testBit k = true) (big : Bool) : (selK m k).length * perN n big + perN n big ≤ (sel m).length * perN n big := by
  rw [← Nat.succ_mul]
  exact Nat.mul_le_mul_right _ (selK_lt hk hb)
theorem sel_one {k : Nat} (hk : k < 4) : sel (2 ^ k) = [⟨k, hk⟩] := by
  match k, hk with
  | 0, _ => exact (by decide : sel (2 ^ 0) = [(0 : Fin 4)])
  | 1, _ => exact (by decide : sel (2 ^ 1) = [(1 : Fin 4)])
  | 2, _ => exact (by decide : sel (2 ^ 2) = [(2 : Fin 4)])
  | 3, _ => exact (by decide : sel (2 ^ 3) = [(3 : Fin 4)])
theorem drwP_is (s : Scr) (m x y n : Nat) (big clip : Bool) (d : List Int) : drwP ⟨s.P, s.hires, m⟩ x y n big clip d = ⟨(stP (ffD s.hires x y n big clip d) s.P (sel m)).1, s.hires, m⟩ := rfl
theorem drwH_is (s : Scr) (m x y n : Nat) (big clip : Bool) (d : List Int) : drwH ⟨s.P, s.hires, m⟩ x y n big clip d = stH (ffD s.hires x y n big clip d) (hhD s.hires x y n big clip d) s.P (sel m) := rfl
theorem cut_one (d : List Int) (j p : Nat) : (((d.drop (j * p)).take p).drop (0 * p)).take p = (d.drop (j * p)).take p := by
  rw [Nat.zero_mul, List.drop_zero, List.take_take, Nat.min_self]
theorem ffD_one (hires : Bool) (x y n : Nat) (big clip : Bool) (d : List Int) (j : Nat) (p : Nat → Nat → Bool) : ffD hires x y n big clip ((d.drop (j * perN n big)).take (perN n big)) 0 p = ffD hires x y n big clip d j p := by
  unfold ffD
  rw [cut_one]
theorem hhD_one (hires : Bool) (x y n : Nat) (big clip : Bool) (d : List Int) (j : Nat) (p : Nat → Nat → Bool) : hhD hires x y n big clip ((d.drop (j * perN n big)).take (perN n big)) 0 p = hhD hires x y n big clip d j p := by
  unfold hhD
  rw [cut_one]
section
variable {P : Program} {n : Nat} {w0 : World} {S : List Nat} {E : List (Nat × Value)} {H : List Res} {dr : Option Dr} {ops : Array Oper} {K : Act → World → Prop} {rest : List Oper} {d : Nat} {x y z : Operand} {ty : TypeId} {pos : String} {after : Array Edge}
theorem r_sliceBoth {t : TypeId} {A : Option Addr} {len cap sz : Nat} {e : TypeId} {k1 k2 : IntKind} {lo hi : Int} {l' h' : Nat} (hd : Nat.blt d n = true) (hx : ev E x = some (.slice A len cap)) (hy : ev E y = some (.int k1 lo)) (hz' : ev E z = some (.int k2 hi)) (ht : P.underlying t = some (.slice e)) (hz : (P.info? e).map (·.size) = some sz)
    (h0 : lo = (l' : Nat)) (hh : hi = (h' : Nat)) (h1 : h' ≤ cap) (h2 : l' ≤ h')
    (hk : Run n w0 S ((d, .slice (if cap = l' then A else A.map (·.add (l' * sz))) (h' - l') (cap - l')) :: E) H (mix P dr ops K rest)) :
    Run n w0 S E H (mix P dr ops K (⟨some d, .slice t x (some y) (some z) none, ty, pos, after, none⟩ :: rest)) :=
  r_value hd (by cases dr <;> rfl) (fun a ha w => by
    obtain ⟨i, hi, hs⟩ := Option.map_eq_some_iff.1 hz
    subst h0; subst hh
    simp [execOp, ha.ev hx, ha.ev hy, ha.ev hz', Instr.sliceAt, Instr.slice, run_underlying ht, Sem.run_bind, Instr.sliceBounds, Instr.sliceBound, asIntOf, sizeOf, typeInfo, hi, hs, h1, h2]) hk
end
theorem drawK08 (s : Scr) (m k : Nat) (hk : k < 4) (hb : m.testBit k = true) (x y n : Nat) (hn : n < 16) (big clip : Bool) (b : Nat) (d : List Int) (hd : d.length = (sel m).length * perN n big) (hd8 : ∀ z ∈ d, 0 ≤ z ∧ z ≤ 255) (w : World) (hR : Rd w (some ⟨b, 0, none⟩) (d.map (Value.int .u8))) :
    Calls Try.prog 20 #[.agg (scrV ⟨(stP (ffD s.hires x y n big clip d) s.P (selK m k)).1, s.hires, 2 ^ k⟩), .int .i64 (x : Int), .int .i64 (y : Int), .int .i64 (n : Int), .bool big, .bool clip, .slice (if (sel m).length * perN n big = (selK m k).length * perN n big then some ⟨b, 0, none⟩ else (some ⟨b, 0, none⟩ : Option Addr).map (·.add ((selK m k).length * perN n big * 1))) ((selK m k).length * perN n big + perN n big - (selK m k).length * perN n big) ((sel m).length * perN n big - (selK m k).length * perN n big)] w fun e w' =>
      e = .returned (.tuple #[.agg (scrV ⟨(stP (ffD s.hires x y n big clip d) s.P (selK m (k + 1))).1, s.hires, 2 ^ k⟩), .bool (hhD s.hires x y n big clip d (selK m k).length (s.P k))]) ∧ Sat w [] [] w' := by
  have hle := jp_le (n := n) hk hb big
  have e1 : (sel (2 ^ k)).length * perN n big = perN n big := by rw [sel_one hk]; exact Nat.one_mul _
  have e2 : (selK m k).length * perN n big + perN n big - (selK m k).length * perN n big = perN n big := Nat.add_sub_cancel_left ..
  have hl2 : ((d.drop ((selK m k).length * perN n big)).take (perN n big)).length = perN n big := by rw [List.length_take, List.length_drop, hd]; omega
  have h := drawF08 ⟨(stP (ffD s.hires x y n big clip d) s.P (selK m k)).1, s.hires, 2 ^ k⟩ (Nat.pow_lt_pow_right (by omega) hk : 2 ^ k < 2 ^ 4) x y n hn big clip _ ((sel m).length * perN n big - (selK m k).length * perN n big) ((d.drop ((selK m k).length * perN n big)).take (perN n big)) (by rw [hl2]; exact e1.symm) (by rw [hl2]; omega) (fun z hz => hd8 z (List.mem_of_mem_drop (List.mem_of_mem_take hz))) w
    (by rw [List.map_take, List.map_drop]; exact (Rd.drop (cap := (sel m).length * perN n big) ((selK m k).length * perN n big) hR (by rw [List.length_map]; omega) (Nat.mul_one _)).take _)
  rw [show (Scr.mk (stP (ffD s.hires x y n big clip d) s.P (selK m k)).1 s.hires (2 ^ k)).mask = 2 ^ k from rfl, e1] at h
  rw [e2]
  have hP := stP_at (ffD s.hires x y n big clip d) s.P m k (by omega) k
  rw [if_neg (by omega)] at hP
  have hp : drwP ⟨(stP (ffD s.hires x y n big clip d) s.P (selK m k)).1, s.hires, 2 ^ k⟩ x y n big clip ((d.drop ((selK m k).length * perN n big)).take (perN n big)) = ⟨(stP (ffD s.hires x y n big clip d) s.P (selK m (k + 1))).1, s.hires, 2 ^ k⟩ := by
    refine scr_ext (fun i => ?_) rfl rfl
    rw [drwP_P]
    show (stP _ _ (sel (2 ^ k))).1 i = (stP _ _ _).1 i
    rw [sel_one hk, selK_yes hk hb, show [(⟨k, hk⟩ : Fin 4)] = [] ++ [⟨k, hk⟩] from rfl, stP_snoc, stP_nil]
    rw [show selK m k ++ ([] ++ [(⟨k, hk⟩ : Fin 4)]) = selK m k ++ [⟨k, hk⟩] from rfl, stP_snoc]
    show setPl _ k (ffD s.hires x y n big clip _ 0 _) i = _
    rw [ffD_one]
  have hh : drwH ⟨(stP (ffD s.hires x y n big clip d) s.P (selK m k)).1, s.hires, 2 ^ k⟩ x y n big clip ((d.drop ((selK m k).length * perN n big)).take (perN n big)) = hhD s.hires x y n big clip d (selK m k).length (s.P k) := by
    show stH _ _ _ (sel (2 ^ k)) = _
    rw [sel_one hk, show [(⟨k, hk⟩ : Fin 4)] = [] ++ [⟨k, hk⟩] from rfl, stH_snoc]
    show (false || hhD s.hires x y n big clip _ 0 ((stP (ffD s.hires x y n big clip d) s.P (selK m k)).1 k)) = _
    rw [hhD_one, hP, Bool.false_or]
  rw [hp, hh] at h
  exact h

end Go.Proofs.Ytgamehjakgcgnaa
