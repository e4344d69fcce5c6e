/-
  Further rules: append to a full slice that is only read; a constant's bytes; a bound method's value called.
-/
import Derived.Test.YtghjbnbkfohmlaaDoorRdN
import Derived.Lib.SlBytesConst
import Derived.Laws.BytesString
namespace Go.Proofs.YtghjbnbkfohmlaaDoor
open Go Go.RowKit
set_option linter.unusedVariables false
theorem run_append_full {P : Program} (w : World) (t ty e : TypeId) (i : TypeInfo) (z : Value) (size bytes : Nat) (ht : P.underlying t = some (.slice e)) (hi : P.info? e = some i) (hz : i.zero = some z)
    (hsize : i.size = size) (hby : i.bytes = bytes) (hzs : z.cells.size = size) (b : Addr) (n cap : Nat) (xs : List Value) (hlo : xs.length = n * size) (holds : ∀ j v, xs[j]? = some v → w.cell? (b.add j) = some v)
    (a : Addr) (m c : Nat) (news : List Value) (hl : news.length = m * size) (hnews : ∀ j u, news[j]? = some u → w.cell? (a.add j) = some u) (hg : cap < n + m) (hcn : cap ≤ n)
    (h63 : n + m ≤ maxLen) (hbytes : (n + m) * bytes ≤ 140737488355328) :
    ∃ c' w', (Builtin.append_ #[t, t] ty #[.slice (some b) n cap, .slice (some a) m c]).run P w = .ok (.slice (some ⟨w.heap.size, 0, none⟩) (n + m) c') w' ∧ w'.ownsRow 0 e size (.slice (some ⟨w.heap.size, 0, none⟩) (n + m) c') (n + m) (xs ++ news) ∧ w.grownBy w' none := by
  subst hsize
  subst hby
  have hsmall : n + m ≤ 9223372036854775807 := by simp only [maxLen] at h63; omega
  have hlen : (xs ++ news).length = (n + m) * i.size := by rw [List.length_append, hlo, hl, Nat.add_mul]
  have hr := run_append_grow (P := P) w t ty e i z ht hi hz b n cap xs hlo holds a m c news hl hnews hg (by omega) (growslice_fits (by omega) hbytes)
  have hge := grownCap_ge w (n + m) cap e
  have hcm : grownCap w (n + m) cap e ≤ maxLen := grownCap_le_maxLen w (n + m) cap e h63
  refine ⟨_, _, hr, ⟨hlen, .inr ⟨w.heap.size, _, _, rfl, Nat.zero_le _, heap_alloc_new w.drew _, hge, hcm, ?_, ?_⟩⟩, ⟨rfl, rfl, rfl, by simp, fun k hk _ => (Below.heap_alloc w.drew _ k hk)⟩⟩
  · simp only [Array.size_append, List.size_toArray, size_zeroCells, hzs, hlo, hl, ← Nat.add_mul]
    congr 1
    omega
  · simp only [Array.toList_append, List.append_assoc]
    rw [← List.append_assoc, ← hlen]
    exact List.take_left
section
variable {P : Program} {n : Nat} {w0 : World} {S : List Nat} {E : List (Nat × Value)} {H G : List Res} {Q : Exit → Act → World → Prop}
variable {dr : Option Dr} {ops : Array Oper} {K : Act → World → Prop} {rest : List Oper} {d : Nat} {ty : TypeId} {pos : String} {after : Array Edge} {x y : Operand}
theorem r_appendG {t e : TypeId} {sz bytes m c k c2 : Nat} {z : Value} {b1 o1 b2 o2 : Nat} {xs news : List Value} (hd : Nat.blt d n = true) (hx : ev E x = some (.slice (some ⟨b1, o1, none⟩) m c)) (hy : ev E y = some (.slice (some ⟨b2, o2, none⟩) k c2))
    (ht : P.underlying t = some (.slice e)) (hinfo : (P.info? e).map (fun i => (i.zero, i.size, i.bytes)) = some (some z, sz, bytes)) (hzs : z.cells.size = sz)
    (hold : ∀ w, Sat w0 S H w → Rd w (some ⟨b1, o1, none⟩) xs) (hlo : xs.length = m * sz) (hsrc : ∀ w, Sat w0 S H w → Rd w (some ⟨b2, o2, none⟩) news) (hl : news.length = k * sz) (hg : c < m + k) (hcn : c ≤ m) (hb : (m + k) * bytes ≤ 140737488355328) (h63 : m + k ≤ maxLen)
    (hk : ∀ A' c', Run n w0 S ((d, .slice A' (m + k) c') :: E) (.own e sz (.slice A' (m + k) c') (m + k) (xs ++ news) :: H) (mix P dr ops K rest)) :
    Run n w0 S E H (mix P dr ops K (⟨some d, .call { callee := .builtin .append, args := #[x, y], argTypes := #[t, t] }, ty, pos, after, none⟩ :: rest)) :=
  r_act (X := []) (by cases dr <;> rfl) okAct_nil fun a w ha hw => by
    obtain ⟨i, hi, hz0, hz1, hz2⟩ := info_parts hinfo
    obtain ⟨c', w', hrun, ho, hgr⟩ := run_append_full (P := P) w t ty e i z sz bytes ht hi hz0 hz1 hz2 hzs ⟨b1, o1, none⟩ m c xs hlo (fun j v hj => by rw [addr_add]; exact (hold w hw).cell hj rfl) ⟨b2, o2, none⟩ k c2 news hl (fun j v hj => by rw [addr_add]; exact (hsrc w hw).cell hj rfl) hg hcn h63 hb
    have h := hk _ c' _ w' (ha.put hd _) ((hw.ownNil e sz).grown (r' := .own e sz (.slice (some ⟨w.heap.size, 0, none⟩) (m + k) c') (m + k) (xs ++ news)) hgr (fun q hq => by simp [Res.foot, Value.ownBlock] at hq; exact .inr (by omega)) ho)
    simp [execOp, resolve, invoke, builtin, ha.ev hx, ha.ev hy, hrun, actUpon]
    exact ⟨⟨hgr.size, fun k hk hX => hgr.block k hk (by simp)⟩, h⟩

theorem freeze_row {w : World} {g k : Nat} {cur : Array Value} {e : TypeId} (hg : w.heap[g]? = some (.cells cur e (0, 0))) :
    (w.freeze ⟨g, k, none⟩ 1).heap[g]? = some (.cells cur e (k, k + 1)) ∧ w.grownBy (w.freeze ⟨g, k, none⟩ 1) (some g) := by
  unfold World.freeze
  rw [if_neg (by decide)]
  refine ⟨?_, ⟨rfl, rfl, rfl, by simp, fun j hj hne => ?_⟩⟩
  · simp only [Array.getElem?_modify, if_true, hg]
    rfl
  · simp only [Array.getElem?_modify]
    rw [if_neg (fun h => hne (by rw [h]))]
/-- a constant's bytes: the literal's row gets the run-time's mark -/
theorem r_convConst {t e : TypeId} {g m c : Nat} {cur : Array Value} (hd : Nat.blt d n = true) (hx : ev E x = some (.slice (some ⟨g, 0, none⟩) m c)) [hb : HasBlk g H (.cells cur e (0, 0)) G] (ht : P.underlying t = some (.slice e)) (he : P.underlying e = some (.int .u8))
    (hk : Run n w0 S ((d, .slice (some ⟨g, 0, none⟩) m c) :: E) (.blk g (.cells cur e (cur.size, cur.size + 1)) :: G) (mix P none ops K rest)) :
    Run n w0 S E H (mix P none ops K (⟨some d, .convert t t x, ty, pos, after, none⟩ :: rest)) :=
  r_act (X := [g]) rfl True.intro fun a w ha hw => by
    have hw' := hw.pick hb.pick
    have hg : w.heap[g]? = some (.cells cur e (0, 0)) := hw.look hb.pick
    have hsh : w.shape? g = some (e, cur.size) := by unfold World.shape?; rw [hg]
    obtain ⟨h1, h2⟩ := freeze_row (k := cur.size) hg
    have h := hk _ _ (ha.put hd _) (hw'.grown (r' := .blk g (.cells cur e (cur.size, cur.size + 1))) h2 (fun q hq => .inl hq) h1)
    have hrun : (convert t t (.slice (some ⟨g, 0, none⟩) m c)).run P w = .ok (.slice (some ⟨g, 0, none⟩) m c) (w.freeze ⟨g, cur.size, none⟩ 1) := by
      simp [convert, run_underlying ht, run_underlying he, markStringish, hsh]
    simp [execOp, ha.ev hx, hrun, actUpon]
    exact ⟨⟨h2.size, fun k hk hX => h2.block k hk (by simpa using hX)⟩, h⟩
def strOf (l : List Int) : ByteArray := l.foldl (fun r z => r.push (UInt8.ofNat z.toNat)) ByteArray.empty
/-- bytes as a text -/
theorem r_bytesStr {t t2 e : TypeId} {b o m c : Nat} {l : List Int} (hd : Nat.blt d n = true) (hx : ev E x = some (.slice (some ⟨b, o, none⟩) m c)) (ht : P.underlying t = some (.slice e)) (he : P.underlying e = some (.int .u8)) (ht2 : P.underlying t2 = some .string) (hl : l.length = m)
    (hv : ∀ w, Sat w0 S H w → Rd w (some ⟨b, o, none⟩) (l.map (Value.int .u8)))
    (hk : Run n w0 S ((d, .string (strOf l)) :: E) H (mix P none ops K rest)) :
    Run n w0 S E H (mix P none ops K (⟨some d, .convert t t2 x, ty, pos, after, none⟩ :: rest)) :=
  r_act (X := []) rfl True.intro fun a w ha hw => by
    have h1 := run_loadCells_list (P := P) w ⟨b, o, none⟩ (l.map (Value.int .u8)) (fun j v hj => by rw [addr_add]; exact (hv w hw).cell hj rfl)
    rw [List.length_map, hl] at h1
    have h2 := run_bytesToString (P := P) w ⟨b, o, none⟩ m c l h1
    have h := hk _ _ (ha.put hd (.string (strOf l))) hw
    have hrun : (convert t t2 (.slice (some ⟨b, o, none⟩) m c)).run P w = .ok (.string (strOf l)) w := by
      simp [convert, run_underlying ht, run_underlying ht2, run_underlying he]
      exact h2
    simp [execOp, ha.ev hx, hrun, actUpon]
    exact ⟨⟨Nat.le_refl _, fun k hk hX => rfl⟩, h⟩
theorem r_neq_string {t t' : TypeId} {a b : ByteArray} {p : Bool} (hd : Nat.blt d n = true) (hx : ev E x = some (.string a)) (hy : ev E y = some (.string b)) (hr : (!(a.toList == b.toList)) = p) (hk : Run n w0 S ((d, .bool p) :: E) H (mix P dr ops K rest)) :
    Run n w0 S E H (mix P dr ops K (⟨some d, .binOp .neq t x y t', ty, pos, after, none⟩ :: rest)) :=
  r_bin hd hx hy (fun w => by simp [eqGuard]) (fun w => by
    subst hr
    simp [binOp, Op.stringOp, Sem.run_pure]) hk
/-- a call of a bound method's value -/
theorem r_callm1 {ι : Type} {f : Operand} {args : List Operand} {tys : Array TypeId} {g : FuncId} {fs vs cs us : List Value} {A : List Res} {v : ι → Value} {A' : ι → List Res} {φ : ι → Prop}
    (hp : H.Perm (A ++ G)) (hf : ev E f = some (.func (.func g) fs.toArray cs.toArray)) (ha : evs E args = some vs) (hu : fs ++ vs ++ cs = us) (hg : callable P g = true) (hd : Nat.blt d n = true)
    (hc : ∀ w, Sat w0 S (A ++ G) w → Sat w (A.filterMap Res.foot) A w → Calls P g us.toArray w fun e w' => ∃ i, e = .returned (v i) ∧ φ i ∧ Sat w (A.filterMap Res.foot) (A' i) w')
    (hk : ∀ i, φ i → Run n w0 S ((d, v i) :: E) (A' i ++ G) (mix P dr ops K rest)) (hok : OkAct dr (some d) (A.filterMap Res.foot) := by first | exact True.intro | (simp [OkAct, dstIn]; done) | (simp [OkAct, dstIn, *]; done)) :
    Run n w0 S E H (mix P dr ops K (⟨some d, .call { callee := .value f, args := args.toArray, argTypes := tys }, ty, pos, after, none⟩ :: rest)) :=
  r_act (X := A.filterMap Res.foot) (by cases dr <;> rfl) hok fun a w ha' hw => by
    have hw' := hw.perm hp
    have hrun : (execOp a.eval ⟨some d, .call { callee := .value f, args := args.toArray, argTypes := tys }, ty, pos, after, none⟩).run P w = .ok (.enter g us.toArray) w := by
      have e1 := ha'.evs ha
      subst hu
      simp [execOp, resolve, ha'.ev hf, Deferred.ofValue, invoke, run_call hg, e1]
    rw [hrun]
    refine (hc w hw' hw'.hand).mono fun e w' ⟨i, he, hφ, hs⟩ => ⟨v i, he, hs.kept, ?_⟩
    refine hk i hφ _ w' (ha'.put hd _) (hw'.call hs fun k hk => ?_)
    obtain ⟨r, hr, hf⟩ := List.mem_filterMap.1 hk
    exact ⟨r, hr, hf⟩
theorem r_callb1 {b : Nat} {o : Obj} {ι : Type} {f : Operand} {args : List Operand} {tys : Array TypeId} {g : FuncId} {fs vs cs us : List Value} {v : ι → Value} {A' : ι → List Res} {φ : ι → Prop} [hb : HasBlk b H o G]
    (hf : ev E f = some (.func (.func g) fs.toArray cs.toArray)) (ha : evs E args = some vs) (hu : fs ++ vs ++ cs = us) (hg : callable P g = true) (hd : Nat.blt d n = true)
    (hc : ∀ w, Sat w0 S H w → Sat w [b] [.blk b o] w → Calls P g us.toArray w fun e w' => ∃ i, e = .returned (v i) ∧ φ i ∧ Sat w [b] (A' i) w')
    (hk : ∀ i, φ i → Run n w0 S ((d, v i) :: E) (A' i ++ G) (mix P dr ops K rest)) (hok : OkAct dr (some d) [b] := by first | exact True.intro | (simp [OkAct, dstIn]; done) | (simp [OkAct, dstIn, *]; done)) :
    Run n w0 S E H (mix P dr ops K (⟨some d, .call { callee := .value f, args := args.toArray, argTypes := tys }, ty, pos, after, none⟩ :: rest)) :=
  r_callm1 (A := [.blk b o]) (G := G) hb.pick.perm hf ha hu hg hd (fun w hw hs => hc w (hw.perm hb.pick.perm.symm) hs) hk hok
end
end Go.Proofs.YtghjbnbkfohmlaaDoor
