/-
  Macros (chapter 30): Expand, Length.
-/
import Derived.Test.YtghjbnbkfohmlaaDoorCmds30
namespace Go.Proofs.YtghjbnbkfohmlaaDoor
open Go Go.RowKit
set_option linter.unusedVariables false
set_option linter.unusedSimpArgs false
set_option maxHeartbeats 2000000
set_option maxRecDepth 4000
attribute [local irreducible] mix

section
variable {P : Program} {n : Nat} {w0 : World} {S : List Nat} {E : List (Nat × Value)} {H G : List Res} {Q : Exit → Act → World → Prop}
variable {dr : Option Dr} {ops : Array Oper} {K : Act → World → Prop} {rest : List Oper} {d : Nat} {ty : TypeId} {pos : String} {after : Array Edge}
theorem permT (X G R : List Res) : (X ++ (G ++ R)).Perm ((X ++ R) ++ G) := by
  rw [List.append_assoc]
  exact List.Perm.append_left X List.perm_append_comm
/-- a call that is handed things and a tail of things that is not told -/
theorem r_callmT {ι : Type} {X R0 : List Res} {f : Operand} {args : List Operand} {tys : Array TypeId} {g : FuncId} {vs cs us : List Value} {v : ι → Value} {A' R : ι → List Res} {φ : ι → Prop}
    (hH : H = X ++ (G ++ R0)) (hf : ev E f = some (.func (.func g) #[] cs.toArray)) (ha : evs E args = some vs) (hu : vs ++ cs = us) (hg : callable P g = true) (hd : Nat.blt d n = true)
    (hc : ∀ w, Sat w0 S ((X ++ R0) ++ G) w → Sat w ((X ++ R0).filterMap Res.foot) (X ++ R0) w → Calls P g us.toArray w fun e w' => ∃ i, e = .returned (v i) ∧ φ i ∧ Sat w ((X ++ R0).filterMap Res.foot) (A' i ++ R i) w')
    (hk : ∀ i, φ i → Run n w0 S ((d, v i) :: E) (A' i ++ (G ++ R i)) (mix P none ops K rest)) :
    Run n w0 S E H (mix P none ops K (⟨some d, .call { callee := .value f, args := args.toArray, argTypes := tys }, ty, pos, after, none⟩ :: rest)) := by
  subst hH
  exact r_callm (A := X ++ R0) (G := G) (permT X G R0) hf ha hu hg hd hc fun i hi => Run.perm (permT (A' i) G (R i)).symm (hk i hi)
theorem after_call {A : List Res} {w : World} (hw : Sat w0 S (A ++ G) w) {X : List Res} {w1 : World} (h : Sat w (A.filterMap Res.foot) X w1) : Sat w0 S (X ++ G) w1 := hw.call h fun k hk => by
  obtain ⟨r, h1, h2⟩ := List.mem_filterMap.1 hk
  exact ⟨r, h1, h2⟩
theorem own_blt {w : World} {T sz m c g : Nat} {xs : List Value} [hp : HasOwn (.slice (some ⟨g, 0, none⟩) m c) H T sz m xs G] (hw : Sat w0 S H w) : g < w.heap.size := (hw.look hp.pick).lt rfl
end
theorem blk_rd {w : World} {b : Nat} {cs : Array Value} {T : TypeId} {fr : Nat × Nat} (h : Res.ok w (.blk b (.cells cs T fr))) : Rd w (some ⟨b, 0, none⟩) cs.toList :=
  Rd.blk h fun j u hj => by rw [Nat.zero_add]; exact Array.getElem?_toList.symm.trans hj
theorem tail_rd {w : World} {A : Option Addr} {x : List UInt8} {xs : List (List UInt8)} (h : Rd w A ((x :: xs).map txV)) : Rd w (if (x :: xs).length = 1 then A else A.map (·.add (1 * 1))) (xs.map txV) := by
  have h2 := h.drop 1 (cap := (x :: xs).length) (l := 1 * 1) (by rw [List.length_map]; exact Nat.le_refl _) rfl
  exact h2
theorem takeL_snoc {ls : List (List UInt8)} {k : Nat} (h : k < ls.length) : ls.take (k + 1) = ls.take k ++ [ls[k]] := by
  rw [List.take_add_one, List.getElem?_eq_getElem h]
  rfl
theorem bres_zero {b : Nat} {ls : List (List UInt8)} : BRes b (stOf (ls.take 0)) ⟨none, 0, none, 0, [], []⟩ = [.blk b (.cells #[.slice none 0 0, .slice none 0 0] 51 (0, 0)), .own 25 1 (.slice none 0 0) 0 [], .own 32 2 (.slice none 0 0) 0 []] := by
  rw [List.take_zero]
  rfl
theorem frl_zero (ls : List (List UInt8)) : FrL [] (stOf (ls.take 0)).fs [] := FrL.nil []
def okLs (ls : List (List UInt8)) : Bool := ls.all fun l => (lineC l).isSome
def badI (ls : List (List UInt8)) : Nat := ls.findIdx fun l => (lineC l).isNone
theorem okLs_no {ls : List (List UInt8)} {k : Nat} (hk : k < ls.length) (h : lineC ls[k] = none) : okLs ls = false := by
  unfold okLs
  rw [List.all_eq_false]
  exact ⟨_, List.getElem_mem hk, by rw [h]; simp⟩
theorem okLs_yes {ls : List (List UInt8)} (h : ∀ j (hj : j < ls.length), j < ls.length → (lineC ls[j]).isSome = true) : okLs ls = true := by
  unfold okLs
  rw [List.all_eq_true]
  intro l hl
  obtain ⟨j, hj, rfl⟩ := List.mem_iff_getElem.1 hl
  exact h j hj hj
theorem badI_at {ls : List (List UInt8)} {k : Nat} (hk : k < ls.length) (h : lineC ls[k] = none) (hg : ∀ j (hj : j < ls.length), j < k → (lineC ls[j]).isSome = true) : badI ls = k := by
  unfold badI
  rw [List.findIdx_eq hk]
  refine ⟨by rw [h]; rfl, fun j hj => ?_⟩
  have := hg j (by omega) hj
  cases e : lineC ls[j] with
  | none => rw [e] at this; cases this
  | some c => rfl
def lookV (w0 : List UInt8) (bT bF : Nat) : Value := if w0 = pressW then .func (.func 39) #[] #[.pointer (some ⟨bT, 0, none⟩)] else if w0 = releaseW then .func (.func 39) #[] #[.pointer (some ⟨bF, 0, none⟩)] else if w0 = waitW then .func (.func 33) #[] #[] else if w0 = tapW then .func (.func 34) #[] #[] else .nilFunc
def lookB (w0 : List UInt8) : Bool := decide (w0 = pressW) || (decide (w0 = releaseW) || (decide (w0 = waitW) || decide (w0 = tapW)))
def lookR (w0 : List UInt8) (bT bF : Nat) : Option (Nat × Value) := if w0 = pressW then some (0, lookV w0 bT bF) else if w0 = releaseW then some (1, lookV w0 bT bF) else if w0 = waitW then some (2, lookV w0 bT bF) else if w0 = tapW then some (3, lookV w0 bT bF) else none
theorem tx_beq (a b : List UInt8) : (tx a == tx b) = decide (a = b) := by
  have e : (tx a == tx b) = (a.toArray == b.toArray) := rfl
  rw [e, Bool.beq_eq_decide_eq]
  exact decide_eq_decide.2 ⟨fun h => by simpa using h, fun h => by rw [h]⟩
theorem find30 (w0 : List UInt8) (bT bF : Nat) : Instr.findNow .string (.string (tx w0)) (cmdEs bT bF).toList 0 = some (lookR w0 bT bF) := by
  have e1 : (tx w0 == ByteArray.mk #[112, 114, 101, 115, 115]) = decide (w0 = pressW) := tx_beq w0 pressW
  have e2 : (tx w0 == ByteArray.mk #[114, 101, 108, 101, 97, 115, 101]) = decide (w0 = releaseW) := tx_beq w0 releaseW
  have e3 : (tx w0 == ByteArray.mk #[119, 97, 105, 116]) = decide (w0 = waitW) := tx_beq w0 waitW
  have e4 : (tx w0 == ByteArray.mk #[116, 97, 112]) = decide (w0 = tapW) := tx_beq w0 tapW
  unfold cmdEs lookR
  by_cases h1 : w0 = pressW
  · subst h1
    simp [Instr.findNow, Instr.sameNow, e1, lookV]
  · by_cases h2 : w0 = releaseW
    · subst h2
      simp [Instr.findNow, Instr.sameNow, e1, e2, h1, lookV]
    · by_cases h3 : w0 = waitW
      · subst h3
        simp [Instr.findNow, Instr.sameNow, e1, e2, e3, h1, h2, lookV]
      · by_cases h4 : w0 = tapW
        · subst h4
          simp [Instr.findNow, Instr.sameNow, e1, e2, e3, e4, h1, h2, h3, lookV]
        · simp [Instr.findNow, Instr.sameNow, e1, e2, e3, e4, h1, h2, h3, h4, lookV]
theorem look_eq (w0 : List UInt8) (bT bF : Nat) : lookPair (lookR w0 bT bF) Value.nilFunc = (lookV w0 bT bF, lookB w0) := by
  unfold lookR lookB
  by_cases h1 : w0 = pressW
  · rw [if_pos h1, decide_eq_true h1]; rfl
  · rw [if_neg h1, decide_eq_false h1]
    by_cases h2 : w0 = releaseW
    · rw [if_pos h2, decide_eq_true h2]; rfl
    · rw [if_neg h2, decide_eq_false h2]
      by_cases h3 : w0 = waitW
      · rw [if_pos h3, decide_eq_true h3]; rfl
      · rw [if_neg h3, decide_eq_false h3]
        by_cases h4 : w0 = tapW
        · rw [if_pos h4, decide_eq_true h4]; rfl
        · rw [if_neg h4, decide_eq_false h4]
          unfold lookV
          rw [if_neg h1, if_neg h2, if_neg h3, if_neg h4]; rfl
theorem cmdW_no {w0 : List UInt8} {ws : List (List UInt8)} (h : lookB w0 = false) : cmdW w0 ws = none := by
  simp only [lookB, Bool.or_eq_false_iff, decide_eq_false_iff_not] at h
  unfold cmdW
  rw [if_neg h.1, if_neg h.2.1, if_neg h.2.2.1, if_neg h.2.2.2]
/-- the command of a word, run -/
theorem run30 (b : Nat) (s : St) (ix : BIx) (ws : List (List UInt8)) (W : Option Addr) (c : Nat) (w0 : List UInt8) (bT bF : Nat) (hb : lookB w0 = true) : ∃ g cs, lookV w0 bT bF = .func (.func g) #[] cs.toArray ∧ callable Tryd.prog g = true ∧
    ∀ (hlen : s.fs.length ≤ 90000000000 ∧ s.pr.length ≤ 90000000) (hL : ∀ x ∈ ws, x.length ≤ 1000000) (S : List Nat) (w : World) (hS : Sat w S (BRes b s ix) w) (hF : FrL ix.hv s.fs ix.L) (hG : ∀ X w1, Sat w S X w1 → Glob30 w1) (hW : ∀ X w1, Sat w S X w1 → Rd w1 W (ws.map txV))
      (hT : ∀ X w1, Sat w S X w1 → Rd w1 (some ⟨bT, 0, none⟩) [.bool true]) (hN : ∀ X w1, Sat w S X w1 → Rd w1 (some ⟨bF, 0, none⟩) [.bool false]),
      Calls Tryd.prog g ([.pointer (some ⟨b, 0, none⟩), .slice W ws.length c] ++ cs).toArray w fun e w' => ∃ i : BIx, e = .returned (.bool (cmdW w0 ws).isSome) ∧ FrL i.hv (stTry s (cmdW w0 ws)).fs i.L ∧ Sat w S (BRes b (stTry s (cmdW w0 ws)) i) w' := by
  by_cases h1 : w0 = pressW
  · refine ⟨39, [.pointer (some ⟨bT, 0, none⟩)], by unfold lookV; rw [if_pos h1], by kernel_rfl, fun hlen hL S w hS hF hG hW hT hN => ?_⟩
    have e : cmdW w0 ws = evC true ws := by unfold cmdW; rw [if_pos h1]
    rw [e]
    exact press1_30 b s ix ws W c true bT hlen hL S w hS hF hG hW hT
  · by_cases h2 : w0 = releaseW
    · refine ⟨39, [.pointer (some ⟨bF, 0, none⟩)], by unfold lookV; rw [if_neg h1, if_pos h2], by kernel_rfl, fun hlen hL S w hS hF hG hW hT hN => ?_⟩
      have e : cmdW w0 ws = evC false ws := by unfold cmdW; rw [if_neg h1, if_pos h2]
      rw [e]
      exact press1_30 b s ix ws W c false bF hlen hL S w hS hF hG hW hN
    · by_cases h3 : w0 = waitW
      · refine ⟨33, [], by unfold lookV; rw [if_neg h1, if_neg h2, if_pos h3], by kernel_rfl, fun hlen hL S w hS hF hG hW hT hN => ?_⟩
        have e : cmdW w0 ws = waitC ws := by unfold cmdW; rw [if_neg h1, if_neg h2, if_pos h3]
        rw [e]
        exact waiting30 b s ix ws W c hlen hL S w hS hF hG hW
      · by_cases h4 : w0 = tapW
        · refine ⟨34, [], by unfold lookV; rw [if_neg h1, if_neg h2, if_neg h3, if_pos h4], by kernel_rfl, fun hlen hL S w hS hF hG hW hT hN => ?_⟩
          have e : cmdW w0 ws = tapC ws := by unfold cmdW; rw [if_neg h1, if_neg h2, if_neg h3, if_pos h4]
          rw [e]
          exact tapping30 b s ix ws W c hlen hL S w hS hF hG hW
        · unfold lookB at hb
          rw [decide_eq_false h1, decide_eq_false h2, decide_eq_false h3, decide_eq_false h4] at hb
          cases hb
/-- a result of Expand -/
abbrev exRes (ls : List (List UInt8)) (ix : BIx) : List Res := .own 25 1 (.slice ix.A0 (resF (stOf ls)).length ix.c0) (resF (stOf ls)).length ix.hv :: ownsOf ix.L
attribute [local irreducible] evsL ownsOf stOf lookV lookB cmdW cmdEs splitS lineC


theorem expandA30 (A : Option Addr) (c : Nat) (ls : List (List UInt8)) (hlen1 : ls.length ≤ 1000000) (hlen2 : ∀ l ∈ ls, l.length ≤ 1000000) (w : World) (hG : Glob30 w) (hR : Rd w A (ls.map txV)) :
    Calls Tryd.prog 11 #[.slice A ls.length c] w fun e w' =>
      (okLs ls = true ∧ ∃ ix : BIx, e = .returned (.tuple #[.slice ix.A0 (resF (stOf ls)).length ix.c0, .int .i64 0, .int .i64 0]) ∧ FrL ix.hv (resF (stOf ls)) ix.L ∧ Sat w [] (exRes ls ix) w') ∨
      (okLs ls = false ∧ e = .returned (.tuple #[.slice none 0 0, .int .i64 ((badI ls : Nat) : Int), .int .i64 6]) ∧ Sat w [] [] w') := by
  refine enter Tryd.func11 rfl rfl rfl ?_
  refine r_seq ?_
  refine r_region ?_
  refine r_assign rfl rfl ?_
  refine r_assign rfl rfl ?_
  refine r_assign rfl rfl ?_
  refine r_nil ?_
  refine r_tn ?_
  refine r_seq ?_
  refine r_region ?_
  refine r_allocV (cs := #[.slice none 0 0, .slice none 0 0]) (by kernel_rfl) rfl fun b11 => ?_
  refine r_assign rfl rfl ?_
  refine r_nil ?_
  refine r_tn ?_
  refine r_seq ?_
  refine r_seq ?_
  refine r_region ?_
  refine r_move rfl rfl ?_
  refine r_len rfl rfl rfl ?_
  refine r_move rfl rfl ?_
  refine r_nil ?_
  refine r_tn ?_
  refine r_block ?_
  refine Run.ownNil 25 1 ?_
  refine Run.ownNil 32 2 ?_
  refine r_loop1 (T0 := BIx) (fun k ix => [(5, .pointer (some ⟨b11, 0, none⟩)), (12, .slice A ls.length c), (13, .int .i64 (ls.length : Int)), (14, .int .i64 (k : Int))]) (fun k ix => BRes b11 (stOf (ls.take k)) ix) (fun k ix => k ≤ ls.length ∧ (∀ j (h : j < ls.length), j < k → (lineC ls[j]).isSome = true) ∧ FrL ix.hv (stOf (ls.take k)).fs ix.L) ls.length 0 ⟨none, 0, none, 0, [], []⟩ ⟨by omega, fun j h hj => by omega, frl_zero _⟩ ⟨rfl, rfl, rfl, rfl, trivial⟩ (fun w hw => by
    rw [bres_zero]
    have h2 : Sat _ _ [.blk b11 (.cells #[.slice none 0 0, .slice none 0 0] 51 (0, 0)), .own 25 1 (.slice none 0 0) 0 [], .own 32 2 (.slice none 0 0) 0 []] w := hw.sub
    exact h2) fun k ix hk => ?_
  obtain ⟨hk, hgood, hF⟩ := hk
  obtain ⟨hn1, hn2⟩ := stOf_count _ (ls.take k) rfl
  have hn3 : (ls.take k).length ≤ 1000000 := by rw [List.length_take]; omega
  refine r_seq ?_
  refine r_region ?_
  refine r_lss (p := decide (k < ls.length)) rfl rfl rfl (decide_eq_decide.2 ⟨fun _ => by omega, fun _ => by omega⟩) ?_
  refine r_nil ?_
  refine r_tn ?_
  refine r_seq ?_
  refine r_cond rfl (fun hc => ?_) (fun hc => ?_)
  · refine r_skip ?_
    refine r_tn ?_
    refine r_seq ?_
    refine r_block ?_
    refine r_seq ?_
    refine r_region ?_
    have hk2 : k < ls.length := of_decide_eq_true hc
    clear hc
    obtain ⟨l, hl⟩ : ∃ l, ls[k] = l := ⟨_, rfl⟩
    have hly : (ls.map txV)[k]? = some (txV l) := by rw [txs_at hk2, hl]
    have hll : l.length ≤ 1000000 := hlen2 l (by rw [← hl]; exact List.getElem_mem hk2)
    obtain ⟨ba, oa, rfl⟩ := rd_some hR hly
    obtain ⟨w0, ws, hsp⟩ := splitS_ne l
    have hlc : lineC l = cmdW w0 ws := by unfold lineC; rw [hsp]; rfl
    have hlk : lineC ls[k] = cmdW w0 ws := by rw [hl]; exact hlc
    have htk : stOf (ls.take (k + 1)) = stTry (stOf (ls.take k)) (cmdW w0 ws) := by rw [takeL_snoc hk2, stOf_snoc, hlk]
    have hws : ∀ x ∈ ws, x.length ≤ 1000000 := fun x hx => Nat.le_trans (splitS_small l x (by rw [hsp]; exact .tail _ hx)) hll
    refine r_move rfl rfl ?_
    refine r_indexSl (sz := 1) (o' := oa + k) rfl rfl rfl rfl rfl (by omega) (by omega) (by omega) ?_
    refine r_loadC (p := ⟨ba, oa + k, none⟩) (v := txV l) rfl rfl rfl (fun w hw => (hR.keep hw).cell hly rfl) ?_
    refine r_assign rfl rfl ?_
    refine r_assign rfl rfl ?_
    refine r_nil ?_
    refine r_tn ?_
    refine r_seq ?_
    refine r_region ?_
    refine r_move rfl rfl ?_
    refine r_callx rfl rfl rfl (by kernel_rfl) rfl (fun w hw => by exact split30 l hll w (hG.keep hw)) ?_
    rintro b20 _
    rw [hsp]
    refine r_assign rfl rfl ?_
    refine r_nil ?_
    refine r_tn ?_
    refine r_seq ?_
    refine r_mixedD { xb := [], rb := [b20], rs := [25], fs := [], acs := [22] } (by kernel_rfl) (by kernel_rfl) (fun w hw k2 hk2 => by
      simp only [List.mem_cons, List.not_mem_nil, or_false] at hk2
      subst hk2
      exact own_blt (m := (w0 :: ws).length) (c := (w0 :: ws).length) hw) ?_
    refine r_callx rfl rfl rfl (by kernel_rfl) rfl (fun w hw => by exact commands30 w) ?_
    rintro ⟨m, bT, bF⟩ _
    refine r_move rfl rfl ?_
    refine r_indexSl (sz := 1) (o' := 0 + 0) rfl rfl rfl rfl rfl (by decide) (by simp) rfl ?_
    refine r_loadC (p := ⟨b20, 0 + 0, none⟩) (v := txV w0) rfl rfl rfl (fun w hw => (own_rd (A := some ⟨b20, 0, none⟩) (m := (w0 :: ws).length) (c := (w0 :: ws).length) hw).cell (j := 0) rfl rfl) ?_
    refine r_lookupOkS (v := lookV w0 bT bF) (ok := lookB w0) (zv := .nilFunc) rfl rfl rfl rfl rfl (find30 w0 bT bF) (by kernel_rfl) (look_eq w0 bT bF) ?_
    refine r_move rfl rfl ?_
    refine r_extract (v := lookV w0 bT bF) rfl rfl rfl ?_
    refine r_extract (v := .bool (lookB w0)) rfl rfl rfl ?_
    refine r_assign rfl rfl ?_
    refine r_assign rfl rfl ?_
    refine r_nil ?_
    refine r_tn ?_
    refine r_seq ?_
    refine r_region ?_
    refine r_move rfl rfl ?_
    refine r_not rfl rfl rfl ?_
    refine r_move rfl rfl ?_
    refine r_split 31 rfl (fun hb31 => ?_) (fun hb31 => ?_)
    · refine r_pass rfl rfl rfl rfl ?_
      refine r_pass rfl rfl rfl rfl ?_
      refine r_pass rfl rfl rfl rfl ?_
      refine r_pass rfl rfl rfl rfl ?_
      refine r_pass rfl rfl rfl rfl ?_
      refine r_pass rfl rfl rfl rfl ?_
      refine r_pick_t rfl rfl rfl ?_
      refine r_nil ?_
      refine r_tn ?_
      refine r_cond_t rfl ?_
      refine r_seq ?_
      refine r_region ?_
      refine r_move rfl rfl ?_
      refine r_assign rfl rfl ?_
      refine r_assign rfl rfl ?_
      refine r_assign rfl rfl ?_
      refine r_nil ?_
      refine r_tn ?_
      refine r_ret ?_
      refine r_br ?_
      refine r_tr ?_
      refine r_tr ?_
      refine r_br ?_
      refine r_tr ?_
      have hno : lookB w0 = false := by simpa using hb31
      have hb1 : lineC ls[k] = none := by rw [hlk]; exact cmdW_no hno
      exact r_done3 (.inl rfl) rfl (res_tmp rfl) (res_tmp rfl) (res_tmp rfl) fun w hw => .inr ⟨okLs_no hk2 hb1, by rw [badI_at hk2 hb1 hgood], hw.clear⟩
    · refine r_go rfl rfl ?_
      refine r_move rfl rfl ?_
      refine r_go rfl rfl ?_
      refine r_move rfl rfl ?_
      refine r_go rfl rfl ?_
      refine r_move rfl rfl ?_
      refine r_go rfl rfl ?_
      refine r_sliceLo (h' := 1) (sz := 1) rfl rfl rfl rfl rfl rfl (by simp) ?_
      refine r_go rfl rfl ?_
      have hlb : lookB w0 = true := by simpa using hb31
      obtain ⟨g, cs, hgv, hgc, hcall⟩ := run30 b11 (stOf (ls.take k)) ix ws (if (w0 :: ws).length = 1 then some ⟨b20, 0, none⟩ else (some ⟨b20, 0, none⟩ : Option Addr).map (·.add (1 * 1))) ((w0 :: ws).length - 1) w0 bT bF hlb
      rw [hgv]
      refine Run.less (H' := [.blk b11 (.cells #[.slice ix.A0 (stOf (ls.take k)).fs.length ix.c0, .slice ix.A1 (stOf (ls.take k)).pr.length ix.c1] 51 (0, 0)), .own 25 1 (.slice ix.A0 (stOf (ls.take k)).fs.length ix.c0) (stOf (ls.take k)).fs.length ix.hv, .own 32 2 (.slice ix.A1 (stOf (ls.take k)).pr.length ix.c1) (stOf (ls.take k)).pr.length (evsL (stOf (ls.take k)).pr)] ++ ([.own 9 1 (.slice (some ⟨b20, 0, none⟩) (w0 :: ws).length (w0 :: ws).length) (w0 :: ws).length ((w0 :: ws).map txV), .blk m (.map (cmdEs bT bF) 4), .blk bT (.cells #[.bool true] 4 (0, 0)), .blk bF (.cells #[.bool false] 4 (0, 0))] ++ ownsOf ix.L)) (fun w hw => by
        have h2 : Sat _ _ (.blk b11 (.cells #[.slice ix.A0 (stOf (ls.take k)).fs.length ix.c0, .slice ix.A1 (stOf (ls.take k)).pr.length ix.c1] 51 (0, 0)) :: .own 25 1 (.slice ix.A0 (stOf (ls.take k)).fs.length ix.c0) (stOf (ls.take k)).fs.length ix.hv :: .own 32 2 (.slice ix.A1 (stOf (ls.take k)).pr.length ix.c1) (stOf (ls.take k)).pr.length (evsL (stOf (ls.take k)).pr) :: .own 9 1 (.slice (some ⟨b20, 0, none⟩) (w0 :: ws).length (w0 :: ws).length) (w0 :: ws).length ((w0 :: ws).map txV) :: .blk m (.map (cmdEs bT bF) 4) :: .blk bT (.cells #[.bool true] 4 (0, 0)) :: .blk bF (.cells #[.bool false] 4 (0, 0)) :: ownsOf ix.L) w := hw.sub
        exact h2) ?_
      refine r_callmT (ι := BIx) (A' := fun i => [.blk b11 (.cells #[.slice i.A0 (stTry (stOf (ls.take k)) (cmdW w0 ws)).fs.length i.c0, .slice i.A1 (stTry (stOf (ls.take k)) (cmdW w0 ws)).pr.length i.c1] 51 (0, 0)), .own 25 1 (.slice i.A0 (stTry (stOf (ls.take k)) (cmdW w0 ws)).fs.length i.c0) (stTry (stOf (ls.take k)) (cmdW w0 ws)).fs.length i.hv, .own 32 2 (.slice i.A1 (stTry (stOf (ls.take k)) (cmdW w0 ws)).pr.length i.c1) (stTry (stOf (ls.take k)) (cmdW w0 ws)).pr.length (evsL (stTry (stOf (ls.take k)) (cmdW w0 ws)).pr)]) (R := fun i => ownsOf i.L) (φ := fun i => FrL i.hv (stTry (stOf (ls.take k)) (cmdW w0 ws)).fs i.L) rfl rfl rfl rfl hgc rfl (fun w1 hw hs => hcall ⟨by omega, by omega⟩ hws _ w1 hs hF (fun X w2 h => hG.keep (after_call hw h)) (fun X w2 h => tail_rd (owns_rd ((after_call hw h).ok _ (List.mem_append.2 (.inr (.head _)))))) (fun X w2 h => blk_rd ((after_call hw h).ok _ (List.mem_append.2 (.inr (.tail _ (.tail _ (.head _))))))) (fun X w2 h => blk_rd ((after_call hw h).ok _ (List.mem_append.2 (.inr (.tail _ (.tail _ (.tail _ (.head _))))))))) ?_
      rintro ix2 hF2
      refine r_go rfl rfl ?_
      refine r_not rfl rfl rfl ?_
      refine r_pick_f rfl rfl rfl ?_
      refine r_nil ?_
      refine r_tn ?_
      refine r_cond rfl (fun hc => ?_) (fun hc => ?_)
      · refine r_seq ?_
        refine r_region ?_
        refine r_move rfl rfl ?_
        refine r_assign rfl rfl ?_
        refine r_assign rfl rfl ?_
        refine r_assign rfl rfl ?_
        refine r_nil ?_
        refine r_tn ?_
        refine r_ret ?_
        refine r_br ?_
        refine r_tr ?_
        refine r_tr ?_
        refine r_br ?_
        refine r_tr ?_
        have hb1 : lineC ls[k] = none := by rw [hlk]; simpa using hc
        exact r_done3 (.inl rfl) rfl (res_tmp rfl) (res_tmp rfl) (res_tmp rfl) fun w hw => .inr ⟨okLs_no hk2 hb1, by rw [badI_at hk2 hb1 hgood], hw.clear⟩
      · refine r_skip ?_
        refine r_bn ?_
        refine r_tn ?_
        refine r_region ?_
        refine r_add rfl rfl rfl (w64 (by omega)) ?_
        refine r_move rfl rfl ?_
        refine r_nil ?_
        refine r_tn ?_
        have hcs : (cmdW w0 ws).isSome = true := by simpa using hc
        exact r_again1 (k + 1) ix2 ⟨by omega, fun j h hj => by
          by_cases e : j = k
          · subst e; rw [hlk]; exact hcs
          · exact hgood j h (by omega), by rw [htk]; exact hF2⟩ (by omega) ⟨rfl, rfl, rfl, rfl, trivial⟩ (fun w hw => by rw [htk]; exact hw.sub)
  · refine r_exit ?_
    refine r_te ?_
    refine r_te ?_
    refine r_be ?_
    refine r_tn ?_
    refine r_seq ?_
    refine r_region ?_
    have hk3 : k = ls.length := by have h : ¬ k < ls.length := of_decide_eq_false hc; omega
    clear hc
    subst hk3
    rw [List.take_length] at hF hn1 hn2 hn3 ⊢
    refine r_move rfl rfl ?_
    refine r_callm (A := BRes b11 (stOf ls) ix) (G := []) (permNil _) rfl rfl rfl (by kernel_rfl) rfl (fun w1 hw hs => result30 b11 (stOf ls) ix (by omega) _ w1 hs) ?_
    rintro ⟨A9, c9⟩ _
    rw [List.append_nil]
    refine r_assign rfl rfl ?_
    refine r_assign rfl rfl ?_
    refine r_assign rfl rfl ?_
    refine r_nil ?_
    refine r_tn ?_
    refine r_ret ?_
    exact r_done3 (.inl rfl) rfl (res_tmp rfl) (res_tmp rfl) (res_tmp rfl) fun w hw => .inl ⟨okLs_yes hgood, ⟨A9, c9, none, 0, resH (stOf ls) ix, resL (stOf ls) ix⟩, rfl, hF.res, hw⟩

theorem expand30 (A : Option Addr) (c : Nat) (ls : List (List UInt8)) (hok : okLs ls = true) (hlen1 : ls.length ≤ 1000000) (hlen2 : ∀ l ∈ ls, l.length ≤ 1000000) (w : World) (hG : Glob30 w) (hR : Rd w A (ls.map txV)) :
    Calls Tryd.prog 11 #[.slice A ls.length c] w fun e w' => ∃ ix : BIx, e = .returned (.tuple #[.slice ix.A0 (resF (stOf ls)).length ix.c0, .int .i64 0, .int .i64 0]) ∧ FrL ix.hv (resF (stOf ls)) ix.L ∧ Sat w [] (exRes ls ix) w' :=
  (expandA30 A c ls hlen1 hlen2 w hG hR).mono fun e w' h => by
    rcases h with h | h
    · exact h.2
    · rw [hok] at h; cases h.1
theorem expandBad30 (A : Option Addr) (c : Nat) (ls : List (List UInt8)) (hok : okLs ls = false) (hlen1 : ls.length ≤ 1000000) (hlen2 : ∀ l ∈ ls, l.length ≤ 1000000) (w : World) (hG : Glob30 w) (hR : Rd w A (ls.map txV)) :
    Calls Tryd.prog 11 #[.slice A ls.length c] w fun e w' => e = .returned (.tuple #[.slice none 0 0, .int .i64 ((badI ls : Nat) : Int), .int .i64 6]) ∧ Sat w [] [] w' :=
  (expandA30 A c ls hlen1 hlen2 w hG hR).mono fun e w' h => by
    rcases h with h | h
    · rw [hok] at h; cases h.1
    · exact h.2


theorem length30 (A : Option Addr) (c : Nat) (ls : List (List UInt8)) (hok : okLs ls = true) (hlen1 : ls.length ≤ 1000000) (hlen2 : ∀ l ∈ ls, l.length ≤ 1000000) (w : World) (hG : Glob30 w) (hR : Rd w A (ls.map txV)) :
    Calls Tryd.prog 16 #[.slice A ls.length c] w fun e w' => e = .returned (.int .i64 ((resF (stOf ls)).length : Nat)) ∧ Sat w [] [] w' := by
  refine enter Tryd.func16 rfl rfl rfl ?_
  refine r_seq ?_
  refine r_region ?_
  refine r_assign rfl rfl ?_
  refine r_nil ?_
  refine r_tn ?_
  refine r_seq ?_
  refine r_region ?_
  refine r_move rfl rfl ?_
  refine r_callx rfl rfl rfl (by kernel_rfl) rfl (fun w hw => by exact expand30 A c ls hok hlen1 hlen2 w (hG.keep hw) (hR.keep hw)) ?_
  rintro ix hF
  refine r_move rfl rfl ?_
  refine r_extract (v := .slice ix.A0 (resF (stOf ls)).length ix.c0) rfl rfl rfl ?_
  refine r_extract (v := .int .i64 0) rfl rfl rfl ?_
  refine r_extract (v := .int .i64 0) rfl rfl rfl ?_
  refine r_assign rfl rfl ?_
  refine r_assign rfl rfl ?_
  refine r_assign rfl rfl ?_
  refine r_nil ?_
  refine r_tn ?_
  refine r_seq ?_
  refine r_seq ?_
  refine r_region ?_
  refine r_move rfl rfl ?_
  refine r_neq (p := false) rfl rfl rfl rfl ?_
  refine r_nil ?_
  refine r_tn ?_
  refine r_cond_f rfl ?_
  refine r_skip ?_
  refine r_tn ?_
  refine r_seq ?_
  refine r_region ?_
  refine r_move rfl rfl ?_
  refine r_len rfl rfl rfl ?_
  refine r_assign rfl rfl ?_
  refine r_nil ?_
  refine r_tn ?_
  refine r_ret ?_
  exact r_done1 (.inl rfl) rfl (res_tmp rfl) fun w hw => ⟨rfl, hw.clear⟩

theorem lengthBad30 (A : Option Addr) (c : Nat) (ls : List (List UInt8)) (hok : okLs ls = false) (hlen1 : ls.length ≤ 1000000) (hlen2 : ∀ l ∈ ls, l.length ≤ 1000000) (w : World) (hG : Glob30 w) (hR : Rd w A (ls.map txV)) :
    Calls Tryd.prog 16 #[.slice A ls.length c] w fun e w' => e = .returned (.int .i64 (-1)) ∧ Sat w [] [] w' := by
  refine enter Tryd.func16 rfl rfl rfl ?_
  refine r_seq ?_
  refine r_region ?_
  refine r_assign rfl rfl ?_
  refine r_nil ?_
  refine r_tn ?_
  refine r_seq ?_
  refine r_region ?_
  refine r_move rfl rfl ?_
  refine r_call rfl rfl rfl (by kernel_rfl) rfl (fun w hw => by exact expandBad30 A c ls hok hlen1 hlen2 w (hG.keep hw) (hR.keep hw)) ?_
  refine r_move rfl rfl ?_
  refine r_extract (v := .slice none 0 0) rfl rfl rfl ?_
  refine r_extract (v := .int .i64 ((badI ls : Nat) : Int)) rfl rfl rfl ?_
  refine r_extract (v := .int .i64 6) rfl rfl rfl ?_
  refine r_assign rfl rfl ?_
  refine r_assign rfl rfl ?_
  refine r_assign rfl rfl ?_
  refine r_nil ?_
  refine r_tn ?_
  refine r_seq ?_
  refine r_seq ?_
  refine r_region ?_
  refine r_move rfl rfl ?_
  refine r_neq (p := true) rfl rfl rfl rfl ?_
  refine r_nil ?_
  refine r_tn ?_
  refine r_cond_t rfl ?_
  refine r_seq ?_
  refine r_region ?_
  refine r_assign rfl rfl ?_
  refine r_nil ?_
  refine r_tn ?_
  refine r_ret ?_
  refine r_tr ?_
  exact r_done1 (.inl rfl) rfl (res_tmp rfl) fun w hw => ⟨rfl, hw.clear⟩
end Go.Proofs.YtghjbnbkfohmlaaDoor
