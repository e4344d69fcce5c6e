/-
  Macros (chapter 30): counts; the reference s Split.
-/
import Derived.Test.YtghjbnbkfohmlaaDoorKeys30
namespace Go.Proofs.YtghjbnbkfohmlaaDoor
open Go Go.RowKit
set_option linter.unusedVariables false
set_option linter.unusedSimpArgs false
set_option maxHeartbeats 2000000
set_option maxRecDepth 4000
attribute [local irreducible] mix

section
variable {P : Program} {n : Nat} {w0 : World} {S : List Nat} {E : List (Nat × Value)} {H G : List Res}
variable {dr : Option Dr} {ops : Array Oper} {K : Act → World → Prop} {rest : List Oper} {d : Nat} {ty : TypeId} {pos : String} {after : Array Edge} {x y : Operand}
theorem r_partLo {t : TypeId} {s : ByteArray} {k : IntKind} {lo : Int} {l' : Nat} (hd : Nat.blt d n = true) (hx : ev E x = some (.string s)) (hy : ev E y = some (.int k lo)) (ht : P.underlying t = some .string) (hl : lo = (l' : Nat)) (h2 : l' ≤ s.size)
    (hk : Run n w0 S ((d, .string (s.extract l' s.size)) :: E) H (mix P dr ops K rest)) :
    Run n w0 S E H (mix P dr ops K (⟨some d, .slice t x (some y) none none, ty, pos, after, none⟩ :: rest)) :=
  r_value hd (by cases dr <;> rfl) (fun a ha w => by
    subst hl
    simp [execOp, ha.ev hx, ha.ev hy, Instr.sliceAt, Instr.slice, run_underlying ht, Sem.run_bind, Instr.sliceBounds, Instr.sliceBound, asIntOf, h2, Sem.run_pure]) hk
def isNilI : Value → Bool
  | .nilIface => true
  | _ => false
theorem r_eqlNilI {t t' : TypeId} {v : Value} {ms : Array (String × TypeId)} (hd : Nat.blt d n = true) (hx : ev E x = some v) (hv : v = .nilIface ∨ ∃ tp p, v = .iface tp p) (ht : P.underlying t = some (.interface ms))
    (hk : Run n w0 S ((d, .bool (isNilI v)) :: E) H (mix P dr ops K rest)) : Run n w0 S E H (mix P dr ops K (⟨some d, .binOp .eql t x (.const .nilIface) t', ty, pos, after, none⟩ :: rest)) := by
  rcases hv with rfl | ⟨tp, p, rfl⟩
  · exact r_bin hd hx rfl (fun w => by simp [eqGuard]) (fun w => by
      show (do pure (.bool (← Op.equalIn (9999 + 1) t .nilIface .nilIface)) : Sem Value).run P w = _
      unfold Op.equalIn
      simp [Sem.run_bind, run_underlying ht, isNilI]) hk
  · exact r_bin hd hx rfl (fun w => by simp [eqGuard]) (fun w => by
      show (do pure (.bool (← Op.equalIn (9999 + 1) t (.iface tp p) .nilIface)) : Sem Value).run P w = _
      unfold Op.equalIn
      simp [Sem.run_bind, run_underlying ht, isNilI]) hk
end
theorem count_nil {s : List UInt8} {er : Value} {v : Int} (hv : (er = .nilIface ∧ Lib.atoiAll s = .ok v) ∨ (∃ tp p, er = .iface tp p) ∧ ∀ v, Lib.atoiAll s ≠ .ok v) (h : isNilI er = true) : Lib.atoiAll s = .ok v := by
  rcases hv with ⟨_, h1⟩ | ⟨⟨tp, p, rfl⟩, _⟩
  · exact h1
  · cases h
theorem count_err {s : List UInt8} {er : Value} {v : Int} (hv : (er = .nilIface ∧ Lib.atoiAll s = .ok v) ∨ (∃ tp p, er = .iface tp p) ∧ ∀ v, Lib.atoiAll s ≠ .ok v) (h : isNilI er = false) : countN s = none := by
  rcases hv with ⟨rfl, _⟩ | ⟨_, h1⟩
  · cases h
  · unfold countN
    split
    · rename_i v2 h2
      exact absurd h2 (h1 v2)
    · rfl
theorem count_out {s : List UInt8} {v : Int} (h : Lib.atoiAll s = .ok v) (hn : ¬ (1 ≤ v ∧ v ≤ 65535 ∧ Lib.itoa v = s)) : countN s = none := by
  unfold countN
  rw [h]
  show (if _ then _ else _) = _
  rw [if_neg hn]
theorem count_in {s : List UInt8} {v : Int} (h : Lib.atoiAll s = .ok v) (hn : 1 ≤ v ∧ v ≤ 65535 ∧ Lib.itoa v = s) : countN s = some v.toNat := by
  unfold countN
  rw [h]
  show (if _ then _ else _) = _
  rw [if_pos hn]
theorem count_last {s : List UInt8} {v : Int} (h : Lib.atoiAll s = .ok v) (h1 : 1 ≤ v) (h2 : v ≤ 65535) : (countN s).isSome = decide (Lib.itoa v = s) := by
  by_cases e : Lib.itoa v = s
  · rw [count_in h ⟨h1, h2, e⟩, decide_eq_true e]; rfl
  · rw [count_out h fun h3 => e h3.2.2, decide_eq_false e]; rfl
theorem count_val {s : List UInt8} {v : Int} {n : Nat} (h : Lib.atoiAll s = .ok v) (hn : countN s = some n) : v = (n : Int) := by
  obtain ⟨_, h2, h3⟩ := countN_some hn
  have h4 := atoi_dec h2
  rw [h3, h] at h4
  injection h4
theorem len_snoc {α : Type} (l : List α) (x : α) : (l ++ [x]).length = l.length + 1 := by simp
theorem map_snoc (l : List (List UInt8)) (x : List UInt8) : (l ++ [x]).map txV = l.map txV ++ [txV x] := by simp
theorem take_snoc {s : List UInt8} {k : Nat} (h : k < s.length) : s.take (k + 1) = s.take k ++ [s[k]] := by
  rw [List.take_add_one, List.getElem?_eq_getElem h]
  rfl
theorem drop_split {s : List UInt8} {fr i : Nat} (h : fr ≤ i) (hi : i < s.length) (hc : s[i] = 32) : s.drop fr = (s.take i).drop fr ++ 32 :: s.drop (i + 1) := by
  have e1 : s = s.take i ++ s.drop i := (List.take_append_drop i s).symm
  have e2 : s.drop i = 32 :: s.drop (i + 1) := by rw [List.drop_eq_getElem_cons hi, hc]
  have hl : (s.take i).length = i := by rw [List.length_take]; omega
  rw [← e2]
  conv => lhs; rw [e1]
  rw [List.drop_append_of_le_length (by omega)]
theorem valD_lt : ∀ (k : Nat) (l : List UInt8), l.length = k → l.all digB = true → valD l < 10 ^ k
  | 0, l, hl, _ => by
    have : l = [] := List.eq_nil_of_length_eq_zero hl
    subst this
    exact Nat.one_pos
  | k + 1, l, hl, hd => by
    have hne : l ≠ [] := by intro e; subst e; simp at hl
    obtain ⟨t, c, rfl⟩ : ∃ t c, l = t ++ [c] := ⟨l.dropLast, l.getLast hne, (List.dropLast_concat_getLast hne).symm⟩
    have ht : t.length = k := by rw [List.length_append] at hl; simpa using hl
    rw [List.all_append, Bool.and_eq_true] at hd
    have hc : digB c = true := by simpa using hd.2
    have hc2 : 48 ≤ c.toNat ∧ c.toNat ≤ 57 := by simpa [digB] using hc
    have ih := valD_lt k t ht hd.1
    rw [valD_snoc, Nat.pow_succ]
    omega
theorem valD_lt5 {l : List UInt8} (h : l.length ≤ 5) (hd : l.all digB = true) : valD l < 100000 := by
  have h1 := valD_lt _ l rfl hd
  have h2 : (10 : Nat) ^ l.length ≤ 10 ^ 5 := Nat.pow_le_pow_right (by decide) h
  have e : (10 : Nat) ^ 5 = 100000 := by decide
  omega
theorem countN_empty {s : List UInt8} (h : s.length = 0) : countN s = none := by
  have : s = [] := List.eq_nil_of_length_eq_zero h
  subst this
  rfl
theorem countN_long {s : List UInt8} (h : 5 < s.length) : countN s = none := countN_none fun n _ h2 e => by
  have := dec_short (u := n) (k := 5) (by decide) (by have : (10 : Nat) ^ 5 = 100000 := by decide
                                                      omega)
  rw [e] at this
  omega
theorem countN_zero {s : List UInt8} (h0 : 0 < s.length) (h : s[0] = 48) : countN s = none := countN_none fun n h1 _ e => by
  obtain ⟨d, r, hd, e2, h3⟩ := dec_head n
  rw [e] at e2
  have e3 : s[0] = UInt8.ofNat (48 + d) := by simp only [e2, List.getElem_cons_zero]
  rw [h] at e3
  have h4 : ∀ d, d < 10 → (48 : UInt8) = UInt8.ofNat (48 + d) → d = 0 := by decide
  have := h4 d hd e3
  have := h3 h1
  omega
theorem countN_dig {s : List UInt8} {k : Nat} (hk : k < s.length) (h : (s[k]).toNat < 48 ∨ 57 < (s[k]).toNat) : countN s = none := countN_none fun n _ _ e => by
  have h1 := (dec_digs n).1
  rw [e, List.all_eq_true] at h1
  have h2 := h1 _ (List.getElem_mem hk)
  simp only [digB, Bool.and_eq_true, decide_eq_true_eq] at h2
  omega
theorem countN_big {s : List UInt8} {x : Nat} (hx : valD s = x) (h : 65535 < x) : countN s = none := countN_none fun n _ h2 e => by
  have h1 := (dec_digs n).2
  rw [e] at h1
  omega
theorem countN_good {s : List UInt8} {x : Nat} (h1 : 1 ≤ x) (h2 : x ≤ 65535) (h : Lib.decDigits x = s) : countN s = some x := by rw [← h]; exact countN_dec h1 h2


theorem count30 (s : List UInt8) (hs : s.length ≤ 1000000) (w : World) (hG : Glob30 w) :
    Calls Tryd.prog 42 #[.string (tx s)] w fun e w' => ∃ v : Int, e = .returned (.tuple #[.int .i64 v, .bool (countN s).isSome]) ∧ (∀ n, countN s = some n → v = (n : Int)) ∧ Sat w [] [] w' := by
  refine enter Tryd.func42 rfl rfl rfl ?_
  refine r_seq ?_
  refine r_region ?_
  refine r_assign rfl rfl ?_
  refine r_assign rfl rfl ?_
  refine r_nil ?_
  refine r_tn ?_
  refine r_seq ?_
  refine r_region ?_
  refine r_move rfl rfl ?_
  refine r_callx rfl rfl rfl (by kernel_rfl) rfl (fun w hw => by exact atoi30 s hs w (hG.keep hw)) ?_
  rintro ⟨v, er⟩ hv
  have hv : (er = .nilIface ∧ Lib.atoiAll s = .ok v) ∨ (∃ tp p, er = .iface tp p) ∧ ∀ v, Lib.atoiAll s ≠ .ok v := hv
  have her : er = .nilIface ∨ ∃ tp p, er = .iface tp p := hv.imp (fun h => h.1) (fun h => h.1)
  refine r_move rfl rfl ?_
  refine r_extract (v := .int .i64 v) rfl rfl rfl ?_
  refine r_extract (v := er) rfl rfl rfl ?_
  refine r_assign rfl rfl ?_
  refine r_assign rfl rfl ?_
  refine r_nil ?_
  refine r_tn ?_
  refine r_seq ?_
  refine r_region ?_
  refine r_move rfl rfl ?_
  refine r_move rfl rfl ?_
  refine r_eqlNilI rfl rfl her rfl ?_
  refine r_move rfl rfl ?_
  refine r_split 14 rfl (fun hb14 => ?_) (fun hb14 => ?_)
  · refine r_go rfl rfl ?_
    have hok := count_nil hv hb14
    obtain ⟨hv0, hv1⟩ := Lib.atoiAll_bounds hok
    refine r_move rfl rfl ?_
    refine r_go rfl rfl ?_
    refine r_geq (p := decide (1 ≤ v)) rfl rfl rfl rfl ?_
    refine r_pick_t rfl rfl rfl ?_
    refine r_move rfl rfl ?_
    refine r_split 18 rfl (fun hb18 => ?_) (fun hb18 => ?_)
    · refine r_go rfl rfl ?_
      refine r_move rfl rfl ?_
      refine r_go rfl rfl ?_
      refine r_leq (p := decide (v ≤ 65535)) rfl rfl rfl rfl ?_
      refine r_pick_t rfl rfl rfl ?_
      refine r_move rfl rfl ?_
      refine r_split 22 rfl (fun hb22 => ?_) (fun hb22 => ?_)
      · refine r_go rfl rfl ?_
        refine r_move rfl rfl ?_
        refine r_go rfl rfl ?_
        refine r_call rfl rfl rfl (by kernel_rfl) rfl (fun w hw => by exact itoa30 v (by omega) (by omega) w (hG.keep hw)) ?_
        refine r_go rfl rfl ?_
        refine r_move rfl rfl ?_
        refine r_go rfl rfl ?_
        refine r_eql_string (a := tx (Lib.itoa v)) (b := tx s) (p := decide (Lib.itoa v = s)) rfl rfl rfl (by rw [tx_list, tx_list]; exact Bool.beq_eq_decide_eq _ _) ?_
        refine r_pick_t rfl rfl rfl ?_
        refine r_assign rfl rfl ?_
        refine r_assign rfl rfl ?_
        refine r_nil ?_
        refine r_tn ?_
        refine r_ret ?_
        exact r_done2 (.inl rfl) rfl (res_tmp rfl) (res_tmp rfl) fun w hw => ⟨v, by rw [count_last hok (of_decide_eq_true hb18) (of_decide_eq_true hb22)], fun n h => count_val hok h, hw.clear⟩
      · refine r_pass rfl rfl rfl rfl ?_
        refine r_pass rfl rfl rfl rfl ?_
        refine r_pass rfl rfl rfl rfl ?_
        refine r_pass rfl rfl rfl rfl ?_
        refine r_pick_f rfl rfl rfl ?_
        refine r_assign rfl rfl ?_
        refine r_assign rfl rfl ?_
        refine r_nil ?_
        refine r_tn ?_
        refine r_ret ?_
        exact r_done2 (.inl rfl) rfl (res_tmp rfl) (res_tmp rfl) fun w hw => ⟨v, by rw [count_out hok fun h => of_decide_eq_false hb22 h.2.1]; rfl, fun n h => count_val hok h, hw.clear⟩
    · refine r_pass rfl rfl rfl rfl ?_
      refine r_pass rfl rfl rfl rfl ?_
      refine r_pick_f rfl rfl rfl ?_
      refine r_move rfl rfl ?_
      refine r_pass rfl rfl rfl rfl ?_
      refine r_pass rfl rfl rfl rfl ?_
      refine r_pass rfl rfl rfl rfl ?_
      refine r_pass rfl rfl rfl rfl ?_
      refine r_pick_f rfl rfl rfl ?_
      refine r_assign rfl rfl ?_
      refine r_assign rfl rfl ?_
      refine r_nil ?_
      refine r_tn ?_
      refine r_ret ?_
      exact r_done2 (.inl rfl) rfl (res_tmp rfl) (res_tmp rfl) fun w hw => ⟨v, by rw [count_out hok fun h => of_decide_eq_false hb18 h.1]; rfl, fun n h => count_val hok h, hw.clear⟩
  · refine r_pass rfl rfl rfl rfl ?_
    refine r_pass rfl rfl rfl rfl ?_
    refine r_pick_f rfl rfl rfl ?_
    refine r_move rfl rfl ?_
    refine r_pass rfl rfl rfl rfl ?_
    refine r_pass rfl rfl rfl rfl ?_
    refine r_pick_f rfl rfl rfl ?_
    refine r_move rfl rfl ?_
    refine r_pass rfl rfl rfl rfl ?_
    refine r_pass rfl rfl rfl rfl ?_
    refine r_pass rfl rfl rfl rfl ?_
    refine r_pass rfl rfl rfl rfl ?_
    refine r_pick_f rfl rfl rfl ?_
    refine r_assign rfl rfl ?_
    refine r_assign rfl rfl ?_
    refine r_nil ?_
    refine r_tn ?_
    refine r_ret ?_
    exact r_done2 (.inl rfl) rfl (res_tmp rfl) (res_tmp rfl) fun w hw => ⟨v, by rw [count_err hv hb14]; rfl, fun n h => (by rw [count_err hv hb14] at h; cases h), hw.clear⟩

theorem refCount30 (s : List UInt8) (w : World) :
    Calls Tryd.prog 27 #[.string (tx s)] w fun e w' => e = .returned (.int .i64 (((countN s).getD 0 : Nat) : Int)) ∧ Sat w [] [] w' := by
  refine enter Tryd.func27 rfl rfl rfl ?_
  refine r_seq ?_
  refine r_region ?_
  refine r_assign rfl rfl ?_
  refine r_nil ?_
  refine r_tn ?_
  refine r_seq ?_
  refine r_region ?_
  refine r_assign rfl rfl ?_
  refine r_nil ?_
  refine r_tn ?_
  refine r_seq ?_
  refine r_seq ?_
  refine r_region ?_
  refine r_move rfl rfl ?_
  refine r_lenStr rfl rfl rfl ?_
  refine r_eql (p := decide (s.length = 0)) rfl rfl rfl (by rw [tx_size]; exact decide_eq_decide.2 ⟨fun _ => by omega, fun _ => by omega⟩) ?_
  refine r_move rfl rfl ?_
  refine r_split 8 rfl (fun hb8 => ?_) (fun hb8 => ?_)
  · refine r_pass rfl rfl rfl rfl ?_
    refine r_pass rfl rfl rfl rfl ?_
    refine r_pass rfl rfl rfl rfl ?_
    refine r_pick_t rfl rfl rfl ?_
    refine r_move rfl rfl ?_
    refine r_pass rfl rfl rfl rfl ?_
    refine r_pass rfl rfl rfl rfl ?_
    refine r_pass rfl rfl rfl rfl ?_
    refine r_pick_t rfl rfl rfl ?_
    refine r_nil ?_
    refine r_tn ?_
    refine r_cond_t rfl ?_
    refine r_seq ?_
    refine r_region ?_
    refine r_assign rfl rfl ?_
    refine r_nil ?_
    refine r_tn ?_
    refine r_ret ?_
    refine r_tr ?_
    exact r_done1 (.inl rfl) rfl (res_tmp rfl) fun w hw => ⟨by rw [countN_empty (of_decide_eq_true hb8)]; rfl, hw.clear⟩
  · refine r_go rfl rfl ?_
    refine r_move rfl rfl ?_
    refine r_go rfl rfl ?_
    refine r_lenStr rfl rfl rfl ?_
    refine r_go rfl rfl ?_
    refine r_gtr (p := decide (5 < s.length)) rfl rfl rfl (by rw [tx_size]; exact decide_eq_decide.2 ⟨fun _ => by omega, fun _ => by omega⟩) ?_
    refine r_pick_f rfl rfl rfl ?_
    refine r_move rfl rfl ?_
    refine r_split 13 rfl (fun hb13 => ?_) (fun hb13 => ?_)
    · refine r_pass rfl rfl rfl rfl ?_
      refine r_pass rfl rfl rfl rfl ?_
      refine r_pass rfl rfl rfl rfl ?_
      refine r_pick_t rfl rfl rfl ?_
      refine r_nil ?_
      refine r_tn ?_
      refine r_cond_t rfl ?_
      refine r_seq ?_
      refine r_region ?_
      refine r_assign rfl rfl ?_
      refine r_nil ?_
      refine r_tn ?_
      refine r_ret ?_
      refine r_tr ?_
      exact r_done1 (.inl rfl) rfl (res_tmp rfl) fun w hw => ⟨by rw [countN_long (of_decide_eq_true hb13)]; rfl, hw.clear⟩
    · refine r_go rfl rfl ?_
      have hs1 : 0 < s.length := by
        have h := of_decide_eq_false hb8
        omega
      have hs5 : s.length ≤ 5 := by have h := of_decide_eq_false hb13; omega
      refine r_move rfl rfl ?_
      refine r_go rfl rfl ?_
      refine r_idxStr (i' := 0) (z := s[0]) rfl rfl rfl rfl rfl (tx_at s hs1) ?_
      refine r_go rfl rfl ?_
      refine r_eql (p := decide (s[0] = 48)) rfl rfl rfl (by rw [show (48 : Int) = (((48 : UInt8).toNat : Nat) : Int) from rfl]; exact decide_eq_decide.2 ⟨fun h => UInt8.toNat_inj.1 (by omega), fun h => by rw [h]⟩) ?_
      refine r_pick_f rfl rfl rfl ?_
      refine r_nil ?_
      refine r_tn ?_
      refine r_cond rfl (fun hc => ?_) (fun hc => ?_)
      · refine r_seq ?_
        refine r_region ?_
        refine r_assign rfl rfl ?_
        refine r_nil ?_
        refine r_tn ?_
        refine r_ret ?_
        refine r_tr ?_
        exact r_done1 (.inl rfl) rfl (res_tmp rfl) fun w hw => ⟨by rw [countN_zero hs1 (of_decide_eq_true hc)]; rfl, hw.clear⟩
      · refine r_skip ?_
        refine r_tn ?_
        refine r_seq ?_
        refine r_seq ?_
        refine r_region ?_
        refine r_assign rfl rfl ?_
        refine r_nil ?_
        refine r_tn ?_
        refine r_block ?_
        have hs0 : s[0] ≠ 48 := of_decide_eq_false hc
        clear hc
        refine r_loopN (fun k => [(0, .string (tx s)), (3, .int .i64 ((valD (s.take k) : Nat) : Int)), (4, .int .i64 (k : Int))]) (fun _ => []) (fun k => k ≤ s.length ∧ (s.take k).all digB = true) s.length 0 ⟨by omega, rfl⟩ ⟨rfl, rfl, rfl, trivial⟩ (fun w hw => hw.clear) fun k hk => ?_
        obtain ⟨hk, hdg⟩ := hk
        have hxl := valD_lt5 (show (s.take k).length ≤ 5 by rw [List.length_take]; omega) hdg
        obtain ⟨x, hx⟩ : ∃ x, valD (s.take k) = x := ⟨_, rfl⟩
        rw [hx] at hxl ⊢
        refine r_seq ?_
        refine r_seq ?_
        refine r_region ?_
        refine r_move rfl rfl ?_
        refine r_move rfl rfl ?_
        refine r_lenStr rfl rfl rfl ?_
        refine r_lss (p := decide (k < s.length)) rfl rfl rfl (by rw [tx_size]; exact decide_eq_decide.2 ⟨fun _ => by omega, fun _ => by omega⟩) ?_
        refine r_nil ?_
        refine r_tn ?_
        refine r_cond rfl (fun hc => ?_) (fun hc => ?_)
        · refine r_skip ?_
          refine r_tn ?_
          refine r_seq ?_
          refine r_block ?_
          refine r_seq ?_
          refine r_seq ?_
          refine r_region ?_
          have hk2 : k < s.length := of_decide_eq_true hc
          clear hc
          refine r_move rfl rfl ?_
          refine r_move rfl rfl ?_
          refine r_idxStr (i' := k) (z := s[k]) rfl rfl rfl rfl rfl (tx_at s hk2) ?_
          refine r_lss (p := decide ((s[k]).toNat < 48)) rfl rfl rfl (decide_eq_decide.2 ⟨fun _ => by omega, fun _ => by omega⟩) ?_
          refine r_move rfl rfl ?_
          refine r_split 28 rfl (fun hb28 => ?_) (fun hb28 => ?_)
          · refine r_pass rfl rfl rfl rfl ?_
            refine r_pass rfl rfl rfl rfl ?_
            refine r_pass rfl rfl rfl rfl ?_
            refine r_pass rfl rfl rfl rfl ?_
            refine r_pick_t rfl rfl rfl ?_
            refine r_nil ?_
            refine r_tn ?_
            refine r_cond_t rfl ?_
            refine r_seq ?_
            refine r_region ?_
            refine r_assign rfl rfl ?_
            refine r_nil ?_
            refine r_tn ?_
            refine r_ret ?_
            refine r_tr ?_
            refine r_br ?_
            refine r_tr ?_
            refine r_tr ?_
            refine r_br ?_
            refine r_tr ?_
            exact r_done1 (.inl rfl) rfl (res_tmp rfl) fun w hw => ⟨by rw [countN_dig hk2 (.inl (of_decide_eq_true hb28))]; rfl, hw.clear⟩
          · refine r_go rfl rfl ?_
            refine r_move rfl rfl ?_
            refine r_go rfl rfl ?_
            refine r_move rfl rfl ?_
            refine r_go rfl rfl ?_
            refine r_idxStr (i' := k) (z := s[k]) rfl rfl rfl rfl rfl (tx_at s hk2) ?_
            refine r_go rfl rfl ?_
            refine r_gtr (p := decide (57 < (s[k]).toNat)) rfl rfl rfl (decide_eq_decide.2 ⟨fun _ => by omega, fun _ => by omega⟩) ?_
            refine r_pick_f rfl rfl rfl ?_
            refine r_nil ?_
            refine r_tn ?_
            refine r_cond rfl (fun hc => ?_) (fun hc => ?_)
            · refine r_seq ?_
              refine r_region ?_
              refine r_assign rfl rfl ?_
              refine r_nil ?_
              refine r_tn ?_
              refine r_ret ?_
              refine r_tr ?_
              refine r_br ?_
              refine r_tr ?_
              refine r_tr ?_
              refine r_br ?_
              refine r_tr ?_
              exact r_done1 (.inl rfl) rfl (res_tmp rfl) fun w hw => ⟨by rw [countN_dig hk2 (.inr (of_decide_eq_true hc))]; rfl, hw.clear⟩
            · refine r_skip ?_
              refine r_tn ?_
              refine r_region ?_
              have hc48 : 48 ≤ (s[k]).toNat := by have h := of_decide_eq_false hb28; omega
              have hc57 : (s[k]).toNat ≤ 57 := by have h := of_decide_eq_false hc; omega
              clear hc
              have hdc : digB s[k] = true := by unfold digB; rw [decide_eq_true hc48, decide_eq_true hc57]; rfl
              refine r_move rfl rfl ?_
              refine r_mul (r := ((10 * x : Nat) : Int)) rfl rfl rfl ((w64 (by omega)).trans (by omega)) ?_
              refine r_move rfl rfl ?_
              refine r_move rfl rfl ?_
              refine r_idxStr (i' := k) (z := s[k]) rfl rfl rfl rfl rfl (tx_at s hk2) ?_
              refine r_convert (r := ((s[k]).toNat : Int)) rfl rfl rfl rfl (w64 (by omega)) ?_
              refine r_add rfl rfl rfl (w64 (by omega)) ?_
              refine r_sub (r := ((10 * x + ((s[k]).toNat - 48) : Nat) : Int)) rfl rfl rfl ((w64 (by omega)).trans (by omega)) ?_
              refine r_assign rfl rfl ?_
              refine r_nil ?_
              refine r_bn ?_
              refine r_tn ?_
              refine r_region ?_
              refine r_move rfl rfl ?_
              refine r_add rfl rfl rfl (w64 (by omega)) ?_
              refine r_assign rfl rfl ?_
              refine r_nil ?_
              refine r_tn ?_
              exact r_againN (k + 1) ⟨by omega, by rw [take_snoc hk2, List.all_append, hdg]; show (true && (digB _ && true)) = true; rw [hdc]; rfl⟩ (by omega) ⟨rfl, congrArg (fun z : Nat => some (Value.int .i64 (z : Int))) (by rw [take_snoc hk2, valD_snoc, hx]), rfl, trivial⟩ (fun w hw => hw.clear)
        · refine r_exit ?_
          refine r_te ?_
          refine r_te ?_
          refine r_be ?_
          refine r_tn ?_
          refine r_seq ?_
          refine r_seq ?_
          refine r_region ?_
          have hk3 : k = s.length := by have h : ¬ k < s.length := of_decide_eq_false hc; omega
          clear hc
          subst hk3
          rw [List.take_length] at hx hdg
          have hbk := dec_back (s.length - 1) s (by omega) hdg (by
            intro h
            apply hs0
            rw [List.head?_eq_getElem?, List.getElem?_eq_getElem hs1] at h
            exact Option.some.inj h)
          rw [hx] at hbk
          refine r_move rfl rfl ?_
          refine r_gtr (p := decide (65535 < x)) rfl rfl rfl (decide_eq_decide.2 ⟨fun _ => by omega, fun _ => by omega⟩) ?_
          refine r_nil ?_
          refine r_tn ?_
          refine r_cond rfl (fun hc => ?_) (fun hc => ?_)
          · refine r_seq ?_
            refine r_region ?_
            refine r_assign rfl rfl ?_
            refine r_nil ?_
            refine r_tn ?_
            refine r_ret ?_
            refine r_tr ?_
            exact r_done1 (.inl rfl) rfl (res_tmp rfl) fun w hw => ⟨by rw [countN_big hx (of_decide_eq_true hc)]; rfl, hw.clear⟩
          · refine r_skip ?_
            refine r_tn ?_
            refine r_seq ?_
            refine r_region ?_
            refine r_move rfl rfl ?_
            refine r_assign rfl rfl ?_
            refine r_nil ?_
            refine r_tn ?_
            refine r_ret ?_
            have hle : x ≤ 65535 := by have h := of_decide_eq_false hc; omega
            exact r_done1 (.inl rfl) rfl (res_tmp rfl) fun w hw => ⟨by rw [countN_good hbk.1 hle hbk.2]; rfl, hw.clear⟩

theorem refSplit30 (s : List UInt8) (hs : s.length ≤ 1000000) (w : World) :
    Calls Tryd.prog 26 #[.string (tx s)] w fun e w' => ∃ i : Option Addr × Nat, e = .returned (.slice i.1 (splitS s).length i.2) ∧ True ∧ Sat w [] [.own 9 1 (.slice i.1 (splitS s).length i.2) (splitS s).length ((splitS s).map txV)] w' := by
  refine enter Tryd.func26 rfl rfl rfl ?_
  refine r_seq ?_
  refine r_region ?_
  refine r_assign rfl rfl ?_
  refine r_nil ?_
  refine r_tn ?_
  refine r_seq ?_
  refine r_region ?_
  refine r_assign rfl rfl ?_
  refine r_nil ?_
  refine r_tn ?_
  refine r_seq ?_
  refine r_region ?_
  refine r_assign rfl rfl ?_
  refine r_nil ?_
  refine r_tn ?_
  refine r_seq ?_
  refine r_seq ?_
  refine r_region ?_
  refine r_assign rfl rfl ?_
  refine r_nil ?_
  refine r_tn ?_
  refine r_block ?_
  refine Run.ownNil 9 1 ?_
  refine r_loop4 (fun i (os : List (List UInt8)) (fr : Nat) A3 c3 => [(0, .string (tx s)), (3, .slice A3 os.length c3), (4, .int .i64 (fr : Int)), (5, .int .i64 (i : Int))]) (fun i (os : List (List UInt8)) (fr : Nat) A3 c3 => [.own 9 1 (.slice A3 (os).length c3) (os).length ((os).map txV)]) (fun i os fr A3 c3 => i ≤ s.length ∧ fr ≤ i ∧ (32 : UInt8) ∉ (s.take i).drop fr ∧ os ++ splitS (s.drop fr) = splitS s ∧ os.length ≤ i) s.length 0 [] 0 none 0 ⟨by omega, by omega, by simp, rfl, by simp⟩ ⟨rfl, rfl, rfl, rfl, trivial⟩ (fun w hw => by have h2 : Sat _ _ [.own 9 1 (.slice none 0 0) 0 []] w := hw.sub; exact h2) fun i os fr A3 c3 hp => ?_
  obtain ⟨hi, hfr, hno, hos, hol⟩ := hp
  refine r_seq ?_
  refine r_seq ?_
  refine r_region ?_
  refine r_move rfl rfl ?_
  refine r_move rfl rfl ?_
  refine r_lenStr rfl rfl rfl ?_
  refine r_lss (p := decide (i < s.length)) rfl rfl rfl (by rw [tx_size]; exact decide_eq_decide.2 ⟨fun _ => by omega, fun _ => by omega⟩) ?_
  refine r_nil ?_
  refine r_tn ?_
  refine r_cond rfl (fun hc => ?_) (fun hc => ?_)
  · refine r_skip ?_
    refine r_tn ?_
    refine r_seq ?_
    refine r_block ?_
    refine r_seq ?_
    refine r_region ?_
    have hi2 : i < s.length := of_decide_eq_true hc
    clear hc
    refine r_move rfl rfl ?_
    refine r_move rfl rfl ?_
    refine r_idxStr (i' := i) (z := s[i]) rfl rfl rfl rfl rfl (tx_at s hi2) ?_
    refine r_eql (p := decide (s[i] = 32)) rfl rfl rfl (by rw [show (32 : Int) = (((32 : UInt8).toNat : Nat) : Int) from rfl]; exact decide_eq_decide.2 ⟨fun h => UInt8.toNat_inj.1 (by omega), fun h => by rw [h]⟩) ?_
    refine r_nil ?_
    refine r_tn ?_
    refine r_cond rfl (fun hc => ?_) (fun hc => ?_)
    · refine r_seq ?_
      refine r_region ?_
      have h32 : s[i] = 32 := of_decide_eq_true hc
      refine r_move rfl rfl ?_
      refine r_move rfl rfl ?_
      refine r_move rfl rfl ?_
      refine r_move rfl rfl ?_
      refine r_partBoth (l' := fr) (h' := i) rfl rfl rfl rfl rfl rfl rfl (by rw [tx_size]; omega) hfr ?_
      rw [tx_extract]
      refine r_lit (sz := 1) (pv := [(0, txV ((s.take i).drop fr))]) (cells := #[txV ((s.take i).drop fr)]) rfl rfl rfl rfl rfl rfl (by kernel_rfl) rfl (fun b21 => ?_) (by decide)
      refine r_append (k := 1) (news := [txV ((s.take i).drop fr)]) (sz := 1) (bytes := 16) rfl rfl rfl rfl rfl rfl (by decide) (fun w hw => own_rd (A := some ⟨b21, 0, none⟩) (m := 1) (c := 1) hw) (by first | (simp; done) | (simp; omega)) (fun u hu => by simp at hu; first | (obtain ⟨x, _, rfl⟩ := hu; rfl) | (subst hu; rfl)) (by omega) (by unfold maxLen; omega) fun A22 c22 => ?_
      refine r_assign rfl rfl ?_
      refine r_nil ?_
      refine r_tn ?_
      refine r_region ?_
      refine r_move rfl rfl ?_
      refine r_add rfl rfl rfl (w64 (by omega)) ?_
      refine r_assign rfl rfl ?_
      refine r_nil ?_
      refine r_bn ?_
      refine r_tn ?_
      refine r_region ?_
      first
        | (have h32n : s[i] ≠ 32 := of_decide_eq_false hc
           refine r_move rfl rfl ?_)
        | refine r_move rfl rfl ?_
      refine r_add rfl rfl rfl (w64 (by omega)) ?_
      refine r_assign rfl rfl ?_
      refine r_nil ?_
      refine r_tn ?_
      first
        | exact r_again4 (i + 1) (os ++ [(s.take i).drop fr]) (i + 1) A22 c22 ⟨by omega, by omega, by simp, by rw [List.append_assoc, ← hos, drop_split hfr hi2 h32, splitS_at _ _ hno]; rfl, by rw [List.length_append]; simp only [List.length_cons, List.length_nil]; omega⟩ (by omega) ⟨rfl, by rw [len_snoc]; rfl, rfl, rfl, trivial⟩ (fun w hw => by rw [len_snoc, map_snoc]; exact hw.sub)
        | exact r_again4 (i + 1) os fr A3 c3 ⟨by omega, by omega, by rw [take_snoc hi2, List.drop_append_of_le_length (by rw [List.length_take]; omega)]; intro hm; rcases List.mem_append.1 hm with hm | hm; exact hno hm; exact h32n (List.mem_singleton.1 hm).symm, hos, by omega⟩ (by omega) ⟨rfl, rfl, rfl, rfl, trivial⟩ (fun w hw => hw.sub)
    · refine r_skip ?_
      refine r_bn ?_
      refine r_tn ?_
      refine r_region ?_
      first
        | (have h32n : s[i] ≠ 32 := of_decide_eq_false hc
           refine r_move rfl rfl ?_)
        | refine r_move rfl rfl ?_
      refine r_add rfl rfl rfl (w64 (by omega)) ?_
      refine r_assign rfl rfl ?_
      refine r_nil ?_
      refine r_tn ?_
      first
        | exact r_again4 (i + 1) (os ++ [(s.take i).drop fr]) (i + 1) A22 c22 ⟨by omega, by omega, by simp, by rw [List.append_assoc, ← hos, drop_split hfr hi2 h32, splitS_at _ _ hno]; rfl, by rw [List.length_append]; simp only [List.length_cons, List.length_nil]; omega⟩ (by omega) ⟨rfl, by rw [len_snoc]; rfl, rfl, rfl, trivial⟩ (fun w hw => by rw [len_snoc, map_snoc]; exact hw.sub)
        | exact r_again4 (i + 1) os fr A3 c3 ⟨by omega, by omega, by rw [take_snoc hi2, List.drop_append_of_le_length (by rw [List.length_take]; omega)]; intro hm; rcases List.mem_append.1 hm with hm | hm; exact hno hm; exact h32n (List.mem_singleton.1 hm).symm, hos, by omega⟩ (by omega) ⟨rfl, rfl, rfl, rfl, trivial⟩ (fun w hw => hw.sub)
  · refine r_exit ?_
    refine r_te ?_
    refine r_te ?_
    refine r_be ?_
    refine r_tn ?_
    refine r_seq ?_
    refine r_region ?_
    have hi3 : i = s.length := by have h : ¬ i < s.length := of_decide_eq_false hc; omega
    subst hi3
    rw [List.take_length] at hno
    rw [splitS_none _ hno] at hos
    refine r_move rfl rfl ?_
    refine r_move rfl rfl ?_
    refine r_move rfl rfl ?_
    refine r_partLo (l' := fr) rfl rfl rfl rfl rfl (by rw [tx_size]; omega) ?_
    rw [tx_size, tx_extract, List.take_length]
    refine r_lit (sz := 1) (pv := [(0, txV (s.drop fr))]) (cells := #[txV (s.drop fr)]) rfl rfl rfl rfl rfl rfl (by kernel_rfl) rfl (fun b29 => ?_) (by decide)
    refine r_append (k := 1) (news := [txV (s.drop fr)]) (sz := 1) (bytes := 16) rfl rfl rfl rfl rfl rfl (by decide) (fun w hw => own_rd (A := some ⟨b29, 0, none⟩) (m := 1) (c := 1) hw) (by first | (simp; done) | (simp; omega)) (fun u hu => by simp at hu; first | (obtain ⟨x, _, rfl⟩ := hu; rfl) | (subst hu; rfl)) (by omega) (by unfold maxLen; omega) fun A30 c30 => ?_
    refine r_assign rfl rfl ?_
    refine r_nil ?_
    refine r_tn ?_
    refine r_ret ?_
    exact r_done1 (.inl rfl) rfl (res_tmp rfl) fun w hw => ⟨(A30, c30), by rw [← hos, len_snoc], trivial, by rw [← hos, len_snoc, map_snoc]; exact hw.sub⟩
end Go.Proofs.YtghjbnbkfohmlaaDoor
