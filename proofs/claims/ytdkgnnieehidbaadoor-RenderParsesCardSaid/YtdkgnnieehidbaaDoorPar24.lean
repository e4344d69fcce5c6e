/-
  Rendering (chapter 24): RenderParses.
-/
import Derived.Test.YtdkgnnieehidbaaDoorRefC24
namespace Go.Proofs.YtdkgnnieehidbaaDoor
open Go Go.RowKit
set_option linter.unusedVariables false
set_option linter.unusedSimpArgs false
set_option maxHeartbeats 2000000
set_option maxRecDepth 4000
attribute [local irreducible] mix

theorem wf8 {z : Int} (h : (Lit.int .u8 z).wf = true) : 0 ≤ z ∧ z ≤ 255 := by
  simpa [Lit.wf, IntKind.min, IntKind.max, IntKind.signed, IntKind.bits] using h


theorem lrow_set (P : Nat → Nat → Nat → Bool) (hires : Bool) (k : Nat) (s : ByteArray) : ((List.range (ht hires)).map fun y => Value.string (tx (lineB P hires y))).set k (.string s) = ((linesL P hires).set k s.data.toList).map txV := by
  rw [lrow_map, List.map_set]
  rfl
def pP (ls : List (List UInt8)) : Nat → Nat → Nat → Bool := if parseOK ls then linesP ls else fun _ => noneQ
def pH (ls : List (List UInt8)) : Bool := if parseOK ls then hiL ls else false
def pE (ls : List (List UInt8)) : Int := if parseOK ls then 0 else 6
def pA (ls : List (List UInt8)) (i : RefIx) : Option Addr := if parseOK ls then some ⟨i.a, 0, none⟩ else none
def pN (ls : List (List UInt8)) : Nat := if parseOK ls then 4 else 0
def pC (ls : List (List UInt8)) (i : RefIx) : Nat := if parseOK ls then i.c else 0
section
variable {ls : List (List UInt8)} {i : RefIx}
theorem pP_no (h : parseOK ls = false) : pP ls = fun _ => noneQ := by unfold pP; rw [h]; rfl
theorem pH_no (h : parseOK ls = false) : pH ls = false := by unfold pH; rw [h]; rfl
theorem pE_no (h : parseOK ls = false) : pE ls = 6 := by unfold pE; rw [h]; rfl
theorem pA_no (h : parseOK ls = false) : pA ls i = none := by unfold pA; rw [h]; rfl
theorem pN_no (h : parseOK ls = false) : pN ls = 0 := by unfold pN; rw [h]; rfl
theorem pC_no (h : parseOK ls = false) : pC ls i = 0 := by unfold pC; rw [h]; rfl
theorem pP_yes (h : parseOK ls = true) : pP ls = linesP ls := by unfold pP; rw [h]; rfl
theorem pH_yes (h : parseOK ls = true) : pH ls = hiL ls := by unfold pH; rw [h]; rfl
theorem pE_yes (h : parseOK ls = true) : pE ls = 0 := by unfold pE; rw [h]; rfl
theorem pA_yes (h : parseOK ls = true) : pA ls i = some ⟨i.a, 0, none⟩ := by unfold pA; rw [h]; rfl
theorem pN_yes (h : parseOK ls = true) : pN ls = 4 := by unfold pN; rw [h]; rfl
theorem pC_yes (h : parseOK ls = true) : pC ls i = i.c := by unfold pC; rw [h]; rfl
end
theorem parseV_p (ls : List (List UInt8)) : parseV ls = .tuple #[.agg (planesV (pP ls)), .bool (pH ls), .int .i64 (pE ls)] := by
  cases h : parseOK ls
  · rw [parseV_no h, pP_no h, pH_no h, pE_no h]
  · rw [parseV_yes h, pP_yes h, pH_yes h, pE_yes h]
theorem parseR_p (ls : List (List UInt8)) (i : RefIx) : parseR ls i = .tuple #[.slice (pA ls i) (pN ls) (pC ls i), .bool (pH ls), .bool (parseOK ls)] := by
  cases h : parseOK ls
  · rw [parseR_no h, pA_no h, pN_no h, pC_no h, pH_no h]
  · rw [parseR_yes h, pA_yes h, pN_yes h, pC_yes h, pH_yes h]
theorem parse24P (A : Option Addr) (c : Nat) (ls : List (List UInt8)) (hlm : ls.length ≤ 1000000) (w : World) (hR : Rd w A (ls.map txV)) : Calls Tryd.prog 21 #[.slice A ls.length c] w fun e w' => e = .returned (.tuple #[.agg (planesV (pP ls)), .bool (pH ls), .int .i64 (pE ls)]) ∧ Sat w [] [] w' := by
  rw [← parseV_p]
  exact parse24 A c ls hlm w hR
theorem refParse24P (A : Option Addr) (c : Nat) (ls : List (List UInt8)) (hlm : ls.length ≤ 1000000) (w : World) (hR : Rd w A (ls.map txV)) :
    Calls Tryd.prog 22 #[.slice A ls.length c] w fun e w' => ∃ i : RefIx, e = .returned (.tuple #[.slice (pA ls i) (pN ls) (pC ls i), .bool (pH ls), .bool (parseOK ls)]) ∧ (parseOK ls = true → ∀ w1, OkAll i.R w1 → Rd w1 (some ⟨i.a, 0, none⟩) (plS4 i.f 4) ∧ ∀ j, j < 4 → Rd w1 (some ⟨i.f j, 0, none⟩) (boolsN 8192 (flatP (linesP ls j)))) ∧ Sat w [] i.R w' :=
  (refParse24 A c ls hlm w hR).mono fun e w' ⟨i, he, h1, h2⟩ => ⟨i, by rw [← parseR_p]; exact he, h1, h2⟩
theorem parse_get {ls : List (List UInt8)} (h : parseOK ls = true) : ls.length = ht (hiL ls) ∧ ∀ y (hy : y < ls.length), okLine (wd (hiL ls)) ls[y] = true := by
  unfold parseOK at h
  rw [Bool.and_eq_true] at h
  exact ⟨of_decide_eq_true h.1, fun y hy => List.all_eq_true.1 h.2 _ (List.getElem_mem hy)⟩
theorem okLine_get {w : Nat} {l : List UInt8} (h : okLine w l = true) : l.length = w ∧ ∀ x (hx : x < l.length), 0 ≤ valB l[x] := by
  unfold okLine at h
  rw [Bool.and_eq_true] at h
  exact ⟨of_decide_eq_true h.1, fun x hx => of_decide_eq_true (List.all_eq_true.1 h.2 _ (List.getElem_mem hx))⟩
theorem parse_lenh {ls : List (List UInt8)} (h : parseOK ls = true) : ls.length = ht (hiL ls) := (parse_get h).1
/-- the lines of what was parsed are these lines -/
theorem parse_self {ls : List (List UInt8)} (h : parseOK ls = true) : linesL (linesP ls) (hiL ls) = ls := by
  obtain ⟨h1, h2⟩ := parse_get h
  apply List.ext_getElem (by rw [linesL_len, h1])
  intro y hy1 hy
  rw [linesL_at]
  obtain ⟨h3, h4⟩ := okLine_get (h2 y hy)
  apply List.ext_getElem (by rw [lineB_len, h3])
  intro x hx1 hx
  rw [lineB_at]
  obtain ⟨n, hn, hn2⟩ : ∃ n, n < 16 ∧ ((chN n : Nat) : Int) = ((ls[y][x]).toNat : Int) ∧ valB ls[y][x] = n := by
    rcases valR_cases ((ls[y][x]).toNat : Int) with ⟨n, e1, e2, e3⟩ | e
    · exact ⟨n, e1, e2, e3⟩
    · have e2 : valB ls[y][x] = -1 := e
      have := h4 x hx
      omega
  have hw : wd (hiL ls) ≤ 128 := by cases hiL ls <;> decide
  have hh : ht (hiL ls) ≤ 64 := by cases hiL ls <;> decide
  have hcol : colN (linesP ls) x y = n := by
    unfold colN
    refine (num_ext (m := 4) hn fun i hi => ?_).symm
    rw [pixQ_nat _ (show x < 128 by omega) (show y < 64 by omega)]
    exact (bq_at hy hx (by omega) hn2.2 i).symm
  rw [hcol]
  apply UInt8.toNat_inj.1
  have := chN_u8 n hn
  omega
attribute [local irreducible] planesV parseV parseR pP pH pE pA pN pC pQ stQ bq linesP valB boolsN plS4 lineB linesL recOf


theorem RenderParses_walk (c : Card) (y : Int) (s : ByteArray) (n : Int) (hc0 : okC c) (hcb : ∀ z ∈ c.pat, 0 ≤ z ∧ z ≤ 255) (hcp : 0 ≤ c.pitch ∧ c.pitch ≤ 255) (hy : (Lit.int .u8 y).wf = true) (hs : s.size ≤ maxLen) (hn : (Lit.int .u8 n).wf = true) (w : World) (hG : Globs w) :
    Calls Tryd.prog 5 #[.agg (cardV c), .int .u8 y, .string s, .int .u8 n] w fun e w' => e = .returned (.bool true) ∧ Sat w [] [] w' := by
  have hy : 0 ≤ y ∧ y ≤ 255 := wf8 hy
  have hn : 0 ≤ n ∧ n ≤ 255 := wf8 hn
  refine enter Tryd.func5 rfl rfl rfl ?_
  refine r_seq ?_
  refine r_region ?_
  refine r_boxV rfl rfl fun b4 => ?_
  refine r_assign rfl rfl ?_
  refine r_nil ?_
  refine r_tn ?_
  refine r_seq ?_
  refine r_seq ?_
  refine r_region ?_
  refine r_call rfl rfl rfl (by kernel_rfl) rfl (fun w hw => by exact awake24 w (hG.keep hw)) ?_
  refine r_not rfl rfl rfl ?_
  refine r_move rfl rfl ?_
  refine r_go rfl rfl ?_
  refine r_move rfl rfl ?_
  refine r_go rfl rfl ?_
  refine r_lenStr rfl rfl rfl ?_
  refine r_go rfl rfl ?_
  refine r_gtr (p := decide (300 < s.size)) rfl rfl rfl (decide_eq_decide.2 ⟨fun _ => by omega, fun _ => by omega⟩) ?_
  refine r_pick_f rfl rfl rfl ?_
  refine r_nil ?_
  refine r_tn ?_
  refine r_cond rfl (fun hc => ?_) (fun hc => ?_)
  · refine r_seq ?_
    refine r_region ?_
    refine r_call rfl rfl rfl (by kernel_rfl) rfl (fun w hw => by exact awake24 w (hG.keep hw)) ?_
    refine r_assign rfl rfl ?_
    refine r_nil ?_
    refine r_tn ?_
    refine r_ret ?_
    refine r_tr ?_
    exact r_done1 (.inl rfl) rfl (res_tmp rfl) fun w hw => ⟨rfl, hw.clear⟩
  · refine r_skip ?_
    refine r_tn ?_
    refine r_seq ?_
    refine r_region ?_
    clear hc
    refine r_loadV rfl rfl rfl rfl (cardV_size hc0) ?_
    refine r_callx rfl rfl rfl (by kernel_rfl) rfl (fun w hw => by exact of23 c hc0 w) ?_
    rintro i hi
    refine Run.less (fun w hw => by have h1 := hw.perm List.perm_append_comm; simp only [List.nil_append, List.cons_append, List.append_assoc] at h1; exact h1) ?_
    obtain ⟨r, hr⟩ : ∃ r, recOf c = r := ⟨_, rfl⟩
    rw [hr] at hi ⊢
    refine r_allocV (cs := #[.slice none 0 0, .bool false, .bool false, .slice none 0 0, .int .u8 0, .int .i64 0, .int .i64 0, .int .i64 0, .int .i64 0]) (by kernel_rfl) rfl fun b9 => ?_
    refine r_storeV rfl rfl rfl rfl rfl rfl ?_
    refine r_nil ?_
    refine r_tn ?_
    refine r_seq ?_
    refine r_region ?_
    refine r_fieldAddr (off := 0) (o' := 0) rfl rfl rfl rfl ?_
    refine r_load1 rfl rfl rfl (by rfl) ?_
    refine r_fieldAddr (off := 1) (o' := 1) rfl rfl rfl rfl ?_
    refine r_load1 (v := .bool r.hires) rfl rfl rfl rfl ?_
    refine r_callx rfl rfl rfl (by kernel_rfl) rfl (fun w hw => by exact refLines24 r.P r.hires i.a i.c i.f w (hi w (fun x hx => hw.ok x (by simp [hx]))).1 (hi w (fun x hx => hw.ok x (by simp [hx]))).2.2) ?_
    rintro ⟨A31, c31⟩ _
    refine r_assign rfl rfl ?_
    refine r_nil ?_
    refine r_tn ?_
    refine r_seq ?_
    refine r_region ?_
    have hht : ht r.hires ≤ 64 ∧ 0 < ht r.hires := by cases r.hires <;> decide
    refine r_have (fun w hw => own_some (A := A31) (m := ht r.hires) (c := c31) hw hht.2) fun hg => ?_
    obtain ⟨g, rfl⟩ := hg
    refine r_have (fun w hw => own_le (A := (some ⟨g, 0, none⟩)) (m := ht r.hires) (c := c31) hw) fun hle => ?_
    obtain ⟨yn, hyn⟩ : ∃ yn : Nat, y = yn := ⟨y.toNat, by omega⟩
    obtain ⟨nn, hnn⟩ : ∃ nn : Nat, n = nn := ⟨n.toNat, by omega⟩
    subst hyn
    subst hnn
    have hyh : yn % ht r.hires < ht r.hires := Nat.mod_lt _ hht.2
    refine r_move rfl rfl ?_
    refine r_move rfl rfl ?_
    refine r_convert (r := (yn : Int)) rfl rfl rfl rfl (w64 (by omega)) ?_
    refine r_move rfl rfl ?_
    refine r_len rfl rfl rfl ?_
    refine r_rem (r := ((yn % ht r.hires : Nat) : Int)) rfl rfl rfl (by omega) rfl ?_
    refine r_move rfl rfl ?_
    refine r_indexSl (sz := 1) (o' := yn % ht r.hires) rfl rfl rfl rfl rfl (by omega) (by omega) (by omega) ?_
    refine r_storeOwn (m := ht r.hires) (c := c31) rfl rfl rfl rfl rfl hyh ?_
    rw [lrow_set]
    refine r_nil ?_
    refine r_tn ?_
    refine r_seq ?_
    refine r_region ?_
    refine r_move rfl rfl ?_
    refine r_move rfl rfl ?_
    refine r_len rfl rfl rfl ?_
    refine r_move rfl rfl ?_
    refine r_convert (r := (nn : Int)) rfl rfl rfl rfl (w64 (by omega)) ?_
    refine r_rem (r := ((nn % 2 : Nat) : Int)) rfl rfl rfl (by decide) rfl ?_
    refine r_sub (r := ((ht r.hires - nn % 2 : Nat) : Int)) rfl rfl rfl ((w64 (by omega)).trans (by omega)) ?_
    refine r_sliceHi (cap := c31) (h' := ht r.hires - nn % 2) rfl rfl rfl rfl rfl rfl (by omega) ?_
    refine Run.ownTake (.slice (some ⟨g, 0, none⟩) (ht r.hires) c31) rfl (show ht r.hires - nn % 2 ≤ ht r.hires by omega) ?_
    rw [Nat.mul_one, ← List.map_take]
    obtain ⟨m2, hm2⟩ : ∃ m2, ht r.hires - nn % 2 = m2 := ⟨_, rfl⟩
    obtain ⟨ls, hls⟩ : ∃ ls, ((linesL r.P r.hires).set (yn % ht r.hires) s.data.toList).take (ht r.hires - nn % 2) = ls := ⟨_, rfl⟩
    have hll : ls.length = m2 := by rw [← hls, List.length_take, List.length_set, linesL_len]; omega
    have hl64 : m2 ≤ 64 := by omega
    rw [hls, hm2]
    clear hls hm2
    subst hll
    refine r_assign rfl rfl ?_
    refine r_nil ?_
    refine r_tn ?_
    refine r_seq ?_
    refine r_region ?_
    refine r_move rfl rfl ?_
    refine r_call rfl rfl rfl (by kernel_rfl) rfl (fun w hw => by exact parse24P (some ⟨g, 0, none⟩) c31 ls (by omega) w (own_rd (A := (some ⟨g, 0, none⟩)) (m := ls.length) (c := c31) hw)) ?_
    refine r_move rfl rfl ?_
    refine r_extract rfl rfl rfl ?_
    refine r_extract rfl rfl rfl ?_
    refine r_extract rfl rfl rfl ?_
    refine r_allocV (cs := planesV (fun _ => noneQ)) zero46 rfl fun b11 => ?_
    refine r_storeV rfl rfl rfl (planesV_size _) (planesV_size _) (planesV_one _) ?_
    refine r_assign rfl rfl ?_
    refine r_assign rfl rfl ?_
    refine r_nil ?_
    refine r_tn ?_
    refine r_seq ?_
    refine r_region ?_
    refine r_move rfl rfl ?_
    refine r_callx rfl rfl rfl (by kernel_rfl) rfl (fun w hw => by exact refParse24P (some ⟨g, 0, none⟩) c31 ls (by omega) w (own_rd (A := (some ⟨g, 0, none⟩)) (m := ls.length) (c := c31) hw)) ?_
    rintro j hj
    refine Run.less (fun w hw => by have h1 := hw.perm List.perm_append_comm; simp only [List.nil_append, List.cons_append, List.append_assoc] at h1; exact h1) ?_
    refine r_move rfl rfl ?_
    refine r_extract rfl rfl rfl ?_
    refine r_extract rfl rfl rfl ?_
    refine r_extract rfl rfl rfl ?_
    refine r_assign rfl rfl ?_
    refine r_assign rfl rfl ?_
    refine r_assign rfl rfl ?_
    refine r_nil ?_
    refine r_tn ?_
    refine r_seq ?_
    refine r_seq ?_
    refine r_region ?_
    refine r_move rfl rfl ?_
    refine r_not rfl rfl rfl ?_
    refine r_nil ?_
    refine r_tn ?_
    refine r_cond rfl (fun hc => ?_) (fun hc => ?_)
    · refine r_seq ?_
      refine r_region ?_
      have hpo : parseOK ls = false := by simpa using hc
      clear hc
      rw [pP_no hpo, pH_no hpo, pE_no hpo]
      refine r_move rfl rfl ?_
      refine r_eql (p := true) rfl rfl rfl rfl ?_
      refine r_move rfl rfl ?_
      refine r_go rfl rfl ?_
      refine r_loadV rfl rfl rfl rfl (planesV_size _) ?_
      refine r_go rfl rfl ?_
      refine r_build (cells := planesV (fun _ => noneQ)) rfl rfl build46 ?_
      refine r_go rfl rfl ?_
      refine r_eqlAgg (p := true) rfl rfl rfl p46Flat (p46_ok _) (p46_ok _) (p46_self _) ?_
      refine r_pick_t rfl rfl rfl ?_
      refine r_move rfl rfl ?_
      refine r_go rfl rfl ?_
      refine r_move rfl rfl ?_
      refine r_go rfl rfl ?_
      refine r_not rfl rfl rfl ?_
      refine r_pick_t rfl rfl rfl ?_
      refine r_assign rfl rfl ?_
      refine r_nil ?_
      refine r_tn ?_
      refine r_ret ?_
      refine r_tr ?_
      exact r_done1 (.inl rfl) rfl (res_tmp rfl) fun w hw => ⟨rfl, hw.clear⟩
    · refine r_skip ?_
      refine r_tn ?_
      refine r_seq ?_
      have hpo : parseOK ls = true := by simpa using hc
      clear hc
      rw [pP_yes hpo, pH_yes hpo, pE_yes hpo, pA_yes hpo, pN_yes hpo, pC_yes hpo]
      refine r_mixedD { xb := [], rb := [b11], rs := [76], fs := [], acs := [78] } (by kernel_rfl) (by kernel_rfl) (fun w hw k hk => by
        simp only [List.mem_cons, List.not_mem_nil, or_false] at hk
        rcases hk with rfl <;> exact Sat.lt hw) ?_
      refine r_move rfl rfl ?_
      refine r_eql (p := true) rfl rfl rfl rfl ?_
      refine r_move rfl rfl ?_
      refine r_go rfl rfl ?_
      refine r_loadV rfl rfl rfl rfl (planesV_size _) ?_
      refine r_go rfl rfl ?_
      refine r_move rfl rfl ?_
      refine r_go rfl rfl ?_
      refine r_call rfl rfl rfl (by kernel_rfl) rfl (fun w hw => by exact forward24 (linesP ls) j.a j.c j.f w (hj hpo w (fun x hx => hw.ok x (by simp [hx]))).1 (hj hpo w (fun x hx => hw.ok x (by simp [hx]))).2) ?_
      refine r_go rfl rfl ?_
      refine r_eqlAgg (p := true) rfl rfl rfl p46Flat (p46_ok _) (p46_ok _) (p46_self _) ?_
      refine r_pick_t rfl rfl rfl ?_
      refine r_move rfl rfl ?_
      refine r_go rfl rfl ?_
      refine r_move rfl rfl ?_
      refine r_go rfl rfl ?_
      refine r_move rfl rfl ?_
      refine r_go rfl rfl ?_
      refine r_eql_bool (p := true) rfl rfl rfl rfl (by rw [beq_self_eq_true]) ?_
      refine r_pick_t rfl rfl rfl ?_
      refine r_move rfl rfl ?_
      refine r_go rfl rfl ?_
      refine r_loadV rfl rfl rfl rfl (planesV_size _) ?_
      refine r_go rfl rfl ?_
      refine r_move rfl rfl ?_
      refine r_go rfl rfl ?_
      refine r_callx rfl rfl rfl (by kernel_rfl) rfl (fun w hw => by exact lines24 (linesP ls) (hiL ls) w) ?_
      rintro b89 _
      refine r_go rfl rfl ?_
      refine r_move rfl rfl ?_
      refine r_go rfl rfl ?_
      refine r_call rfl rfl rfl (by kernel_rfl) rfl (fun w hw => by exact (by have h := refTexts24 ls (by omega) (some ⟨b89, 0, none⟩) (some ⟨g, 0, none⟩) ls.length c31 w (by have h1 := own_rd (A := some ⟨b89, 0, none⟩) (m := ht (hiL ls)) (c := ht (hiL ls)) hw; rw [lrow_map, parse_self hpo] at h1; exact h1) (own_rd (A := (some ⟨g, 0, none⟩)) (m := ls.length) (c := c31) hw); rw [← parse_lenh hpo]; exact h)) ?_
      refine r_pick_t rfl rfl rfl ?_
      refine r_assign rfl rfl ?_
      refine r_nil ?_
      refine r_tn ?_
      refine r_ret ?_
      exact r_done1 (.inl rfl) rfl (res_tmp rfl) fun w hw => ⟨rfl, hw.clear⟩
end Go.Proofs.YtdkgnnieehidbaaDoor
