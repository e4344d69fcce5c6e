/-
  Rendering (chapter 24): the reference s Parse.
-/
import Derived.Test.YtdkgnnieehidbaaDoorMat24
namespace Go.Proofs.YtdkgnnieehidbaaDoor
open Go Go.RowKit
set_option linter.unusedVariables false
set_option linter.unusedSimpArgs false
set_option maxHeartbeats 2000000
set_option maxRecDepth 4000
attribute [local irreducible] mix

theorem rd_lt2 {w0 w2 : World} {b o : Nat} {xs : List Value} {H : List Res} (h : Rd w0 (some ⟨b, o, none⟩) xs) {k : Nat} {u : Value} (hk : xs[k]? = some u) (hw : Sat w0 [] H w2) : b < w2.heap.size := World.block_lt_of_cell? _ _ ((h.keep hw).cell hk rfl)
theorem chN_u8 : ∀ k, k < 16 → (((UInt8.ofNat (chN k)).toNat : Nat) : Int) = ((chN k : Nat) : Int) := by decide
theorem len_bad {ls : List (List UInt8)} (h1 : ls.length ≠ 32) (h2 : ls.length ≠ 64) : ls.length ≠ ht (hiL ls) := by cases hiL ls <;> assumption
theorem len_ok64 {ls : List (List UInt8)} (h : ¬ ls.length ≠ 64) : ls.length = ht (hiL ls) := by
  have h : ls.length = 64 := by omega
  have e : hiL ls = true := decide_eq_true h
  rw [e]; exact h
theorem len_ok32 {ls : List (List UInt8)} (h : ¬ ls.length ≠ 32) : ls.length = ht (hiL ls) := by
  have h : ls.length = 32 := by omega
  have e : hiL ls = false := decide_eq_false (by omega)
  rw [e]; exact h
theorem valB_def (z : UInt8) : valB z = valR (z.toNat : Int) := rfl
theorem plS4_zero (f : Nat → Nat) : plS4 f 0 = [] := rfl
/-- the planes as rows of the call's own -/
def plR (f : Nat → Nat) (Q : Nat → Nat → Bool) (k : Nat) : List Res := (List.range k).map fun j => .own 4 1 (.slice (some ⟨f j, 0, none⟩) 8192 8192) 8192 (boolsN 8192 (Q j))
theorem plR_zero (f : Nat → Nat) (Q : Nat → Nat → Bool) : plR f Q 0 = [] := rfl
theorem plR_congr {f : Nat → Nat} {Q Q' : Nat → Nat → Bool} (h : ∀ j, j < 4 → ∀ z, z < 8192 → Q j z = Q' j z) : plR f Q 4 = plR f Q' 4 := by
  unfold plR
  apply List.map_congr_left
  intro j hj
  rw [boolsN_congr (h j (List.mem_range.1 hj))]
theorem plR_snoc (f : Nat → Nat) (k b : Nat) : (.own 4 1 (.slice (some ⟨b, 0, none⟩) 8192 8192) 8192 (boolsN 8192 fun _ => false) :: plR f (fun _ _ => false) k : List Res).Perm (plR (setF f k b) (fun _ _ => false) (k + 1)) := by
  have e : plR (setF f k b) (fun _ _ => false) (k + 1) = plR f (fun _ _ => false) k ++ [.own 4 1 (.slice (some ⟨b, 0, none⟩) 8192 8192) 8192 (boolsN 8192 fun _ => false)] := by
    unfold plR setF
    rw [List.range_succ, List.map_append]
    congr 1
    · apply List.map_congr_left
      intro j hj
      have hj := List.mem_range.1 hj
      show Res.own _ _ (.slice (some ⟨if j = k then b else f j, 0, none⟩) 8192 8192) _ _ = _
      rw [if_neg (by omega)]
    · simp
  rw [e]
  exact List.perm_append_comm (l₁ := [_])
def restR (f : Nat → Nat) (Q : Nat → Nat → Bool) (k : Nat) : List Res := ((List.range 4).erase k).map fun j => .own 4 1 (.slice (some ⟨f j, 0, none⟩) 8192 8192) 8192 (boolsN 8192 (Q j))
theorem plR_pick (f : Nat → Nat) (Q : Nat → Nat → Bool) {k : Nat} (hk : k < 4) (x : Res) : (x :: plR f Q 4).Perm (.own 4 1 (.slice (some ⟨f k, 0, none⟩) 8192 8192) 8192 (boolsN 8192 (Q k)) :: x :: restR f Q k) :=
  (((List.perm_cons_erase (List.mem_range.2 hk)).map fun j => Res.own 4 1 (.slice (some ⟨f j, 0, none⟩) 8192 8192) 8192 (boolsN 8192 (Q j))).cons x).trans (List.Perm.swap _ _ _)
theorem plR_mem (f : Nat → Nat) (Q : Nat → Nat → Bool) {j : Nat} (hj : j < 4) : Res.own 4 1 (.slice (some ⟨f j, 0, none⟩) 8192 8192) 8192 (boolsN 8192 (Q j)) ∈ plR f Q 4 := List.mem_map.2 ⟨j, List.mem_range.2 hj, rfl⟩
theorem plR_rest {f : Nat → Nat} {ls : List (List UInt8)} {y x k : Nat} : restR f (fun j => flatP (stQ ls y x k j)) k = restR f (fun j => flatP (stQ ls y x (k + 1) j)) k := by
  unfold restR
  apply List.map_congr_left
  intro j hj
  have hne : j ≠ k := (List.Nodup.mem_erase_iff List.nodup_range).1 hj |>.1
  have e : stQ ls y x k j = stQ ls y x (k + 1) j := by
    unfold stQ
    by_cases h : j < k
    · rw [if_pos h, if_pos (by omega)]
    · rw [if_neg h, if_neg (by omega)]
  show Res.own _ _ _ _ (boolsN 8192 (flatP (stQ ls y x k j))) = _
  rw [e]
theorem plR_set {ls : List (List UInt8)} {y x k n : Nat} (hb : bq ls k y x = n.testBit k) (hx : x < 128) : (boolsN 8192 (flatP (stQ ls y x k k))).set (128 * y + x) (.bool (n.testBit k)) = boolsN 8192 (flatP (stQ ls y x (k + 1) k)) := by
  rw [boolsN_set]
  apply boolsN_congr
  intro z hz
  have e1 : stQ ls y x k k = pQ ls y x k := by unfold stQ; rw [if_neg (by omega)]
  have e2 : stQ ls y x (k + 1) k = pQ ls y (x + 1) k := by unfold stQ; rw [if_pos (by omega)]
  rw [e1, e2]
  unfold flatP pQ
  by_cases h : z = 128 * y + x
  · subst h
    rw [if_pos rfl, show (128 * y + x) / 128 = y by omega, show (128 * y + x) % 128 = x by omega, hb, decide_eq_true (show y < y ∨ (y = y ∧ x < x + 1) by omega), Bool.true_and]
  · rw [if_neg h]
    congr 1
    exact decide_eq_decide.2 ⟨fun h2 => by omega, fun h2 => by omega⟩
theorem plR_start (f : Nat → Nat) (ls : List (List UInt8)) : plR f (fun j => flatP (pQ ls 0 0 j)) 4 = plR f (fun _ _ => false) 4 := plR_congr fun j _ z _ => by
  unfold flatP
  rw [pQ_start]; rfl
theorem plR_next (f : Nat → Nat) (ls : List (List UInt8)) (y : Nat) : plR f (fun j => flatP (pQ ls y (wd (hiL ls)) j)) 4 = plR f (fun j => flatP (pQ ls (y + 1) 0 j)) 4 := plR_congr fun j _ z _ => pQ_next _ _
theorem plR_four (f : Nat → Nat) (ls : List (List UInt8)) (y x : Nat) : plR f (fun j => flatP (stQ ls y x 4 j)) 4 = plR f (fun j => flatP (pQ ls y (x + 1) j)) 4 := plR_congr fun j hj z _ => by
  have e : stQ ls y x 4 j = pQ ls y (x + 1) j := by unfold stQ; rw [if_pos hj]
  rw [e]
theorem plR_all (f : Nat → Nat) (ls : List (List UInt8)) : plR f (fun j => flatP (pQ ls ls.length 0 j)) 4 = plR f (fun j => flatP (linesP ls j)) 4 := plR_congr fun j _ z _ => pQ_all _ _
theorem bit_m {n m k : Nat} (h : n / 2 ^ k = m) : decide (((m % 2 : Nat) : Int) = 1) = n.testBit k := by
  rw [← bit_dec, Nat.shiftRight_eq_div_pow, h]
def parseR (ls : List (List UInt8)) (i : RefIx) : Value := .tuple (if parseOK ls then #[.slice (some ⟨i.a, 0, none⟩) 4 i.c, .bool (hiL ls), .bool true] else #[.slice none 0 0, .bool false, .bool false])
theorem parseR_no {ls : List (List UInt8)} (h : parseOK ls = false) {i : RefIx} : parseR ls i = .tuple #[.slice none 0 0, .bool false, .bool false] := by unfold parseR; rw [h]; rfl
theorem parseR_yes {ls : List (List UInt8)} (h : parseOK ls = true) {i : RefIx} : parseR ls i = .tuple #[.slice (some ⟨i.a, 0, none⟩) 4 i.c, .bool (hiL ls), .bool true] := by unfold parseR; rw [h]; rfl
attribute [local irreducible] plR restR parseR pQ stQ bq linesP valB boolsN plS4


theorem refValue24 (z : UInt8) (w : World) :
    Calls Tryd.prog 51 #[.int .u8 (z.toNat : Int)] w fun e w' => e = .returned (.int .i64 (valB z)) ∧ Sat w [] [] w' := by
  refine enter Tryd.func51 rfl rfl rfl ?_
  refine r_seq ?_
  refine r_region ?_
  refine r_assign rfl rfl ?_
  refine r_nil ?_
  refine r_tn ?_
  refine r_seq ?_
  refine r_seq ?_
  refine r_region ?_
  refine r_assign rfl rfl ?_
  refine r_nil ?_
  refine r_tn ?_
  refine r_block ?_
  refine r_loopN (fun k => [(0, .int .u8 (z.toNat : Int)), (3, .int .i64 (k : Int))]) (fun _ => []) (fun k => k ≤ 16 ∧ ∀ j, j < k → (chN j : Int) ≠ (z.toNat : Int)) 16 0 ⟨by omega, fun j hj => by omega⟩ ⟨rfl, rfl, trivial⟩ (fun w hw => hw.clear) fun k hk => ?_
  obtain ⟨hk, hj⟩ := hk
  refine r_seq ?_
  refine r_seq ?_
  refine r_region ?_
  refine r_move rfl rfl ?_
  refine r_lss rfl rfl rfl rfl ?_
  refine r_nil ?_
  refine r_tn ?_
  refine r_cond rfl (fun hc => ?_) (fun hc => ?_)
  · refine r_skip ?_
    refine r_tn ?_
    refine r_seq ?_
    refine r_block ?_
    refine r_seq ?_
    refine r_region ?_
    have hk2 : k < 16 := by have h := of_decide_eq_true hc; omega
    clear hc
    refine r_call rfl rfl rfl (by kernel_rfl) rfl (fun w hw => by exact characters24 w) ?_
    refine r_move rfl rfl ?_
    refine r_idxStr (i' := k) (z := UInt8.ofNat (chN k)) rfl rfl rfl rfl rfl (chars_at _ hk2) ?_
    rw [chN_u8 k hk2]
    refine r_move rfl rfl ?_
    refine r_eql (p := decide ((chN k : Int) = (z.toNat : Int))) rfl rfl rfl rfl ?_
    refine r_nil ?_
    refine r_tn ?_
    refine r_cond rfl (fun hc => ?_) (fun hc => ?_)
    · refine r_seq ?_
      refine r_region ?_
      refine r_move rfl rfl ?_
      refine r_assign rfl rfl ?_
      refine r_nil ?_
      refine r_tn ?_
      refine r_ret ?_
      refine r_br ?_
      refine r_tr ?_
      refine r_tr ?_
      refine r_br ?_
      refine r_tr ?_
      have he : (chN k : Int) = (z.toNat : Int) := of_decide_eq_true hc
      have hv : valB z = (k : Int) := (valB_def z).trans (valR_of hk2 he)
      rw [hv]
      exact r_done1 (.inl rfl) rfl (res_tmp rfl) fun w hw => ⟨rfl, hw.clear⟩
    · refine r_skip ?_
      refine r_bn ?_
      refine r_tn ?_
      refine r_region ?_
      refine r_move rfl rfl ?_
      refine r_add rfl rfl rfl (w64 (by omega)) ?_
      refine r_assign rfl rfl ?_
      refine r_nil ?_
      refine r_tn ?_
      exact r_againN (k + 1) ⟨by omega, fun j hj2 => by
        by_cases e : j = k
        · subst e; exact of_decide_eq_false hc
        · exact hj j (by omega)⟩ (by omega) ⟨rfl, rfl, trivial⟩ (fun w hw => hw.clear)
  · refine r_exit ?_
    refine r_te ?_
    refine r_te ?_
    refine r_be ?_
    refine r_tn ?_
    refine r_seq ?_
    refine r_region ?_
    refine r_assign rfl rfl ?_
    refine r_nil ?_
    refine r_tn ?_
    refine r_ret ?_
    have hk3 : k = 16 := by have h := of_decide_eq_false hc; omega
    subst hk3
    have hv : valB z = -1 := (valB_def z).trans (valR_none hj)
    rw [hv]
    exact r_done1 (.inl rfl) rfl (res_tmp rfl) fun w hw => ⟨rfl, hw.clear⟩

theorem refParse24 (A : Option Addr) (c : Nat) (ls : List (List UInt8)) (hlm : ls.length ≤ 1000000) (w : World) (hR : Rd w A (ls.map txV)) :
    Calls Tryd.prog 22 #[.slice A ls.length c] w fun e w' => ∃ i : RefIx, e = .returned (parseR ls i) ∧ (parseOK ls = true → ∀ w1, OkAll i.R w1 → Rd w1 (some ⟨i.a, 0, none⟩) (plS4 i.f 4) ∧ ∀ j, j < 4 → Rd w1 (some ⟨i.f j, 0, none⟩) (boolsN 8192 (flatP (linesP ls j)))) ∧ Sat w [] i.R w' := by
  refine enter Tryd.func22 rfl rfl rfl ?_
  refine r_seq ?_
  refine r_region ?_
  refine r_assign rfl rfl ?_
  refine r_assign rfl rfl ?_
  refine r_assign rfl rfl ?_
  refine r_nil ?_
  refine r_tn ?_
  refine r_seq ?_
  refine r_cut (ι := { u : Unit // ls.length = ht (hiL ls) }) (fun _ => ([(0, .slice A ls.length c)], [])) ?_ ?_
  · refine r_seq ?_
    refine r_region ?_
    refine r_move rfl rfl ?_
    refine r_len rfl rfl rfl ?_
    refine r_neq (p := decide (ls.length ≠ 32)) rfl rfl rfl (decide_eq_decide.2 ⟨fun _ => by omega, fun _ => by omega⟩) ?_
    refine r_move rfl rfl ?_
    refine r_split 15 rfl (fun hb15 => ?_) (fun hb15 => ?_)
    · refine r_go rfl rfl ?_
      refine r_move rfl rfl ?_
      refine r_go rfl rfl ?_
      refine r_len rfl rfl rfl ?_
      refine r_go rfl rfl ?_
      refine r_neq (p := decide (ls.length ≠ 64)) rfl rfl rfl (decide_eq_decide.2 ⟨fun _ => by omega, fun _ => by omega⟩) ?_
      refine r_pick_t rfl rfl rfl ?_
      refine r_nil ?_
      refine r_tn ?_
      refine r_cond rfl (fun hc => ?_) (fun hc => ?_)
      · refine r_seq ?_
        refine r_region ?_
        refine r_assign rfl rfl ?_
        refine r_assign rfl rfl ?_
        refine r_assign rfl rfl ?_
        refine r_nil ?_
        refine r_tn ?_
        refine r_ret ?_
        refine r_tr ?_
        have h32 : ls.length ≠ 32 := of_decide_eq_true hb15
        have h64 : ls.length ≠ 64 := of_decide_eq_true hc
        exact r_done3 (.inl rfl) rfl (res_tmp rfl) (res_tmp rfl) (res_tmp rfl) fun w hw => ⟨⟨0, 0, 0, 0, fun _ => 0, []⟩, by rw [parseR_no (parse_len (len_bad h32 h64))], fun h => (by rw [parse_len (len_bad h32 h64)] at h; cases h), hw.clear⟩
      · refine r_skip ?_
        refine r_tn ?_
        exact r_at ⟨(), len_ok64 (of_decide_eq_false hc)⟩ ⟨rfl, trivial⟩ (fun w hw => hw)
    · refine r_pass rfl rfl rfl rfl ?_
      refine r_pass rfl rfl rfl rfl ?_
      refine r_pass rfl rfl rfl rfl ?_
      refine r_pick_f rfl rfl rfl ?_
      refine r_nil ?_
      refine r_tn ?_
      refine r_cond_f rfl ?_
      refine r_skip ?_
      refine r_tn ?_
      exact r_at ⟨(), len_ok32 (of_decide_eq_false hb15)⟩ ⟨rfl, trivial⟩ (fun w hw => hw)
  rintro ⟨_, hlen⟩
  refine r_seq ?_
  refine r_region ?_
  refine r_move rfl rfl ?_
  refine r_len rfl rfl rfl ?_
  refine r_eql (p := hiL ls) rfl rfl rfl (show decide _ = decide _ from decide_eq_decide.2 ⟨fun _ => by omega, fun _ => by omega⟩) ?_
  refine r_assign rfl rfl ?_
  refine r_nil ?_
  refine r_tn ?_
  refine r_seq ?_
  refine r_region ?_
  refine r_assign rfl rfl ?_
  refine r_nil ?_
  refine r_tn ?_
  refine r_seq ?_
  refine r_seq ?_
  refine r_region ?_
  refine r_assign rfl rfl ?_
  refine r_nil ?_
  refine r_tn ?_
  refine r_block ?_
  refine Run.ownNil 65 1 ?_
  refine r_loop3 (fun k f A6 c6 => [(0, .slice A ls.length c), (5, .bool (hiL ls)), (6, .slice A6 k c6), (7, .int .i64 (k : Int))]) (fun k f A6 c6 => .own 65 1 (.slice A6 k c6) k (plS4 f k) :: plR f (fun _ _ => false) k) (fun k f A6 c6 => k ≤ 4) 4 0 (fun _ => 0) none 0 (by omega) ⟨rfl, rfl, rfl, rfl, trivial⟩ (fun w hw => by have h2 : Sat _ _ [.own 65 1 (.slice none 0 0) 0 []] w := hw.sub; rw [plS4_zero, plR_zero]; exact h2) fun k f A6 c6 hk => ?_
  refine r_seq ?_
  refine r_seq ?_
  refine r_region ?_
  refine r_move rfl rfl ?_
  refine r_lss rfl rfl rfl rfl ?_
  refine r_nil ?_
  refine r_tn ?_
  refine r_cond rfl (fun hc => ?_) (fun hc => ?_)
  · refine r_skip ?_
    refine r_tn ?_
    refine r_seq ?_
    refine r_block ?_
    refine r_region ?_
    have hk2 : k < 4 := by have h := of_decide_eq_true hc; omega
    clear hc
    refine r_move rfl rfl ?_
    refine r_callx rfl rfl rfl (by kernel_rfl) rfl (fun w hw => by exact refBlank07 w) ?_
    rintro b28 _
    refine r_lit (sz := 1) (pv := [(0, .slice (some ⟨b28, 0, none⟩) 8192 8192)]) (cells := #[.slice (some ⟨b28, 0, none⟩) 8192 8192]) rfl rfl rfl rfl rfl rfl (by kernel_rfl) rfl (fun b29 => ?_) (by decide)
    refine r_append (k := 1) (news := [.slice (some ⟨b28, 0, none⟩) 8192 8192]) (sz := 1) (bytes := 24) rfl rfl rfl rfl rfl rfl (by decide) (fun w hw => own_rd (A := some ⟨b29, 0, none⟩) (m := 1) (c := 1) hw) (by first | (simp; done) | (simp; omega)) (fun u hu => by simp at hu; first | (obtain ⟨x, _, rfl⟩ := hu; rfl) | (subst hu; rfl)) (by omega) (by unfold maxLen; omega) fun A30 c30 => ?_
    refine r_assign rfl rfl ?_
    refine r_nil ?_
    refine r_bn ?_
    refine r_tn ?_
    refine r_region ?_
    refine r_move rfl rfl ?_
    refine r_add rfl rfl rfl (w64 (by omega)) ?_
    refine r_assign rfl rfl ?_
    refine r_nil ?_
    refine r_tn ?_
    exact r_again3 (k + 1) (setF f k b28) A30 c30 (by omega) (by omega) ⟨rfl, rfl, rfl, rfl, trivial⟩ (fun w hw => by have h2 : Sat _ _ (.own 65 1 (.slice A30 (k + 1) c30) (k + 1) (plS4 f k ++ [.slice (some ⟨b28, 0, none⟩) 8192 8192]) :: .own 4 1 (.slice (some ⟨b28, 0, none⟩) 8192 8192) 8192 (boolsN 8192 fun _ => false) :: plR f (fun _ _ => false) k) w := hw.sub; rw [plS4_snoc] at h2; exact h2.perm ((plR_snoc f k b28).cons _))
  · refine r_exit ?_
    refine r_te ?_
    refine r_te ?_
    refine r_be ?_
    refine r_tn ?_
    refine r_seq ?_
    refine r_seq ?_
    refine r_region ?_
    refine r_assign rfl rfl ?_
    refine r_nil ?_
    refine r_tn ?_
    refine r_block ?_
    have hk4 : k = 4 := by have h := of_decide_eq_false hc; omega
    subst hk4
    clear hc
    refine r_loopN (fun y => [(0, .slice A ls.length c), (5, .bool (hiL ls)), (6, .slice A6 4 c6), (8, .int .i64 (y : Int))]) (fun y => .own 65 1 (.slice A6 4 c6) 4 (plS4 f 4) :: plR f (fun j => flatP (pQ ls y 0 j)) 4) (fun y => y ≤ ls.length ∧ ∀ j (hj : j < ls.length), j < y → okLine (wd (hiL ls)) ls[j] = true) ls.length 0 ⟨by omega, fun j hj h => by omega⟩ ⟨rfl, rfl, rfl, rfl, trivial⟩ (fun w hw => by rw [plR_start]; exact hw.sub) fun y hy => ?_
    obtain ⟨hy, hok⟩ := hy
    have hyl : ls.length ≤ 64 := by rw [hlen]; cases hiL ls <;> decide
    refine r_seq ?_
    refine r_seq ?_
    refine r_region ?_
    refine r_move rfl rfl ?_
    refine r_move rfl rfl ?_
    refine r_len rfl rfl rfl ?_
    refine r_lss rfl rfl rfl rfl ?_
    refine r_nil ?_
    refine r_tn ?_
    refine r_cond rfl (fun hc => ?_) (fun hc => ?_)
    · refine r_skip ?_
      refine r_tn ?_
      refine r_seq ?_
      refine r_block ?_
      refine r_seq ?_
      refine r_seq ?_
      have hy2 : y < ls.length := by have h := of_decide_eq_true hc; omega
      clear hc
      obtain ⟨l, hl⟩ : ∃ l, ls[y] = l := ⟨_, rfl⟩
      have hly : (ls.map txV)[y]? = some (txV l) := by rw [List.getElem?_map, List.getElem?_eq_getElem hy2, hl]; rfl
      obtain ⟨b0, o0, rfl⟩ := rd_some hR hly
      refine r_mixedD { xb := [], rb := [b0], rs := [40], fs := [], acs := [43] } (by kernel_rfl) (by kernel_rfl) (fun w hw k hk => by
        simp only [List.mem_cons, List.not_mem_nil, or_false] at hk
        subst hk
        exact rd_lt2 hR hly hw) ?_
      refine r_move rfl rfl ?_
      refine r_move rfl rfl ?_
      refine r_indexSl (sz := 1) (o' := o0 + y) rfl rfl rfl rfl rfl (by omega) (by omega) (by omega) ?_
      refine r_loadC (p := ⟨b0, o0 + y, none⟩) (v := txV l) rfl rfl rfl (fun w hw => (hR.keep hw).cell hly rfl) ?_
      refine r_lenStr rfl rfl rfl ?_
      refine r_move rfl rfl ?_
      refine r_call rfl rfl rfl (by kernel_rfl) rfl (fun w hw => by exact width06 (hiL ls) w) ?_
      refine r_neq (p := decide (l.length ≠ wd (hiL ls))) rfl rfl rfl (by rw [tx_size]; exact decide_eq_decide.2 ⟨fun _ => by omega, fun _ => by omega⟩) ?_
      refine r_nil ?_
      refine r_tn ?_
      refine r_cond rfl (fun hc => ?_) (fun hc => ?_)
      · refine r_seq ?_
        refine r_region ?_
        refine r_assign rfl rfl ?_
        refine r_assign rfl rfl ?_
        refine r_assign rfl rfl ?_
        refine r_nil ?_
        refine r_tn ?_
        refine r_ret ?_
        refine r_tr ?_
        refine r_br ?_
        refine r_tr ?_
        refine r_tr ?_
        refine r_br ?_
        refine r_tr ?_
        exact r_done3 (.inl rfl) rfl (res_tmp rfl) (res_tmp rfl) (res_tmp rfl) fun w hw => ⟨⟨0, 0, 0, 0, fun _ => 0, []⟩, by rw [parseR_no (parse_no hy2 (by rw [hl]; exact okLine_len (of_decide_eq_true hc)))], fun h => (by rw [parse_no hy2 (by rw [hl]; exact okLine_len (of_decide_eq_true hc))] at h; cases h), hw.clear⟩
      · refine r_skip ?_
        refine r_tn ?_
        refine r_seq ?_
        refine r_region ?_
        refine r_assign rfl rfl ?_
        refine r_nil ?_
        refine r_tn ?_
        refine r_block ?_
        have hlw : l.length = wd (hiL ls) := by have h := of_decide_eq_false hc; omega
        clear hc
        have hwd : wd (hiL ls) ≤ 128 := by cases hiL ls <;> decide
        refine r_loopN (fun x => [(0, .slice (some ⟨b0, o0, none⟩) ls.length c), (5, .bool (hiL ls)), (6, .slice A6 4 c6), (8, .int .i64 (y : Int)), (9, .int .i64 (x : Int))]) (fun x => .own 65 1 (.slice A6 4 c6) 4 (plS4 f 4) :: plR f (fun j => flatP (pQ ls y x j)) 4) (fun x => x ≤ l.length ∧ ∀ j (hj : j < l.length), j < x → 0 ≤ valB l[j]) l.length 0 ⟨by omega, fun j hj h => by omega⟩ ⟨rfl, rfl, rfl, rfl, rfl, trivial⟩ (fun w hw => hw.sub) fun x hx => ?_
        obtain ⟨hx, hval⟩ := hx
        refine r_seq ?_
        refine r_seq ?_
        refine r_region ?_
        refine r_move rfl rfl ?_
        refine r_move rfl rfl ?_
        refine r_move rfl rfl ?_
        refine r_indexSl (sz := 1) (o' := o0 + y) rfl rfl rfl rfl rfl (by omega) (by omega) (by omega) ?_
        refine r_loadC (p := ⟨b0, o0 + y, none⟩) (v := txV l) rfl rfl rfl (fun w hw => (hR.keep hw).cell hly rfl) ?_
        refine r_lenStr rfl rfl rfl ?_
        refine r_lss (p := decide (x < l.length)) rfl rfl rfl (by rw [tx_size]; exact decide_eq_decide.2 ⟨fun _ => by omega, fun _ => by omega⟩) ?_
        refine r_nil ?_
        refine r_tn ?_
        refine r_cond rfl (fun hc => ?_) (fun hc => ?_)
        · refine r_skip ?_
          refine r_tn ?_
          refine r_seq ?_
          refine r_block ?_
          refine r_seq ?_
          refine r_region ?_
          have hx2 : x < l.length := of_decide_eq_true hc
          clear hc
          refine r_move rfl rfl ?_
          refine r_move rfl rfl ?_
          refine r_indexSl (sz := 1) (o' := o0 + y) rfl rfl rfl rfl rfl (by omega) (by omega) (by omega) ?_
          refine r_loadC (p := ⟨b0, o0 + y, none⟩) (v := txV l) rfl rfl rfl (fun w hw => (hR.keep hw).cell hly rfl) ?_
          refine r_move rfl rfl ?_
          refine r_idxStr (i' := x) (z := l[x]) rfl rfl rfl rfl rfl (tx_at l hx2) ?_
          refine r_call rfl rfl rfl (by kernel_rfl) rfl (fun w hw => by exact refValue24 l[x] w) ?_
          refine r_assign rfl rfl ?_
          refine r_nil ?_
          refine r_tn ?_
          refine r_seq ?_
          refine r_seq ?_
          refine r_region ?_
          refine r_move rfl rfl ?_
          refine r_lss (p := decide (valB l[x] < 0)) rfl rfl rfl rfl ?_
          refine r_nil ?_
          refine r_tn ?_
          refine r_cond rfl (fun hc => ?_) (fun hc => ?_)
          · refine r_seq ?_
            refine r_region ?_
            refine r_assign rfl rfl ?_
            refine r_assign rfl rfl ?_
            refine r_assign rfl rfl ?_
            refine r_nil ?_
            refine r_tn ?_
            refine r_ret ?_
            refine r_tr ?_
            refine r_br ?_
            refine r_tr ?_
            refine r_tr ?_
            refine r_br ?_
            refine r_br ?_
            refine r_tr ?_
            refine r_tr ?_
            refine r_br ?_
            refine r_tr ?_
            exact r_done3 (.inl rfl) rfl (res_tmp rfl) (res_tmp rfl) (res_tmp rfl) fun w hw => ⟨⟨0, 0, 0, 0, fun _ => 0, []⟩, by rw [parseR_no (parse_no hy2 (by rw [hl]; exact okLine_no hx2 (of_decide_eq_true hc)))], fun h => (by rw [parse_no hy2 (by rw [hl]; exact okLine_no hx2 (of_decide_eq_true hc))] at h; cases h), hw.clear⟩
          · refine r_skip ?_
            refine r_tn ?_
            refine r_seq ?_
            have hv0 : 0 ≤ valB l[x] := by have h := of_decide_eq_false hc; omega
            clear hc
            obtain ⟨n, hn16, hvn⟩ : ∃ n : Nat, n < 16 ∧ valB l[x] = n := by
              rcases valB_cases l[x] with h | h
              · exact h
              · omega
            rw [hvn]
            have hbq : ∀ i, bq ls i y x = n.testBit i := fun i => bq_at hy2 (by rw [hl]; exact hx2) (by omega) (by simp only [hl]; exact hvn) i
            refine r_region ?_
            refine r_assign rfl rfl ?_
            refine r_nil ?_
            refine r_tn ?_
            refine r_block ?_
            refine r_loopN (fun k => [(0, .slice (some ⟨b0, o0, none⟩) ls.length c), (5, .bool (hiL ls)), (6, .slice A6 4 c6), (8, .int .i64 (y : Int)), (9, .int .i64 (x : Int)), (10, .int .i64 ((n / 2 ^ k : Nat) : Int)), (11, .int .i64 (k : Int))]) (fun k => .own 65 1 (.slice A6 4 c6) 4 (plS4 f 4) :: plR f (fun j => flatP (stQ ls y x k j)) 4) (fun k => k ≤ 4) 4 0 (by omega) ⟨rfl, rfl, rfl, rfl, rfl, by rw [Nat.pow_zero, Nat.div_one]; rfl, rfl, trivial⟩ (fun w hw => by rw [stQ_zero]; exact hw.sub) fun k hk => ?_
            obtain ⟨m, hm⟩ : ∃ m, n / 2 ^ k = m := ⟨_, rfl⟩
            have hm16 : m < 16 := by rw [← hm]; exact Nat.lt_of_le_of_lt (Nat.div_le_self _ _) hn16
            rw [hm]
            refine r_seq ?_
            refine r_seq ?_
            refine r_region ?_
            refine r_move rfl rfl ?_
            refine r_lss rfl rfl rfl rfl ?_
            refine r_nil ?_
            refine r_tn ?_
            refine r_cond rfl (fun hc => ?_) (fun hc => ?_)
            · refine r_skip ?_
              refine r_tn ?_
              refine r_seq ?_
              refine r_block ?_
              refine r_seq ?_
              refine r_region ?_
              have hk2 : k < 4 := by have h := of_decide_eq_true hc; omega
              clear hc
              refine r_have (fun w hw => own_some (A := A6) (m := 4) (c := c6) hw (by decide)) fun hg => ?_
              obtain ⟨g6, rfl⟩ := hg
              refine r_move rfl rfl ?_
              refine r_move rfl rfl ?_
              refine r_indexSl (sz := 1) (o' := 0 + k) rfl rfl rfl rfl rfl (by omega) (by omega) (by omega) ?_
              refine r_loadC (p := ⟨g6, 0 + k, none⟩) (v := .slice (some ⟨f k, 0, none⟩) 8192 8192) rfl rfl rfl (fun w hw => (own_rd (A := some ⟨g6, 0, none⟩) (m := 4) (c := c6) hw).cell (plS4_at f hk2) rfl) ?_
              refine r_move rfl rfl ?_
              refine r_mul (r := ((128 * y : Nat) : Int)) rfl rfl rfl ((w64 (by omega)).trans (by omega)) ?_
              refine r_move rfl rfl ?_
              refine r_add (r := ((128 * y + x : Nat) : Int)) rfl rfl rfl ((w64 (by omega)).trans (by omega)) ?_
              refine r_move rfl rfl ?_
              refine r_rem (r := ((m % 2 : Nat) : Int)) rfl rfl rfl (by decide) rfl ?_
              refine r_eql (p := n.testBit k) rfl rfl rfl (bit_m hm) ?_
              refine r_indexSl (sz := 1) (o' := 128 * y + x) rfl rfl rfl rfl rfl (by omega) (by omega) (by omega) ?_
              refine Run.perm (plR_pick f (fun j => flatP (stQ ls y x k j)) hk2 _) ?_
              refine r_storeOwn (m := 8192) (c := 8192) rfl rfl rfl rfl rfl (by omega) ?_
              rw [plR_set (hbq k) (show x < 128 by omega), plR_rest]
              refine Run.perm (plR_pick f (fun j => flatP (stQ ls y x (k + 1) j)) hk2 _).symm ?_
              refine r_nil ?_
              refine r_tn ?_
              refine r_region ?_
              refine r_move rfl rfl ?_
              refine r_quo (r := ((m / 2 : Nat) : Int)) rfl rfl rfl (by decide) (w64 (show -9223372036854775808 ≤ ((m / 2 : Nat) : Int) ∧ ((m / 2 : Nat) : Int) ≤ 9223372036854775807 by omega)) ?_
              refine r_assign rfl rfl ?_
              refine r_nil ?_
              refine r_bn ?_
              refine r_tn ?_
              refine r_region ?_
              refine r_move rfl rfl ?_
              refine r_add rfl rfl rfl (w64 (by omega)) ?_
              refine r_assign rfl rfl ?_
              refine r_nil ?_
              refine r_tn ?_
              exact r_againN (k + 1) (by omega) (by omega) ⟨rfl, rfl, rfl, rfl, rfl, congrArg (fun z : Nat => some (Value.int .i64 (z : Int))) (by rw [← hm, Nat.div_div_eq_div_mul, ← Nat.pow_succ]), rfl, trivial⟩ (fun w hw => hw.sub)
            · refine r_exit ?_
              refine r_te ?_
              refine r_te ?_
              refine r_be ?_
              refine r_bn ?_
              refine r_tn ?_
              refine r_region ?_
              refine r_move rfl rfl ?_
              refine r_add rfl rfl rfl (w64 (by omega)) ?_
              refine r_assign rfl rfl ?_
              refine r_nil ?_
              refine r_tn ?_
              have hk3 : k = 4 := by have h := of_decide_eq_false hc; omega
              subst hk3
              exact r_againN (x + 1) ⟨by omega, fun j hj h => by
                by_cases e : j = x
                · subst e; exact hv0
                · exact hval j hj (by omega)⟩ (by omega) ⟨rfl, rfl, rfl, rfl, rfl, trivial⟩ (fun w hw => by rw [← plR_four]; exact hw.sub)
        · refine r_exit ?_
          refine r_te ?_
          refine r_te ?_
          refine r_be ?_
          refine r_bn ?_
          refine r_tn ?_
          refine r_region ?_
          refine r_move rfl rfl ?_
          refine r_add rfl rfl rfl (w64 (by omega)) ?_
          refine r_assign rfl rfl ?_
          refine r_nil ?_
          refine r_tn ?_
          have hx3 : x = wd (hiL ls) := by have h : ¬ x < l.length := of_decide_eq_false hc; omega
          subst hx3
          exact r_againN (y + 1) ⟨by omega, fun j hj h => by
            by_cases e : j = y
            · subst e; rw [hl]; exact okLine_yes hlw fun j hj => hval j hj (by omega)
            · exact hok j hj (by omega)⟩ (by omega) ⟨rfl, rfl, rfl, rfl, trivial⟩ (fun w hw => by rw [← plR_next]; exact hw.sub)
    · refine r_exit ?_
      refine r_te ?_
      refine r_te ?_
      refine r_be ?_
      refine r_tn ?_
      refine r_seq ?_
      refine r_region ?_
      have hy3 : y = ls.length := by have h := of_decide_eq_false hc; omega
      subst hy3
      rw [plR_all]
      refine r_have (fun w hw => own_some (A := A6) (m := 4) (c := c6) hw (by decide)) fun hg => ?_
      obtain ⟨g6, rfl⟩ := hg
      refine r_move rfl rfl ?_
      refine r_move rfl rfl ?_
      refine r_assign rfl rfl ?_
      refine r_assign rfl rfl ?_
      refine r_assign rfl rfl ?_
      refine r_nil ?_
      refine r_tn ?_
      refine r_ret ?_
      have hpo := parse_yes hlen fun j hj => hok j hj hj
      exact r_done3 (.inl rfl) rfl (res_tmp rfl) (res_tmp rfl) (res_tmp rfl) fun w hw => ⟨⟨g6, c6, 0, 0, f, .own 65 1 (.slice (some ⟨g6, 0, none⟩) 4 c6) 4 (plS4 f 4) :: plR f (fun j => flatP (linesP ls j)) 4⟩, by rw [parseR_yes hpo], fun _ w1 h1 => ⟨okAll_rd h1 (.head _), fun j hj => okAll_rd (n := 8192) (c := 8192) h1 (.tail _ (plR_mem f (fun j => flatP (linesP ls j)) hj))⟩, hw.sub⟩
end Go.Proofs.YtdkgnnieehidbaaDoor
