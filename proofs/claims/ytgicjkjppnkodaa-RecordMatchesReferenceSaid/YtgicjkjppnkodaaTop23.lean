/-
  Records (chapter 23): Decode.
-/
import Derived.Test.YtgicjkjppnkodaaRecD
import Derived.Great.FillDense
namespace Go.Proofs.Ytgicjkjppnkodaa
open Go Go.RowKit
set_option linter.unusedVariables false
set_option linter.unusedSimpArgs false
set_option maxHeartbeats 2000000
set_option maxRecDepth 4000
attribute [local irreducible] mix

/-- one part that is all -/
theorem fill_one {sz : Nat} {v : Value} {base : Array Value} (hs : 0 < sz) (h : v.cells.size = sz) (hb : base.size = 1 * sz) : Instr.fill (fun i => some (i * sz, sz)) base [(0, v)] = some v.cells := by
  obtain ⟨r, h1, h2, h3⟩ := Go.Great.fill_dense hs [v] 0 base (by simpa using h) (by simp [hb])
  have h4 : ([v].zipIdx 0).map (fun x => (x.2, x.1)) = [(0, v)] := rfl
  rw [h4] at h1
  rw [h1]
  congr 1
  apply Array.ext_getElem?
  intro k
  rw [h3]
  by_cases hk : k < sz
  · rw [if_pos (by simp; omega), Nat.div_eq_of_lt hk, Nat.mod_eq_of_lt hk]; rfl
  · rw [if_neg (by simp; omega), Array.getElem?_eq_none (by omega), Array.getElem?_eq_none (by omega)]
theorem recV_list (r : Rec) : (recV r).toList = recL r := rfl
theorem decRec_len (l : List Int) : (decRec l).pat.length = 16 := dPat_len l
attribute [local irreducible] rdL rdB rdV beN recV rowsS rowsP usedF validR decRec decOK plS dL dB dV
/-- the reader behind a record -/
def decS (l : List Int) : List Int × Bool := plS (dV l 7 % 256) (dL l 8, dB l 8) 4
theorem decS_def (l : List Int) : decS l = plS (dV l 7 % 256) (dL l 8, dB l 8) 4 := rfl
theorem decS_bytes {l : List Int} (h : bytesB l) : bytesB (decS l).1 := plS_bytes (dL_bytes h 8) 4
theorem decS_le (l : List Int) : (decS l).1.length ≤ l.length := Nat.le_trans (plS_le _ _ 4) (dL_le _ 8)
theorem decOK_bad {l : List Int} (h : decOK l = true) : (decS l).2 = false := by
  unfold decOK at h
  simp only [Bool.and_eq_true, Bool.not_eq_true'] at h
  exact h.1.1.1.1
attribute [local irreducible] decS
def dSt (l : List Int) : Nat → List Int × Bool
  | 0 => (rdL (rdL l 4) 4, rdB (rdL l 4) 4 (rdB l 4 false))
  | k + 1 => decS (dSt l k).1
def topN (l : List Int) : Nat := rdV (rdL l 4) 4
def tR (l : List Int) (k : Nat) : List Rec := (List.range k).map fun j => decRec (dSt l j).1
def magicB (l : List Int) : Bool := (strOf (l.take 4)).toList == (ByteArray.mk #[67, 56, 82, 49]).toList
def topOK (l : List Int) : Bool := decide (4 ≤ l.length) && (magicB l && (((List.range (topN l)).all fun j => decOK (dSt l j).1) && (!(dSt l (topN l)).2 && (decide ((dSt l (topN l)).1.length = 0) && decide (topN l ≤ 1048576)))))
theorem dSt_bytes {l : List Int} (h : bytesB l) : ∀ k, bytesB (dSt l k).1
  | 0 => rdL_bytes (rdL_bytes h 4) 4
  | k + 1 => decS_bytes (dSt_bytes h k)
theorem dSt_le (l : List Int) : ∀ k, (dSt l k).1.length ≤ l.length
  | 0 => Nat.le_trans (rdL_le _ 4) (rdL_le _ 4)
  | k + 1 => Nat.le_trans (decS_le _) (dSt_le l k)
theorem dSt_fst (l : List Int) (k : Nat) : dSt l (k + 1) = decS (dSt l k).1 := rfl
theorem dSt_bad {l : List Int} (h4 : 4 ≤ l.length) : ∀ {k : Nat}, k < topN l → (∀ j, j < k → decOK (dSt l j).1 = true) → (dSt l k).2 = false
  | 0, hk, _ => by
    unfold topN rdV at hk
    split at hk
    · rename_i h
      show rdB (rdL l 4) 4 (rdB l 4 false) = false
      unfold rdB
      rw [if_pos h, if_pos h4]
    · omega
  | k + 1, _, hj => decOK_bad (hj k (by omega))
theorem topN_lt {l : List Int} (h : bytesB l) : topN l < 4294967296 := by
  unfold topN rdV
  split
  · exact beN_lt (rdL_bytes h 4) 4
  · decide
theorem tR_succ (l : List Int) (k : Nat) : tR l (k + 1) = tR l k ++ [decRec (dSt l k).1] := by unfold tR; rw [List.range_succ, List.map_append]; rfl
theorem tR_len (l : List Int) (k : Nat) : (tR l k).length = k := by simp [tR]
theorem recsL_snoc (l : List Rec) (r : Rec) : recsL (l ++ [r]) = recsL l ++ recL r := by simp [recsL]
theorem top_no {l : List Int} {k : Nat} (hk : k < topN l) (h : decOK (dSt l k).1 = false) : topOK l = false := by
  unfold topOK
  have h2 : ((List.range (topN l)).all fun j => decOK (dSt l j).1) = false := by
    rw [List.all_eq_false]
    exact ⟨k, List.mem_range.2 hk, by simp [h]⟩
  rw [h2]; simp
theorem top_short {l : List Int} (h : l.length < 4) : topOK l = false := by unfold topOK; rw [decide_eq_false (by omega)]; rfl
theorem top_magic {l : List Int} (h : magicB l = false) : topOK l = false := by unfold topOK; rw [h]; simp
theorem top_end {l : List Int} {k : Nat} (h4 : 4 ≤ l.length) (hm : magicB l = true) (hk : k = topN l) (hj : ∀ j, j < k → decOK (dSt l j).1 = true) : topOK l = (!(dSt l k).2 && (decide ((dSt l k).1.length = 0) && decide (k ≤ 1048576))) := by
  subst hk
  unfold topOK
  have h2 : ((List.range (topN l)).all fun j => decOK (dSt l j).1) = true := by
    rw [List.all_eq_true]
    exact fun j h => hj j (List.mem_range.1 h)
  rw [h2, hm, decide_eq_true h4]
  simp only [Bool.true_and]
theorem Keeps.of {W w : World} {H : List Res} (hw : Sat W [] H w) : Keeps W w := ⟨hw.size, fun k hk => hw.keep k hk (by simp)⟩
theorem blk_ge {W w : World} {b : Nat} {o : Obj} {H G : List Res} [hb : HasBlk b H o G] (hw : Sat W [] H w) : W.heap.size ≤ b := by
  rcases (hw.pick hb.pick).feet _ (.head _) b rfl with h | h
  · exact h
  · cases h
theorem decode23 (W : World) (b : Nat) (A : Option Addr) (c : Nat) (l : List Int) (hmc : l.length ≤ c) (hm48 : l.length ≤ 140737488355328) (hl8 : bytesB l) (hb : W.heap.size ≤ b) (hR : Rd W A (l.map (Value.int .u8))) (w : World) (hK : Keeps W w) (hS : Sat w [b] [.blk b (.cells #[.slice A l.length c, .bool false] 80 (0, 0))] w) :
    Calls Try.prog 34 #[.pointer (some ⟨b, 0, none⟩)] w fun e w' => ∃ i : Option Addr × Nat, e = .returned (.tuple #[.agg (recV (decRec l)), .bool (decOK l)]) ∧ (Rd W i.1 ((decS l).1.map (Value.int .u8)) ∧ (decS l).1.length ≤ i.2) ∧ Sat w [b] [.blk b (.cells #[.slice i.1 (decS l).1.length i.2, .bool (decS l).2] 80 (0, 0))] w' :=
  by
  rw [decS_def]
  exact if h : 16 ≤ (dL l 2).length then decode23a W b A c l h hmc hm48 hl8 hb hR w hK hS else decode23b W b A c l h hmc hm48 hl8 hb hR w hK hS
def decV (l : List Int) : Option (Option Addr × Nat) → Value
  | none => .tuple #[.slice none 0 0, .int .i64 6]
  | some i => .tuple #[.slice i.1 (topN l) i.2, .int .i64 0]
def decA (l : List Int) : Option (Option Addr × Nat) → List Res
  | none => []
  | some i => [.own 48 535 (.slice i.1 (topN l) i.2) (topN l) (recsL (tR l (topN l)))]


theorem decodeT23short (l : List Int) (A : Option Addr) (c : Nat) (hsh : l.length < 4) (hmc : l.length ≤ c) (hm48 : l.length ≤ 140737488355328) (hl8 : bytesB l) (W : World) (hR : Rd W A (l.map (Value.int .u8))) :
    Calls Try.prog 16 #[.slice A l.length c] W fun e w' => ∃ i : Option (Option Addr × Nat), e = .returned (decV l i) ∧ topOK l = i.isSome ∧ Sat W [] (decA l i) w' := by
  refine enter Try.func16 rfl rfl rfl ?_
  refine r_seq ?_
  refine r_region ?_
  refine r_assign rfl rfl ?_
  refine r_assign rfl rfl ?_
  refine r_nil ?_
  refine r_tn ?_
  refine r_seq ?_
  refine r_region ?_
  refine r_move rfl rfl ?_
  refine r_build (cells := #[.slice A l.length c, .bool false]) rfl rfl (by kernel_rfl) ?_
  refine r_boxV rfl rfl fun b12 => ?_
  refine r_have (fun w hw => blk_ge (b := b12) hw) fun hb => ?_
  refine r_assign rfl rfl ?_
  refine r_nil ?_
  refine r_tn ?_
  refine r_seq ?_
  refine r_seq ?_
  refine r_region ?_
  refine r_move rfl rfl ?_
  refine r_callb (b := b12) rfl rfl rfl (by kernel_rfl) rfl (fun w hw => by exact take23_no b12 A l.length c 4 false hsh (by decide) w hw) ?_
  rintro g14 _
  refine r_bytesStr (l := List.replicate 4 0) rfl rfl rfl rfl rfl rfl (fun w hw => own_rd (A := some ⟨g14, 0, none⟩) (m := 4) (c := 4) hw) ?_
  refine r_neq_string (p := true) rfl rfl rfl (by decide +kernel) ?_
  refine r_nil ?_
  refine r_tn ?_
  refine r_cond_t rfl ?_
  refine r_seq ?_
  refine r_region ?_
  refine r_assign rfl rfl ?_
  refine r_assign rfl rfl ?_
  refine r_nil ?_
  refine r_tn ?_
  refine r_ret ?_
  refine r_tr ?_
  exact r_done2 (.inl rfl) rfl (res_tmp rfl) (res_tmp rfl) fun w hw => ⟨none, rfl, top_short hsh, hw.clear⟩

theorem recL_one {r : Rec} {u : Value} (h : u ∈ recL r) : u.oneCell' = true := List.all_eq_true.1 (recV_one r) u (by unfold recV; exact h)

theorem decodeT23long (l : List Int) (A : Option Addr) (c : Nat) (h4 : 4 ≤ l.length) (hmc : l.length ≤ c) (hm48 : l.length ≤ 140737488355328) (hl8 : bytesB l) (W : World) (hR : Rd W A (l.map (Value.int .u8))) :
    Calls Try.prog 16 #[.slice A l.length c] W fun e w' => ∃ i : Option (Option Addr × Nat), e = .returned (decV l i) ∧ topOK l = i.isSome ∧ Sat W [] (decA l i) w' := by
  obtain ⟨ba, oa, rfl, hca⟩ := hR 0 _ (bytes_get (l := l) (by omega))
  refine enter Try.func16 rfl rfl rfl ?_
  refine r_seq ?_
  refine r_region ?_
  refine r_assign rfl rfl ?_
  refine r_assign rfl rfl ?_
  refine r_nil ?_
  refine r_tn ?_
  refine r_seq ?_
  refine r_region ?_
  refine r_move rfl rfl ?_
  refine r_build (cells := #[.slice (some ⟨ba, oa, none⟩) l.length c, .bool false]) rfl rfl (by kernel_rfl) ?_
  refine r_boxV rfl rfl fun b12 => ?_
  refine r_have (fun w hw => blk_ge (b := b12) hw) fun hb => ?_
  refine r_assign rfl rfl ?_
  refine r_nil ?_
  refine r_tn ?_
  refine r_seq ?_
  refine r_seq ?_
  refine r_region ?_
  refine r_move rfl rfl ?_
  refine r_callbw (b := b12) rfl rfl rfl (by kernel_rfl) rfl (fun w hw hs => by exact take23a W b12 (some ⟨ba, oa, none⟩) c l false hmc hm48 4 h4 hR w hs) ?_
  rintro ⟨A14, c14⟩ ⟨hR14, hc14⟩
  refine r_bytesStr (l := l.take 4) rfl rfl rfl rfl rfl (by rw [List.length_take]; omega) (fun w hw => by rw [List.map_take]; exact (hR.keep hw).take 4) ?_
  refine r_neq_string (p := !magicB l) rfl rfl rfl rfl ?_
  refine r_nil ?_
  refine r_tn ?_
  refine r_cond rfl (fun hc => ?_) (fun hc => ?_)
  · refine r_seq ?_
    refine r_region ?_
    refine r_assign rfl rfl ?_
    refine r_assign rfl rfl ?_
    refine r_nil ?_
    refine r_tn ?_
    refine r_ret ?_
    refine r_tr ?_
    exact r_done2 (.inl rfl) rfl (res_tmp rfl) (res_tmp rfl) fun w hw => ⟨none, rfl, top_magic (by simpa using hc), hw.clear⟩
  · refine r_skip ?_
    refine r_tn ?_
    refine r_seq ?_
    refine r_region ?_
    refine r_move rfl rfl ?_
    have hmg : magicB l = true := by simpa using hc
    refine r_callbw (b := b12) rfl rfl rfl (by kernel_rfl) rfl (fun w hw hs => by exact number23 W b12 A14 c14 4 (rdL l 4) (rdB l 4 false) hc14 (Nat.le_trans (rdL_le l 4) hm48) (by decide) (rdL_bytes hl8 4) hb hR14 w (Keeps.of hw) hs) ?_
    rintro ⟨A18, c18⟩ ⟨hR18, hc18⟩
    refine r_assign rfl rfl ?_
    refine r_nil ?_
    refine r_tn ?_
    refine r_seq ?_
    refine r_region ?_
    refine r_assign rfl rfl ?_
    refine r_nil ?_
    refine r_tn ?_
    refine r_seq ?_
    refine r_seq ?_
    refine r_region ?_
    refine r_assign rfl rfl ?_
    refine r_nil ?_
    refine r_tn ?_
    refine r_block ?_
    refine Run.ownNil 48 535 ?_
    refine r_loop4 (fun k A2 c2 A3 c3 => [(4, .pointer (some ⟨b12, 0, none⟩)), (5, .int .u64 ((topN l : Nat) : Int)), (6, .slice A2 k c2), (7, .int .u64 (k : Int))]) (fun k A2 c2 A3 c3 => [.own 48 535 (.slice A2 k c2) k (recsL (tR l k)), .blk b12 (.cells #[.slice A3 (dSt l k).1.length c3, .bool (dSt l k).2] 80 (0, 0))]) (fun k A2 c2 A3 c3 => k ≤ topN l ∧ (∀ j, j < k → decOK (dSt l j).1 = true) ∧ Rd W A3 ((dSt l k).1.map (Value.int .u8)) ∧ (dSt l k).1.length ≤ c3) (topN l) 0 none 0 A18 c18 ⟨by omega, fun j hj => by omega, hR18, hc18⟩ ⟨rfl, rfl, rfl, rfl, trivial⟩ (fun w hw => by have h2 : Sat _ _ [.own 48 535 (.slice none 0 0) 0 [], .blk b12 (.cells #[.slice A18 (rdL (rdL l 4) 4).length c18, .bool (rdB (rdL l 4) 4 (rdB l 4 false))] 80 (0, 0))] w := hw.sub; exact h2) fun k A2 c2 A3 c3 hk => ?_
    obtain ⟨hk, hpre, hR3, hc3⟩ := hk
    refine r_seq ?_
    refine r_seq ?_
    refine r_region ?_
    refine r_move rfl rfl ?_
    refine r_move rfl rfl ?_
    refine r_lss rfl rfl rfl rfl ?_
    refine r_nil ?_
    refine r_tn ?_
    refine r_cond rfl (fun hc => ?_) (fun hc => ?_)
    · refine r_skip ?_
      refine r_tn ?_
      refine r_seq ?_
      refine r_block ?_
      refine r_seq ?_
      refine r_region ?_
      have hk2 : k < topN l := by have h := of_decide_eq_true hc; omega
      clear hc
      have hnl := topN_lt hl8
      refine r_move rfl rfl ?_
      have hbd := dSt_bad h4 hk2 hpre
      refine r_callbw (b := b12) rfl rfl rfl (by kernel_rfl) rfl (fun w hw hs => by exact decode23 W b12 A3 c3 (dSt l k).1 hc3 (Nat.le_trans (dSt_le l k) hm48) (dSt_bytes hl8 k) hb hR3 w (Keeps.of hw) (by rw [hbd] at hs; exact hs)) ?_
      rintro ⟨A26, c26⟩ ⟨hR26, hc26⟩
      refine r_move rfl rfl ?_
      refine r_extract rfl rfl rfl ?_
      refine r_extract rfl rfl rfl ?_
      refine r_allocV (cs := recV rec0) (by kernel_rfl) rfl fun b8 => ?_
      refine r_storeV rfl rfl rfl (recV_size (decRec_len _)) (recV_size rfl) (recV_one _) ?_
      refine r_assign rfl rfl ?_
      refine r_nil ?_
      refine r_tn ?_
      refine r_seq ?_
      refine r_seq ?_
      refine r_region ?_
      refine r_move rfl rfl ?_
      refine r_not rfl rfl rfl ?_
      refine r_nil ?_
      refine r_tn ?_
      refine r_cond rfl (fun hc => ?_) (fun hc => ?_)
      · refine r_seq ?_
        refine r_region ?_
        refine r_assign rfl rfl ?_
        refine r_assign rfl rfl ?_
        refine r_nil ?_
        refine r_tn ?_
        refine r_ret ?_
        refine r_tr ?_
        refine r_br ?_
        refine r_tr ?_
        refine r_tr ?_
        refine r_br ?_
        refine r_tr ?_
        exact r_done2 (.inl rfl) rfl (res_tmp rfl) (res_tmp rfl) fun w hw => ⟨none, rfl, top_no hk2 (by simpa using hc), hw.clear⟩
      · refine r_skip ?_
        refine r_tn ?_
        refine r_region ?_
        refine r_move rfl rfl ?_
        refine r_loadV rfl rfl rfl rfl (recV_size (decRec_len _)) ?_
        refine r_lit (sz := 535) (z := .agg (recV rec0)) (pv := [(0, .agg (recV (decRec (dSt l k).1)))]) (cells := recV (decRec (dSt l k).1)) rfl rfl rfl (by kernel_rfl) rfl rfl (fill_one (v := .agg (recV (decRec (dSt l k).1))) (by decide) (recV_size (decRec_len _)) (by simp)) (recV_size (decRec_len _)) (fun b33 => ?_) (by decide)
        refine r_append (k := 1) (news := recL (decRec (dSt l k).1)) (sz := 535) (bytes := 4152) (z := .agg (recV rec0)) rfl rfl rfl rfl (by kernel_rfl) (recV_size rfl) (by decide) (fun w hw => by have h := own_rd (A := some ⟨b33, 0, none⟩) (m := 1) (c := 1) hw; rw [recV_list] at h; exact h) (recL_len (decRec_len _)) (fun u hu => recL_one hu) (by omega) (by unfold maxLen; omega) fun A34 c34 => ?_
        refine r_assign rfl rfl ?_
        refine r_nil ?_
        refine r_bn ?_
        refine r_tn ?_
        refine r_region ?_
        refine r_move rfl rfl ?_
        refine r_add (r := ((k + 1 : Nat) : Int)) rfl rfl rfl ((IntWalk.u64_in _ ⟨by omega, by omega⟩).trans (by omega)) ?_
        refine r_assign rfl rfl ?_
        refine r_nil ?_
        refine r_tn ?_
        exact r_again4 (k + 1) A34 c34 A26 c26 ⟨by omega, fun j hj => if e : j = k then by subst e; simpa using hc else hpre j (by omega), hR26, hc26⟩ (by omega) ⟨rfl, rfl, rfl, rfl, trivial⟩ (fun w hw => by rw [tR_succ, recsL_snoc]; have h2 : Sat _ _ [.own 48 535 (.slice A34 (k + 1) c34) (k + 1) (recsL (tR l k) ++ recL (decRec (dSt l k).1)), .blk b12 (.cells #[.slice A26 (decS (dSt l k).1).1.length c26, .bool (decS (dSt l k).1).2] 80 (0, 0))] w := hw.sub; exact h2)
    · refine r_exit ?_
      refine r_te ?_
      refine r_te ?_
      refine r_be ?_
      refine r_tn ?_
      refine r_seq ?_
      refine r_seq ?_
      refine r_region ?_
      have hk3 : k = topN l := by have h := of_decide_eq_false hc; omega
      have hte := top_end h4 hmg hk3 hpre
      clear hc
      refine r_move rfl rfl ?_
      refine r_nilCheck rfl rfl ?_
      refine r_fieldAddr (off := 1) (o' := 1) rfl rfl rfl rfl ?_
      refine r_load1 rfl rfl rfl (by rfl) ?_
      refine r_move rfl rfl ?_
      refine r_split 39 rfl (fun hb39 => ?_) (fun hb39 => ?_)
      · refine r_pass rfl rfl rfl rfl ?_
        refine r_pass rfl rfl rfl rfl ?_
        refine r_pass rfl rfl rfl rfl ?_
        refine r_pass rfl rfl rfl rfl ?_
        refine r_pass rfl rfl rfl rfl ?_
        refine r_pass rfl rfl rfl rfl ?_
        refine r_pick_t rfl rfl rfl ?_
        refine r_move rfl rfl ?_
        refine r_pass rfl rfl rfl rfl ?_
        refine r_pass rfl rfl rfl rfl ?_
        refine r_pick_t rfl rfl rfl ?_
        refine r_nil ?_
        refine r_tn ?_
        refine r_cond_t rfl ?_
        refine r_seq ?_
        refine r_region ?_
        refine r_assign rfl rfl ?_
        refine r_assign rfl rfl ?_
        refine r_nil ?_
        refine r_tn ?_
        refine r_ret ?_
        refine r_tr ?_
        exact r_done2 (.inl rfl) rfl (res_tmp rfl) (res_tmp rfl) fun w hw => ⟨none, rfl, by rw [hte, hb39]; rfl, hw.clear⟩
      · refine r_go rfl rfl ?_
        refine r_move rfl rfl ?_
        refine r_go rfl rfl ?_
        refine r_nilCheck rfl rfl ?_
        refine r_go rfl rfl ?_
        refine r_fieldAddr (off := 0) (o' := 0) rfl rfl rfl rfl ?_
        refine r_go rfl rfl ?_
        refine r_load1 rfl rfl rfl (by rfl) ?_
        refine r_go rfl rfl ?_
        refine r_len rfl rfl rfl ?_
        refine r_go rfl rfl ?_
        refine r_gtr (p := decide (0 < (dSt l k).1.length)) rfl rfl rfl (decide_eq_decide.2 ⟨fun _ => by omega, fun _ => by omega⟩) ?_
        refine r_pick_f rfl rfl rfl ?_
        refine r_move rfl rfl ?_
        refine r_split 47 rfl (fun hb47 => ?_) (fun hb47 => ?_)
        · refine r_pass rfl rfl rfl rfl ?_
          refine r_pass rfl rfl rfl rfl ?_
          refine r_pick_t rfl rfl rfl ?_
          refine r_nil ?_
          refine r_tn ?_
          refine r_cond_t rfl ?_
          refine r_seq ?_
          refine r_region ?_
          refine r_assign rfl rfl ?_
          refine r_assign rfl rfl ?_
          refine r_nil ?_
          refine r_tn ?_
          refine r_ret ?_
          refine r_tr ?_
          exact r_done2 (.inl rfl) rfl (res_tmp rfl) (res_tmp rfl) fun w hw => ⟨none, rfl, by rw [hte, decide_eq_false (fun h => by have h2 := of_decide_eq_true hb47; omega), Bool.false_and, Bool.and_false]; rfl, hw.clear⟩
        · refine r_go rfl rfl ?_
          refine r_move rfl rfl ?_
          refine r_go rfl rfl ?_
          refine r_gtr (p := decide (1048576 < topN l)) rfl rfl rfl (decide_eq_decide.2 ⟨fun _ => by omega, fun _ => by omega⟩) ?_
          refine r_pick_f rfl rfl rfl ?_
          refine r_nil ?_
          refine r_tn ?_
          refine r_cond rfl (fun hc => ?_) (fun hc => ?_)
          · refine r_seq ?_
            refine r_region ?_
            refine r_assign rfl rfl ?_
            refine r_assign rfl rfl ?_
            refine r_nil ?_
            refine r_tn ?_
            refine r_ret ?_
            refine r_tr ?_
            exact r_done2 (.inl rfl) rfl (res_tmp rfl) (res_tmp rfl) fun w hw => ⟨none, rfl, by rw [hte, decide_eq_false (p := k ≤ 1048576) (fun h => by have h2 := of_decide_eq_true hc; omega), Bool.and_false, Bool.and_false]; rfl, hw.clear⟩
          · refine r_skip ?_
            refine r_tn ?_
            refine r_seq ?_
            refine r_region ?_
            refine r_move rfl rfl ?_
            refine r_assign rfl rfl ?_
            refine r_assign rfl rfl ?_
            refine r_nil ?_
            refine r_tn ?_
            refine r_ret ?_
            have h1 := of_decide_eq_false hb47
            have h2 := of_decide_eq_false hc
            subst hk3
            exact r_done2 (.inl rfl) rfl (res_tmp rfl) (res_tmp rfl) fun w hw => ⟨some (A2, c2), rfl, by rw [hte, hb39, decide_eq_true (by omega), decide_eq_true (by omega)]; rfl, by have h3 : Sat _ _ [.own 48 535 (.slice A2 (topN l) c2) (topN l) (recsL (tR l (topN l)))] w := hw.sub; exact h3⟩
end Go.Proofs.Ytgicjkjppnkodaa
