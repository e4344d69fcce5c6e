/-
  Records (chapter 23): forward.
-/
import Derived.Test.YtgicjkjppnkodaaOf23
namespace Go.Proofs.Ytgicjkjppnkodaa
open Go Go.RowKit
set_option linter.unusedVariables false
set_option linter.unusedSimpArgs false
set_option maxHeartbeats 2000000
set_option maxRecDepth 4000
attribute [local irreducible] mix

theorem tail_setp {r : Rec} (h : r.pat.length = 16) {k : Nat} (hk : k < 16) (v : Int) : (tailL r).set (2 + k) (.int .u8 v) = tailL { r with pat := r.pat.set k v } := by
  unfold tailL
  rw [List.set_append_right _ _ (by simp), show 2 + k - [Value.bool r.hires, Value.bool r.sound].length = k by simp, List.set_append_left _ _ (by simp; omega), ← List.map_set]
def patK (p : List Int) (k : Nat) : List Int := p.take k ++ List.replicate (16 - k) 0
theorem patK_len {p : List Int} (h : p.length = 16) {k : Nat} (hk : k ≤ 16) : (patK p k).length = 16 := by
  unfold patK
  rw [List.length_append, List.length_take, List.length_replicate]; omega
theorem patK_set {p : List Int} (h : p.length = 16) {k : Nat} (hk : k < 16) : (patK p k).set k (p.getD k 0) = patK p (k + 1) := by
  have e : List.replicate (16 - k) (0 : Int) = 0 :: List.replicate (16 - (k + 1)) 0 := by rw [show 16 - k = (16 - (k + 1)) + 1 by omega, List.replicate_succ]
  have e2 : (p.take k).length = k := by rw [List.length_take]; omega
  have hk2 : k < p.length := by omega
  unfold patK
  rw [e, List.set_append_right _ _ (by omega), e2, Nat.sub_self, List.set_cons_zero, List.take_add_one, List.append_assoc]
  congr 1
  simp [hk2]
/-- the record while its pattern is written -/
def fwA (r : Rec) (k : Nat) : Rec := ⟨fun _ => noneQ, r.hires, r.sound, patK r.pat k, r.pitch, r.kind, r.cause, r.pc, r.cycle⟩
theorem fwA_len {r : Rec} (h : r.pat.length = 16) {k : Nat} (hk : k ≤ 16) : (fwA r k).pat.length = 16 := patK_len h hk
theorem fwA_step {r : Rec} (h : r.pat.length = 16) {k : Nat} (hk : k < 16) : (recV (fwA r k)).setIfInBounds (514 + k) (.int .u8 (r.pat.getD k 0)) = recV (fwA r (k + 1)) := by
  rw [show 514 + k = 512 + (2 + k) by omega]
  refine recV_set rfl ?_
  rw [tail_setp (fwA_len h (by omega)) hk]
  show tailL ⟨_, _, _, (patK r.pat k).set k (r.pat.getD k 0), _, _, _, _, _⟩ = _
  rw [patK_set h hk]
  rfl
def pK (P : Nat → Nat → Nat → Bool) (q j : Nat) : Nat → Nat → Bool := if j < q then P j else noneQ
/-- the record while its planes are written -/
def fwP (r : Rec) (q : Nat) : Rec := ⟨pK r.P q, r.hires, r.sound, r.pat, r.pitch, r.kind, r.cause, r.pc, r.cycle⟩
theorem fwA_end {r : Rec} (h : r.pat.length = 16) : recV (fwA r 16) = recV (fwP r 0) := by
  have e : patK r.pat 16 = r.pat := by
    unfold patK
    rw [← h, List.take_length, Nat.sub_self]; simp
  have e2 : (fun _ => noneQ) = pK r.P 0 := by funext j; unfold pK; rw [if_neg (by omega)]
  unfold fwA fwP
  rw [e, e2]
theorem recV_congrP {r s : Rec} (h : PEq r.P s.P) (ht : tailL r = tailL s) : recV r = recV s := by
  unfold recV recL
  rw [planesL_congr h, ht]
theorem fwP_step {r : Rec} (h : r.pat.length = 16) {q : Nat} (hq : q < 4) : splice (recV (fwP r q)) (128 * q) (planeV (partQ (r.P q) 64)) = recV (fwP r (q + 1)) := by
  rw [splice_plane (show (fwP r q).pat.length = 16 from h) hq]
  refine recV_congrP (fun k hk y hy x hx => ?_) rfl
  show setPl (pK r.P q) q (partQ (r.P q) 64) k y x = pK r.P (q + 1) k y x
  unfold setPl pK
  by_cases e : k = q
  · subst e
    rw [if_pos rfl, if_pos (by omega)]
    unfold partQ
    rw [if_pos hy]
  · rw [if_neg e]
    by_cases e2 : k < q
    · rw [if_pos e2, if_pos (by omega)]
    · rw [if_neg e2, if_neg (by omega)]
theorem fwP_end (r : Rec) : recV (fwP r 4) = recV r := by
  refine recV_congrP (fun k hk y hy x hx => ?_) rfl
  show pK r.P 4 k y x = r.P k y x
  unfold pK
  rw [if_pos hk]
theorem forward23 (r : Rec) (i : RefIx) (hp : r.pat.length = 16) (w : World) (h : RefIs w r i) :
    Calls Try.prog 10 #[.agg (refV r i)] w fun e w' => e = .returned (.agg (recV r)) ∧ Sat w [] [] w' := by
  obtain ⟨a, c, bb, d, f, R⟩ := i
  obtain ⟨hA, hB, hP⟩ := h
  have hA : Rd w (some ⟨a, 0, none⟩) (plS4 f 4) := hA
  have hB : Rd w (some ⟨bb, 0, none⟩) (r.pat.map (Value.int .u8)) := hB
  have hP : ∀ j, j < 4 → Rd w (some ⟨f j, 0, none⟩) (boolsN 8192 (flatP (r.P j))) := hP
  rw [show refV r ⟨a, c, bb, d, f, R⟩ = #[.slice (some ⟨a, 0, none⟩) 4 c, .bool r.hires, .bool r.sound, .slice (some ⟨bb, 0, none⟩) 16 d, .int .u8 r.pitch, .int .i64 r.kind, .int .i64 r.cause, .int .i64 r.pc, .int .i64 r.cycle] from rfl]
  refine enter Try.func10 rfl rfl rfl ?_
  refine r_seq ?_
  refine r_region ?_
  refine r_boxV rfl rfl fun b1 => ?_
  refine r_allocV (cs := recV rec0) (by kernel_rfl) rfl fun b2 => ?_
  refine r_nil ?_
  refine r_tn ?_
  refine r_seq ?_
  refine r_region ?_
  refine r_fieldAddr (off := 1) (o' := 1) rfl rfl rfl rfl ?_
  refine r_load1 rfl rfl rfl (by rfl) ?_
  refine r_fieldAddr (off := 2) (o' := 2) rfl rfl rfl rfl ?_
  refine r_load1 rfl rfl rfl (by rfl) ?_
  refine r_fieldAddr (off := 4) (o' := 4) rfl rfl rfl rfl ?_
  refine r_load1 rfl rfl rfl (by rfl) ?_
  refine r_fieldAddr (off := 5) (o' := 5) rfl rfl rfl rfl ?_
  refine r_loadN (m := 4) (vs := #[.int .i64 r.kind, .int .i64 r.cause, .int .i64 r.pc, .int .i64 r.cycle]) rfl rfl rfl rfl (Nat.le_of_ble_eq_true rfl) rfl ?_
  refine r_build (cells := recV (fwA r 0)) rfl rfl (by kernel_rfl) ?_
  refine r_allocV (cs := recV rec0) (by kernel_rfl) rfl fun b3 => ?_
  refine r_storeV rfl rfl rfl (recV_size rfl) (recV_size rfl) (recV_one _) ?_
  refine r_nil ?_
  refine r_tn ?_
  refine r_seq ?_
  refine r_seq ?_
  refine r_region ?_
  refine r_assign rfl rfl ?_
  refine r_nil ?_
  refine r_tn ?_
  refine r_block ?_
  refine r_loopN (fun k => [(1, .pointer (some ⟨b1, 0, none⟩)), (2, .pointer (some ⟨b2, 0, none⟩)), (3, .pointer (some ⟨b3, 0, none⟩)), (4, .int .i64 (k : Int))]) (fun k => [.blk b1 (.cells #[.slice (some ⟨a, 0, none⟩) 4 c, .bool r.hires, .bool r.sound, .slice (some ⟨bb, 0, none⟩) 16 d, .int .u8 r.pitch, .int .i64 r.kind, .int .i64 r.cause, .int .i64 r.pc, .int .i64 r.cycle] 32 (0, 0)), .blk b2 (.cells (recV rec0) 48 (0, 0)), .blk b3 (.cells (recV (fwA r k)) 48 (0, 0))]) (fun k => k ≤ 16) 16 0 (by omega) ⟨rfl, rfl, rfl, rfl, trivial⟩ (fun w hw => hw.sub) fun k hk => ?_
  refine r_seq ?_
  refine r_seq ?_
  refine r_region ?_
  refine r_move rfl rfl ?_
  refine r_lss rfl rfl rfl rfl ?_
  refine r_nil ?_
  refine r_tn ?_
  refine r_cond rfl (fun hc => ?_) (fun hc => ?_)
  · refine r_skip ?_
    refine r_tn ?_
    refine r_seq ?_
    refine r_block ?_
    refine r_region ?_
    have hk2 : k < 16 := by have h := of_decide_eq_true hc; omega
    refine r_move rfl rfl ?_
    refine r_fieldAddr (off := 3) (o' := 3) rfl rfl rfl rfl ?_
    refine r_load1 rfl rfl rfl (by rfl) ?_
    refine r_move rfl rfl ?_
    refine r_indexSl (sz := 1) (o' := 0 + k) rfl rfl rfl rfl rfl (by omega) (by omega) (by omega) ?_
    refine r_loadC (p := ⟨bb, 0 + k, none⟩) (v := .int .u8 (r.pat.getD k 0)) rfl rfl rfl (fun w hw => (hB.keep hw).cell (by simp [hp, hk2]) rfl) ?_
    refine r_fieldAddr (off := 514) (o' := 514) rfl rfl rfl rfl ?_
    refine r_indexArr (sz := 1) (o' := 514 + k) rfl rfl rfl rfl rfl (by omega) (by omega) (by omega) ?_
    refine r_store (m := 1) (cs' := recV (fwA r (k + 1))) rfl rfl rfl rfl (by rw [recV_size (fwA_len hp (by omega))]; omega) rfl ((splice_one _ _ _ (by rw [recV_size (fwA_len hp (by omega))]; omega)).trans (fwA_step hp hk2)) ?_
    refine r_nil ?_
    refine r_bn ?_
    refine r_tn ?_
    refine r_region ?_
    refine r_move rfl rfl ?_
    refine r_add rfl rfl rfl (w64 (by omega)) ?_
    refine r_assign rfl rfl ?_
    refine r_nil ?_
    refine r_tn ?_
    exact r_againN (k + 1) (by omega) (by omega) ⟨rfl, rfl, rfl, rfl, trivial⟩ (fun w hw => hw.sub)
  · refine r_exit ?_
    refine r_te ?_
    refine r_te ?_
    refine r_be ?_
    refine r_tn ?_
    refine r_seq ?_
    refine r_seq ?_
    refine r_region ?_
    refine r_assign rfl rfl ?_
    refine r_nil ?_
    refine r_tn ?_
    refine r_block ?_
    have hk16 : k = 16 := by have h := of_decide_eq_false hc; omega
    subst hk16
    refine r_loopN (fun q => [(1, .pointer (some ⟨b1, 0, none⟩)), (2, .pointer (some ⟨b2, 0, none⟩)), (3, .pointer (some ⟨b3, 0, none⟩)), (5, .int .i64 (q : Int))]) (fun q => [.blk b1 (.cells #[.slice (some ⟨a, 0, none⟩) 4 c, .bool r.hires, .bool r.sound, .slice (some ⟨bb, 0, none⟩) 16 d, .int .u8 r.pitch, .int .i64 r.kind, .int .i64 r.cause, .int .i64 r.pc, .int .i64 r.cycle] 32 (0, 0)), .blk b2 (.cells (recV rec0) 48 (0, 0)), .blk b3 (.cells (recV (fwP r q)) 48 (0, 0))]) (fun q => q ≤ 4) 4 0 (by omega) ⟨rfl, rfl, rfl, rfl, trivial⟩ (fun w hw => by rw [← fwA_end hp]; exact hw.sub) fun q hq => ?_
    refine r_seq ?_
    refine r_seq ?_
    refine r_region ?_
    refine r_move rfl rfl ?_
    refine r_lss rfl rfl rfl rfl ?_
    refine r_nil ?_
    refine r_tn ?_
    refine r_cond rfl (fun hc => ?_) (fun hc => ?_)
    · refine r_skip ?_
      refine r_tn ?_
      refine r_seq ?_
      refine r_block ?_
      refine r_seq ?_
      refine r_region ?_
      have hq2 : q < 4 := by have h := of_decide_eq_true hc; omega
      refine r_allocV (cs := planeV noneQ) (by kernel_rfl) rfl fun b6 => ?_
      refine r_nil ?_
      refine r_tn ?_
      refine r_seq ?_
      refine r_seq ?_
      refine r_region ?_
      refine r_assign rfl rfl ?_
      refine r_nil ?_
      refine r_tn ?_
      refine r_block ?_
      refine r_loopN (fun y => [(1, .pointer (some ⟨b1, 0, none⟩)), (2, .pointer (some ⟨b2, 0, none⟩)), (3, .pointer (some ⟨b3, 0, none⟩)), (5, .int .i64 (q : Int)), (6, .pointer (some ⟨b6, 0, none⟩)), (7, .int .i64 (y : Int))]) (fun y => [.blk b1 (.cells #[.slice (some ⟨a, 0, none⟩) 4 c, .bool r.hires, .bool r.sound, .slice (some ⟨bb, 0, none⟩) 16 d, .int .u8 r.pitch, .int .i64 r.kind, .int .i64 r.cause, .int .i64 r.pc, .int .i64 r.cycle] 32 (0, 0)), .blk b2 (.cells (recV rec0) 48 (0, 0)), .blk b3 (.cells (recV (fwP r q)) 48 (0, 0)), .blk b6 (.cells (planeV (partQ (r.P q) y)) 45 (0, 0))]) (fun y => y ≤ 64) 64 0 (by omega) ⟨rfl, rfl, rfl, rfl, rfl, rfl, trivial⟩ (fun w hw => by rw [show partQ (r.P q) 0 = noneQ from rfl]; exact hw.sub) fun y hy => ?_
      refine r_seq ?_
      refine r_seq ?_
      refine r_region ?_
      refine r_move rfl rfl ?_
      refine r_lss rfl rfl rfl rfl ?_
      refine r_nil ?_
      refine r_tn ?_
      refine r_cond rfl (fun hc => ?_) (fun hc => ?_)
      · refine r_skip ?_
        refine r_tn ?_
        refine r_seq ?_
        refine r_block ?_
        refine r_seq ?_
        refine r_region ?_
        refine r_fieldAddr (off := 0) (o' := 0) rfl rfl rfl rfl ?_
        refine r_load1 rfl rfl rfl (by rfl) ?_
        refine r_move rfl rfl ?_
        have hy2 : y < 64 := by have h := of_decide_eq_true hc; omega
        refine r_indexSl (sz := 1) (o' := 0 + q) rfl rfl rfl rfl rfl (by omega) (by omega) (by omega) ?_
        refine r_loadC (p := ⟨a, 0 + q, none⟩) (v := .slice (some ⟨f q, 0, none⟩) 8192 8192) rfl rfl rfl (fun w hw => (hA.keep hw).cell (plS4_at f hq2) rfl) ?_
        refine r_move rfl rfl ?_
        refine r_call rfl rfl rfl (by kernel_rfl) rfl (fun w hw => by exact words07 (r.P q) y (f q) 8192 w ((hP q hq2).keep hw) hy2) ?_
        refine r_move rfl rfl ?_
        refine r_extract rfl rfl rfl ?_
        refine r_extract rfl rfl rfl ?_
        refine r_assign rfl rfl ?_
        refine r_assign rfl rfl ?_
        refine r_nil ?_
        refine r_tn ?_
        refine r_region ?_
        refine r_move rfl rfl ?_
        refine r_move rfl rfl ?_
        refine r_move rfl rfl ?_
        refine r_build (cells := rowV (r.P q y)) rfl rfl (by kernel_rfl) ?_
        refine r_fieldAddr (off := 0) (o' := 0) rfl rfl rfl rfl ?_
        refine r_indexArr (sz := 2) (o' := 2 * y) rfl rfl rfl rfl rfl (by omega) (by omega) (by omega) ?_
        refine r_store (m := 2) (cs' := planeV (partQ (r.P q) (y + 1))) rfl rfl rfl rfl (by rw [planeV_size]; omega) rfl ((planeV_set _ (by omega) _).trans (by rw [partQ_succ])) ?_
        refine r_nil ?_
        refine r_bn ?_
        refine r_tn ?_
        refine r_region ?_
        refine r_move rfl rfl ?_
        refine r_add rfl rfl rfl (w64 (by omega)) ?_
        refine r_assign rfl rfl ?_
        refine r_nil ?_
        refine r_tn ?_
        exact r_againN (y + 1) (by omega) (by omega) ⟨rfl, rfl, rfl, rfl, rfl, rfl, trivial⟩ (fun w hw => hw.sub)
      · refine r_exit ?_
        refine r_te ?_
        refine r_te ?_
        refine r_be ?_
        refine r_tn ?_
        refine r_region ?_
        have hy3 : y = 64 := by have h := of_decide_eq_false hc; omega
        subst hy3
        refine r_move rfl rfl ?_
        refine r_loadV rfl rfl rfl rfl (planeV_size _) ?_
        refine r_fieldAddr (off := 0) (o' := 0) rfl rfl rfl rfl ?_
        refine r_indexArr (sz := 128) (o' := 128 * q) rfl rfl rfl rfl rfl (by omega) (by omega) (by omega) ?_
        refine r_store (m := 128) (cs' := recV (fwP r (q + 1))) rfl rfl rfl (planeV_size _) (by rw [recV_size (show (fwP r q).pat.length = 16 from hp)]; omega) (planeV_one _) (fwP_step hp hq2) ?_
        refine r_nil ?_
        refine r_bn ?_
        refine r_tn ?_
        refine r_region ?_
        refine r_move rfl rfl ?_
        refine r_add rfl rfl rfl (w64 (by omega)) ?_
        refine r_assign rfl rfl ?_
        refine r_nil ?_
        refine r_tn ?_
        exact r_againN (q + 1) (by omega) (by omega) ⟨rfl, rfl, rfl, rfl, trivial⟩ (fun w hw => hw.sub)
    · refine r_exit ?_
      refine r_te ?_
      refine r_te ?_
      refine r_be ?_
      refine r_tn ?_
      refine r_seq ?_
      refine r_region ?_
      have hq3 : q = 4 := by have h := of_decide_eq_false hc; omega
      subst hq3
      refine r_loadV rfl rfl rfl rfl (recV_size (show (fwP r 4).pat.length = 16 from hp)) ?_
      refine r_storeV rfl rfl rfl (recV_size (show (fwP r 4).pat.length = 16 from hp)) (recV_size rfl) (recV_one _) ?_
      refine r_nil ?_
      refine r_tn ?_
      refine r_ret ?_
      exact r_done1 (.inl rfl) rfl (res_cellV rfl rfl rfl (recV_size (show (fwP r 4).pat.length = 16 from hp))) fun w hw => ⟨congrArg (fun c => Ending.returned (.agg c)) (fwP_end r), hw.clear⟩
end Go.Proofs.Ytgicjkjppnkodaa
