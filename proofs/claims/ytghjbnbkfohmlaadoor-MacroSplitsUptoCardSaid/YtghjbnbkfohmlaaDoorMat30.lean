/-
  Macros (chapter 30): MacroMatchesReference.
-/
import Derived.Test.YtghjbnbkfohmlaaDoorRefE30
namespace Go.Proofs.YtghjbnbkfohmlaaDoor
open Go Go.RowKit
set_option linter.unusedVariables false
set_option linter.unusedSimpArgs false
set_option maxHeartbeats 2000000
set_option maxRecDepth 4000
attribute [local irreducible] mix

theorem run_sh : ∀ (l : List (List UInt8)) (s : St) (m : Nat), (∀ f ∈ s.fs, f.length ≤ m) → s.pr.length ≤ m → (∀ f ∈ (runL s l).fs, f.length ≤ m + l.length) ∧ (runL s l).pr.length ≤ m + l.length
  | [], s, m, h1, h2 => ⟨h1, h2⟩
  | x :: l, s, m, h1, h2 => by
    rw [runL_cons, List.length_cons]
    have hs : (∀ f ∈ (stTry s (lineC x)).fs, f.length ≤ m + 1) ∧ (stTry s (lineC x)).pr.length ≤ m + 1 := by
      cases lineC x with
      | none => exact ⟨fun f hf => Nat.le_succ_of_le (h1 f hf), Nat.le_succ_of_le h2⟩
      | some c =>
        cases c with
        | ev n d => exact ⟨fun f hf => Nat.le_succ_of_le (h1 f hf), by show (s.pr ++ [_]).length ≤ _; rw [len_snoc]; omega⟩
        | wait n =>
          refine ⟨fun f hf => ?_, Nat.zero_le _⟩
          have hf : f ∈ s.fs ++ [s.pr] ++ List.replicate (n - 1) [] := hf
          rcases List.mem_append.1 hf with hf | hf
          · rcases List.mem_append.1 hf with hf | hf
            · exact Nat.le_succ_of_le (h1 f hf)
            · rw [List.mem_singleton.1 hf]; omega
          · rw [List.eq_of_mem_replicate hf]; exact Nat.zero_le _
        | tap k n =>
          refine ⟨fun f hf => ?_, by show ([] ++ [_] : List Ev).length ≤ _; simp⟩
          have hf : f ∈ s.fs ++ [s.pr ++ [((k : Int), true)]] ++ List.replicate (n - 1) [] := hf
          rcases List.mem_append.1 hf with hf | hf
          · rcases List.mem_append.1 hf with hf | hf
            · exact Nat.le_succ_of_le (h1 f hf)
            · rw [List.mem_singleton.1 hf, len_snoc]; omega
          · rw [List.eq_of_mem_replicate hf]; exact Nat.zero_le _
    obtain ⟨i1, i2⟩ := run_sh l (stTry s (lineC x)) (m + 1) hs.1 hs.2
    exact ⟨fun f hf => by have := i1 f hf; omega, by omega⟩
theorem res_sh (ls : List (List UInt8)) (h : ls.length ≤ 1000000) : ∀ f ∈ resF (stOf ls), f.length ≤ 1000000000000 := by
  obtain ⟨h1, h2⟩ := run_sh ls ⟨[], []⟩ 0 (fun f hf => by cases hf) (Nat.le_refl _)
  rw [← stOf_run] at h1 h2
  intro f hf
  unfold resF at hf
  split at hf
  · have := h1 f hf; omega
  · rcases List.mem_append.1 hf with hf | hf
    · have := h1 f hf; omega
    · rw [List.mem_singleton.1 hf]; omega
theorem res_len (ls : List (List UInt8)) (h : ls.length ≤ 1000000) : (resF (stOf ls)).length ≤ 1000000000000 := by
  obtain ⟨h1, h2⟩ := stOf_count _ ls rfl
  unfold resF
  split
  · omega
  · rw [len_snoc]; omega
theorem refExpandE30 (A : Option Addr) (c : Nat) (ls : List (List UInt8)) (hok : okLs ls = true) (hlen1 : ls.length ≤ 1000000) (hlen2 : ∀ l ∈ ls, l.length ≤ 1000000) (w : World) (hR : Rd w A (ls.map txV)) :
    Calls Tryd.prog 15 #[.slice A ls.length c] w fun e w' => ∃ ix : BIx, e = .returned (.tuple #[.slice ix.A0 (resF (stOf ls)).length ix.c0, .int .i64 0, .bool true]) ∧ FrL ix.hv (resF (stOf ls)) ix.L ∧ Sat w [] ([.own 25 1 (.slice ix.A0 (resF (stOf ls)).length ix.c0) (resF (stOf ls)).length ix.hv] ++ ownsOf ix.L) w' :=
  (refExpandA30 A c ls hlen1 hlen2 w hR).mono fun e w' h => by
    rcases h with h | h
    · exact h.2
    · rw [hok] at h; cases h.1
theorem refExpandBad30 (A : Option Addr) (c : Nat) (ls : List (List UInt8)) (hok : okLs ls = false) (hlen1 : ls.length ≤ 1000000) (hlen2 : ∀ l ∈ ls, l.length ≤ 1000000) (w : World) (hR : Rd w A (ls.map txV)) :
    Calls Tryd.prog 15 #[.slice A ls.length c] w fun e w' => e = .returned (.tuple #[.slice none 0 0, .int .i64 ((badI ls : Nat) : Int), .bool false]) ∧ Sat w [] [] w' :=
  (refExpandA30 A c ls hlen1 hlen2 w hR).mono fun e w' h => by
    rcases h with h | h
    · rw [hok] at h; cases h.1
    · exact h.2
attribute [local irreducible] evsL ownsOf rightB cmdsL waitT evT stOf splitS keyN countN basicL lineC cmdOf runL resF okLs badI


theorem match_good (ls : List (List UInt8)) (A : Option Addr) (c : Nat) (hok : okLs ls = true) (w : World) (hG : Glob30 w) (hR : Rd w A (ls.map txV)) :
    Calls Tryd.prog 5 #[.slice A ls.length c] w fun e w' => e = .returned (.bool true) ∧ Sat w [] [] w' := by
  refine enter Tryd.func5 rfl rfl rfl ?_
  refine r_seq ?_
  refine r_region ?_
  refine r_assign rfl rfl ?_
  refine r_nil ?_
  refine r_tn ?_
  refine r_seq ?_
  refine r_seq ?_
  refine r_region ?_
  refine r_call rfl rfl rfl (by kernel_rfl) rfl (fun w hw => by exact awake30 w (hG.keep hw.clear)) ?_
  refine r_not rfl rfl rfl ?_
  refine r_move rfl rfl ?_
  refine r_go rfl rfl ?_
  refine r_move rfl rfl ?_
  refine r_go rfl rfl ?_
  refine r_len rfl rfl rfl ?_
  refine r_go rfl rfl ?_
  refine r_gtr (p := decide (50 < ls.length)) rfl rfl rfl (decide_eq_decide.2 ⟨fun _ => by omega, fun _ => by omega⟩) ?_
  refine r_pick_f rfl rfl rfl ?_
  refine r_nil ?_
  refine r_tn ?_
  refine r_cond rfl (fun hc => ?_) (fun hc => ?_)
  · refine r_seq ?_
    refine r_region ?_
    refine r_call rfl rfl rfl (by kernel_rfl) rfl (fun w hw => by exact awake30 w (hG.keep hw.clear)) ?_
    refine r_assign rfl rfl ?_
    refine r_nil ?_
    refine r_tn ?_
    refine r_ret ?_
    refine r_tr ?_
    exact r_done1 (.inl rfl) rfl (res_tmp rfl) fun w hw => ⟨rfl, hw.clear⟩
  · refine r_skip ?_
    refine r_tn ?_
    refine r_seq ?_
    refine r_seq ?_
    refine r_region ?_
    refine r_assign rfl rfl ?_
    refine r_nil ?_
    refine r_tn ?_
    refine r_block ?_
    have hl50 : ls.length ≤ 50 := by have h := of_decide_eq_false hc; omega
    clear hc
    refine r_loopN (fun i => [(0, .slice A ls.length c), (3, .int .i64 (i : Int))]) (fun _ => []) (fun i => i ≤ ls.length ∧ ∀ j (h : j < ls.length), j < i → ls[j].length ≤ 12) ls.length 0 ⟨by omega, fun j h hj => by omega⟩ ⟨rfl, rfl, trivial⟩ (fun w hw => hw.clear) fun i hp => ?_
    obtain ⟨hi, hg⟩ := hp
    refine r_seq ?_
    refine r_seq ?_
    refine r_region ?_
    refine r_move rfl rfl ?_
    refine r_move rfl rfl ?_
    refine r_len rfl rfl rfl ?_
    refine r_lss (p := decide (i < ls.length)) rfl rfl rfl (decide_eq_decide.2 ⟨fun _ => by omega, fun _ => by omega⟩) ?_
    refine r_nil ?_
    refine r_tn ?_
    refine r_cond rfl (fun hc => ?_) (fun hc => ?_)
    · refine r_skip ?_
      refine r_tn ?_
      refine r_seq ?_
      refine r_block ?_
      refine r_seq ?_
      refine r_region ?_
      have hi2 : i < ls.length := by have h := of_decide_eq_true hc; omega
      clear hc
      have hly : (ls.map txV)[i]? = some (txV ls[i]) := txs_at hi2
      obtain ⟨ba, oa, rfl⟩ := rd_some hR hly
      refine r_move rfl rfl ?_
      refine r_move rfl rfl ?_
      refine r_indexSl (sz := 1) (o' := oa + i) rfl rfl rfl rfl rfl (by omega) (by omega) (by omega) ?_
      refine r_loadC (p := ⟨ba, oa + i, none⟩) (v := txV ls[i]) rfl rfl rfl (fun w hw => (hR.keep hw.clear).cell hly rfl) ?_
      refine r_lenStr (s := tx ls[i]) rfl rfl rfl ?_
      refine r_gtr (p := decide (12 < ls[i].length)) rfl rfl rfl (by rw [tx_size]; exact decide_eq_decide.2 ⟨fun _ => by omega, fun _ => by omega⟩) ?_
      refine r_nil ?_
      refine r_tn ?_
      refine r_cond rfl (fun hc => ?_) (fun hc => ?_)
      · refine r_seq ?_
        refine r_region ?_
        refine r_assign rfl rfl ?_
        refine r_nil ?_
        refine r_tn ?_
        refine r_ret ?_
        refine r_br ?_
        refine r_tr ?_
        refine r_tr ?_
        refine r_br ?_
        refine r_tr ?_
        exact r_done1 (.inl rfl) rfl (res_tmp rfl) fun w hw => ⟨rfl, hw.clear⟩
      · refine r_skip ?_
        refine r_bn ?_
        refine r_tn ?_
        refine r_region ?_
        refine r_move rfl rfl ?_
        refine r_add rfl rfl rfl (w64 (by omega)) ?_
        refine r_assign rfl rfl ?_
        refine r_nil ?_
        refine r_tn ?_
        have h12 : ls[i].length ≤ 12 := by have h := of_decide_eq_false hc; omega
        exact r_againN (i + 1) ⟨by omega, fun j h hj => by
          by_cases e : j = i
          · subst e; exact h12
          · exact hg j h (by omega)⟩ (by omega) ⟨rfl, rfl, trivial⟩ (fun w hw => hw.clear)
    · refine r_exit ?_
      refine r_te ?_
      refine r_te ?_
      refine r_be ?_
      refine r_tn ?_
      refine r_seq ?_
      refine r_region ?_
      have hi3 : i = ls.length := by have h : ¬ i < ls.length := of_decide_eq_false hc; omega
      clear hc
      subst hi3
      have hg2 : ∀ j (h : j < ls.length), j < ls.length → ls[j].length ≤ 12 := hg
      have hl2 : ∀ l ∈ ls, l.length ≤ 1000000 := fun l hl => by
        obtain ⟨j, hj, rfl⟩ := List.mem_iff_getElem.1 hl
        have := hg2 j hj hj
        omega
      refine Run.startL ?_
      refine r_move rfl rfl ?_
      refine r_callE (X := []) (L0 := []) (by first | rfl | exact (by simp)) rfl rfl rfl (by kernel_rfl) rfl (fun w hw => by exact expandE30 A c ls.length ls (resF (stOf ls)) rfl rfl hok (by omega) hl2 w (hG.keep hw.clear) (hR.keep hw.clear)) ?_
      rintro ⟨B, d, _, _, hu, M⟩ hF2
      have hF2 : FrL hu (resF (stOf ls)) M := hF2
      refine Run.less (H' := .own 25 1 (.slice B (resF (stOf ls)).length d) (resF (stOf ls)).length hu :: ownsOf (M ++ [])) (fun w hw => hw.sub) ?_
      rw [List.append_nil]
      refine r_move rfl rfl ?_
      refine r_extract (v := .slice B (resF (stOf ls)).length d) rfl rfl rfl ?_
      refine r_extract (v := .int .i64 0) rfl rfl rfl ?_
      refine r_extract (v := .int .i64 0) rfl rfl rfl ?_
      refine r_assign rfl rfl ?_
      refine r_assign rfl rfl ?_
      refine r_assign rfl rfl ?_
      refine r_nil ?_
      refine r_tn ?_
      refine r_seq ?_
      refine r_region ?_
      refine r_move rfl rfl ?_
      refine r_callE (X := [.own 25 1 (.slice B (resF (stOf ls)).length d) (resF (stOf ls)).length hu]) (L0 := M) (by first | rfl | exact (by simp)) rfl rfl rfl (by kernel_rfl) rfl (fun w hw => by exact refExpandE30 A c ls hok (by omega) hl2 w (hR.keep hw.clear)) ?_
      rintro ⟨C, e, _, _, ht, O⟩ hF3
      have hF3 : FrL ht (resF (stOf ls)) O := hF3
      refine Run.less (H' := .own 25 1 (.slice C (resF (stOf ls)).length e) (resF (stOf ls)).length ht :: .own 25 1 (.slice B (resF (stOf ls)).length d) (resF (stOf ls)).length hu :: ownsOf (O ++ M)) (fun w hw => hw.sub) ?_
      refine r_move rfl rfl ?_
      refine r_extract (v := .slice C (resF (stOf ls)).length e) rfl rfl rfl ?_
      refine r_extract (v := .int .i64 0) rfl rfl rfl ?_
      refine r_extract (v := .bool true) rfl rfl rfl ?_
      refine r_assign rfl rfl ?_
      refine r_assign rfl rfl ?_
      refine r_assign rfl rfl ?_
      refine r_nil ?_
      refine r_tn ?_
      refine r_seq ?_
      refine r_seq ?_
      refine r_region ?_
      refine r_move rfl rfl ?_
      refine r_not (b := true) rfl rfl rfl ?_
      refine r_nil ?_
      refine r_tn ?_
      refine r_cond_f rfl ?_
      refine r_skip ?_
      refine r_tn ?_
      refine r_seq ?_
      refine r_region ?_
      refine r_move rfl rfl ?_
      refine r_move rfl rfl ?_
      refine r_call rfl rfl rfl (by kernel_rfl) rfl (fun w hw => by exact refSame30 (resF (stOf ls)) (res_len ls (by omega)) B C d e hu ht w (own_rd (A := B) (m := (resF (stOf ls)).length) (c := d) hw) ((hF2.right O).rd (fun x hx => hw.ok x (by simp [hx]))) (own_rd (A := C) (m := (resF (stOf ls)).length) (c := e) hw) ((hF3.left M).rd (fun x hx => hw.ok x (by simp [hx]))) (res_sh ls (by omega))) ?_
      refine r_move rfl rfl ?_
      refine r_go rfl rfl ?_
      refine r_move rfl rfl ?_
      refine r_go rfl rfl ?_
      refine r_eql (p := true) rfl rfl rfl rfl ?_
      refine r_pick_t rfl rfl rfl ?_
      refine r_move rfl rfl ?_
      refine r_go rfl rfl ?_
      refine r_move rfl rfl ?_
      refine r_go rfl rfl ?_
      refine r_eql (p := true) rfl rfl rfl rfl ?_
      refine r_pick_t rfl rfl rfl ?_
      refine r_move rfl rfl ?_
      refine r_go rfl rfl ?_
      refine r_move rfl rfl ?_
      refine r_go rfl rfl ?_
      refine r_call rfl rfl rfl (by kernel_rfl) rfl (fun w hw => by exact length30 A c ls hok (by omega) hl2 w (hG.keep hw.clear) (hR.keep hw.clear)) ?_
      refine r_go rfl rfl ?_
      refine r_move rfl rfl ?_
      refine r_go rfl rfl ?_
      refine r_len rfl rfl rfl ?_
      refine r_go rfl rfl ?_
      refine r_eql (p := true) rfl rfl rfl (decide_eq_true rfl) ?_
      refine r_pick_t rfl rfl rfl ?_
      refine r_assign rfl rfl ?_
      refine r_nil ?_
      refine r_tn ?_
      refine r_ret ?_
      exact r_done1 (.inl rfl) rfl (res_tmp rfl) fun w hw => ⟨rfl, hw.clear⟩

theorem match_bad (ls : List (List UInt8)) (A : Option Addr) (c : Nat) (hok : okLs ls = false) (w : World) (hG : Glob30 w) (hR : Rd w A (ls.map txV)) :
    Calls Tryd.prog 5 #[.slice A ls.length c] w fun e w' => e = .returned (.bool true) ∧ Sat w [] [] w' := by
  refine enter Tryd.func5 rfl rfl rfl ?_
  refine r_seq ?_
  refine r_region ?_
  refine r_assign rfl rfl ?_
  refine r_nil ?_
  refine r_tn ?_
  refine r_seq ?_
  refine r_seq ?_
  refine r_region ?_
  refine r_call rfl rfl rfl (by kernel_rfl) rfl (fun w hw => by exact awake30 w (hG.keep hw.clear)) ?_
  refine r_not rfl rfl rfl ?_
  refine r_move rfl rfl ?_
  refine r_go rfl rfl ?_
  refine r_move rfl rfl ?_
  refine r_go rfl rfl ?_
  refine r_len rfl rfl rfl ?_
  refine r_go rfl rfl ?_
  refine r_gtr (p := decide (50 < ls.length)) rfl rfl rfl (decide_eq_decide.2 ⟨fun _ => by omega, fun _ => by omega⟩) ?_
  refine r_pick_f rfl rfl rfl ?_
  refine r_nil ?_
  refine r_tn ?_
  refine r_cond rfl (fun hc => ?_) (fun hc => ?_)
  · refine r_seq ?_
    refine r_region ?_
    refine r_call rfl rfl rfl (by kernel_rfl) rfl (fun w hw => by exact awake30 w (hG.keep hw.clear)) ?_
    refine r_assign rfl rfl ?_
    refine r_nil ?_
    refine r_tn ?_
    refine r_ret ?_
    refine r_tr ?_
    exact r_done1 (.inl rfl) rfl (res_tmp rfl) fun w hw => ⟨rfl, hw.clear⟩
  · refine r_skip ?_
    refine r_tn ?_
    refine r_seq ?_
    refine r_seq ?_
    refine r_region ?_
    refine r_assign rfl rfl ?_
    refine r_nil ?_
    refine r_tn ?_
    refine r_block ?_
    have hl50 : ls.length ≤ 50 := by have h := of_decide_eq_false hc; omega
    clear hc
    refine r_loopN (fun i => [(0, .slice A ls.length c), (3, .int .i64 (i : Int))]) (fun _ => []) (fun i => i ≤ ls.length ∧ ∀ j (h : j < ls.length), j < i → ls[j].length ≤ 12) ls.length 0 ⟨by omega, fun j h hj => by omega⟩ ⟨rfl, rfl, trivial⟩ (fun w hw => hw.clear) fun i hp => ?_
    obtain ⟨hi, hg⟩ := hp
    refine r_seq ?_
    refine r_seq ?_
    refine r_region ?_
    refine r_move rfl rfl ?_
    refine r_move rfl rfl ?_
    refine r_len rfl rfl rfl ?_
    refine r_lss (p := decide (i < ls.length)) rfl rfl rfl (decide_eq_decide.2 ⟨fun _ => by omega, fun _ => by omega⟩) ?_
    refine r_nil ?_
    refine r_tn ?_
    refine r_cond rfl (fun hc => ?_) (fun hc => ?_)
    · refine r_skip ?_
      refine r_tn ?_
      refine r_seq ?_
      refine r_block ?_
      refine r_seq ?_
      refine r_region ?_
      have hi2 : i < ls.length := by have h := of_decide_eq_true hc; omega
      clear hc
      have hly : (ls.map txV)[i]? = some (txV ls[i]) := txs_at hi2
      obtain ⟨ba, oa, rfl⟩ := rd_some hR hly
      refine r_move rfl rfl ?_
      refine r_move rfl rfl ?_
      refine r_indexSl (sz := 1) (o' := oa + i) rfl rfl rfl rfl rfl (by omega) (by omega) (by omega) ?_
      refine r_loadC (p := ⟨ba, oa + i, none⟩) (v := txV ls[i]) rfl rfl rfl (fun w hw => (hR.keep hw.clear).cell hly rfl) ?_
      refine r_lenStr (s := tx ls[i]) rfl rfl rfl ?_
      refine r_gtr (p := decide (12 < ls[i].length)) rfl rfl rfl (by rw [tx_size]; exact decide_eq_decide.2 ⟨fun _ => by omega, fun _ => by omega⟩) ?_
      refine r_nil ?_
      refine r_tn ?_
      refine r_cond rfl (fun hc => ?_) (fun hc => ?_)
      · refine r_seq ?_
        refine r_region ?_
        refine r_assign rfl rfl ?_
        refine r_nil ?_
        refine r_tn ?_
        refine r_ret ?_
        refine r_br ?_
        refine r_tr ?_
        refine r_tr ?_
        refine r_br ?_
        refine r_tr ?_
        exact r_done1 (.inl rfl) rfl (res_tmp rfl) fun w hw => ⟨rfl, hw.clear⟩
      · refine r_skip ?_
        refine r_bn ?_
        refine r_tn ?_
        refine r_region ?_
        refine r_move rfl rfl ?_
        refine r_add rfl rfl rfl (w64 (by omega)) ?_
        refine r_assign rfl rfl ?_
        refine r_nil ?_
        refine r_tn ?_
        have h12 : ls[i].length ≤ 12 := by have h := of_decide_eq_false hc; omega
        exact r_againN (i + 1) ⟨by omega, fun j h hj => by
          by_cases e : j = i
          · subst e; exact h12
          · exact hg j h (by omega)⟩ (by omega) ⟨rfl, rfl, trivial⟩ (fun w hw => hw.clear)
    · refine r_exit ?_
      refine r_te ?_
      refine r_te ?_
      refine r_be ?_
      refine r_tn ?_
      refine r_seq ?_
      refine r_region ?_
      have hi3 : i = ls.length := by have h : ¬ i < ls.length := of_decide_eq_false hc; omega
      clear hc
      subst hi3
      have hg2 : ∀ j (h : j < ls.length), j < ls.length → ls[j].length ≤ 12 := hg
      have hl2 : ∀ l ∈ ls, l.length ≤ 1000000 := fun l hl => by
        obtain ⟨j, hj, rfl⟩ := List.mem_iff_getElem.1 hl
        have := hg2 j hj hj
        omega
      refine r_move rfl rfl ?_
      refine r_call rfl rfl rfl (by kernel_rfl) rfl (fun w hw => by exact expandBad30 A c ls hok (by omega) hl2 w (hG.keep hw.clear) (hR.keep hw.clear)) ?_
      refine r_move rfl rfl ?_
      refine r_extract (v := .slice none 0 0) rfl rfl rfl ?_
      refine r_extract (v := .int .i64 ((badI ls : Nat) : Int)) rfl rfl rfl ?_
      refine r_extract (v := .int .i64 6) rfl rfl rfl ?_
      refine r_assign rfl rfl ?_
      refine r_assign rfl rfl ?_
      refine r_assign rfl rfl ?_
      refine r_nil ?_
      refine r_tn ?_
      refine r_seq ?_
      refine r_region ?_
      refine r_move rfl rfl ?_
      refine r_call rfl rfl rfl (by kernel_rfl) rfl (fun w hw => by exact refExpandBad30 A c ls hok (by omega) hl2 w (hR.keep hw.clear)) ?_
      refine r_move rfl rfl ?_
      refine r_extract (v := .slice none 0 0) rfl rfl rfl ?_
      refine r_extract (v := .int .i64 ((badI ls : Nat) : Int)) rfl rfl rfl ?_
      refine r_extract (v := .bool false) rfl rfl rfl ?_
      refine r_assign rfl rfl ?_
      refine r_assign rfl rfl ?_
      refine r_assign rfl rfl ?_
      refine r_nil ?_
      refine r_tn ?_
      refine r_seq ?_
      refine r_seq ?_
      refine r_region ?_
      refine r_move rfl rfl ?_
      refine r_not (b := false) rfl rfl rfl ?_
      refine r_nil ?_
      refine r_tn ?_
      refine r_cond_t rfl ?_
      refine r_seq ?_
      refine r_region ?_
      refine r_move rfl rfl ?_
      refine r_len rfl rfl rfl ?_
      refine r_eql (p := true) rfl rfl rfl rfl ?_
      refine r_move rfl rfl ?_
      refine r_go rfl rfl ?_
      refine r_move rfl rfl ?_
      refine r_go rfl rfl ?_
      refine r_move rfl rfl ?_
      refine r_go rfl rfl ?_
      refine r_eql (p := true) rfl rfl rfl (decide_eq_true rfl) ?_
      refine r_pick_t rfl rfl rfl ?_
      refine r_move rfl rfl ?_
      refine r_go rfl rfl ?_
      refine r_move rfl rfl ?_
      refine r_go rfl rfl ?_
      refine r_eql (p := true) rfl rfl rfl rfl ?_
      refine r_pick_t rfl rfl rfl ?_
      refine r_move rfl rfl ?_
      refine r_go rfl rfl ?_
      refine r_move rfl rfl ?_
      refine r_go rfl rfl ?_
      refine r_call rfl rfl rfl (by kernel_rfl) rfl (fun w hw => by exact lengthBad30 A c ls hok (by omega) hl2 w (hG.keep hw.clear) (hR.keep hw.clear)) ?_
      refine r_go rfl rfl ?_
      refine r_eql (p := true) rfl rfl rfl rfl ?_
      refine r_pick_t rfl rfl rfl ?_
      refine r_assign rfl rfl ?_
      refine r_nil ?_
      refine r_tn ?_
      refine r_ret ?_
      refine r_tr ?_
      exact r_done1 (.inl rfl) rfl (res_tmp rfl) fun w hw => ⟨rfl, hw.clear⟩

theorem MacroMatchesReference_walk (ls : List (List UInt8)) (A : Option Addr) (c : Nat) (w : World) (hG : Glob30 w) (hR : Rd w A (ls.map txV)) :
    Calls Tryd.prog 5 #[.slice A ls.length c] w fun e w' => e = .returned (.bool true) ∧ Sat w [] [] w' := by
  cases h : okLs ls with
  | true => exact match_good ls A c h w hG hR
  | false => exact match_bad ls A c h w hG hR

end Go.Proofs.YtghjbnbkfohmlaaDoor
