/-
  Macros (chapter 30): MacroTaps.
-/
import Derived.Test.YtghjbnbkfohmlaaDoorAwake30
namespace Go.Proofs.YtghjbnbkfohmlaaDoor
open Go Go.RowKit
set_option linter.unusedVariables false
set_option linter.unusedSimpArgs false
set_option maxHeartbeats 2000000
set_option maxRecDepth 4000
attribute [local irreducible] mix

theorem wfu8' {n : Int} (h : (Lit.int .u8 n).wf = true) : 0 ≤ n ∧ n ≤ 255 := by
  simpa [Lit.wf, IntKind.min, IntKind.max, IntKind.signed, IntKind.bits] using h
def txTap (k n : Nat) : List UInt8 := tapW ++ 32 :: ([hexC k] ++ 32 :: Lib.decDigits n)
def txKey (d : Bool) (k : Nat) : List UInt8 := (bif d then pressW else releaseW) ++ 32 :: [hexC k]
theorem tapTxt (k n : Nat) : (([116, 97, 112, 32] ++ [hexC k]) ++ [32]) ++ Lib.decDigits n = txTap k n := rfl
theorem pressTxt (k : Nat) : [112, 114, 101, 115, 115, 32] ++ [hexC k] = txKey true k := rfl
theorem releaseTxt (k : Nat) : [114, 101, 108, 101, 97, 115, 101, 32] ++ [hexC k] = txKey false k := rfl
def fsTap (k n : Nat) : List (List Ev) := [[((k : Int), true)]] ++ List.replicate n [] ++ [[((k : Int), false)]]
def fsWait (n m : Nat) : List (List Ev) := List.replicate (2 + n + m) []
theorem fsTap_len (k n : Nat) : (fsTap k n).length = 2 + n := by
  unfold fsTap
  simp only [List.length_append, List.length_cons, List.length_nil, List.length_replicate]
  omega
theorem fsWait_len (n m : Nat) : (fsWait n m).length = 2 + n + m := by unfold fsWait; rw [List.length_replicate]
theorem fsTap_sh (k n : Nat) : ∀ f ∈ fsTap k n, f.length ≤ 1000000000000 := by
  intro f hf
  unfold fsTap at hf
  rcases List.mem_append.1 hf with hf | hf
  · rcases List.mem_append.1 hf with hf | hf
    · rw [List.mem_singleton.1 hf]; exact Nat.le_of_ble_eq_true rfl
    · rw [List.eq_of_mem_replicate hf]; exact Nat.zero_le _
  · rw [List.mem_singleton.1 hf]; exact Nat.le_of_ble_eq_true rfl
theorem fsWait_sh (n m : Nat) : ∀ f ∈ fsWait n m, f.length ≤ 1000000000000 := by
  intro f hf
  rw [List.eq_of_mem_replicate hf]; exact Nat.zero_le _
theorem line_key {k : Nat} (hk : k < 16) (d : Bool) : lineC (txKey d k) = some (.ev k d) := line_ev hk d
theorem tap_st1 {k n : Nat} (hk : k < 16) (hn : n ≤ 300) : resF (stOf [txTap k (1 + n)]) = fsTap k n ∧ okLs [txTap k (1 + n)] = true := by
  have h : lineC (txTap k (1 + n)) = some (.tap k (1 + n)) := line_tap hk (by omega)
  rw [stOf_run, runL_cons, okLs_cons, h]
  refine ⟨?_, rfl⟩
  show [] ++ [[] ++ [((k : Int), true)]] ++ List.replicate (1 + n - 1) [] ++ [[] ++ [((k : Int), false)]] = _
  rw [show 1 + n - 1 = n by omega]
  rfl
theorem tap_st2 {k n : Nat} (hk : k < 16) (hn : n ≤ 300) : resF (stOf [txKey true k, waitT (1 + n), txKey false k]) = fsTap k n ∧ okLs [txKey true k, waitT (1 + n), txKey false k] = true := by
  rw [stOf_run, runL_cons, runL_cons, runL_cons, okLs_cons, okLs_cons, okLs_cons, line_key hk, line_key hk, line_wait (by omega)]
  refine ⟨?_, rfl⟩
  show [] ++ [[] ++ [((k : Int), true)]] ++ List.replicate (1 + n - 1) [] ++ [[] ++ [((k : Int), false)]] = _
  rw [show 1 + n - 1 = n by omega]
  rfl
theorem tap_st3 {n m : Nat} (hn : n ≤ 300) (hm : m ≤ 300) : resF (stOf [waitT (1 + n), waitT (1 + m)]) = fsWait n m ∧ okLs [waitT (1 + n), waitT (1 + m)] = true := by
  rw [stOf_run, runL_cons, runL_cons, okLs_cons, okLs_cons, line_wait (by omega), line_wait (by omega)]
  refine ⟨?_, rfl⟩
  show ([] ++ [[]] ++ List.replicate (1 + n - 1) []) ++ [[]] ++ List.replicate (1 + m - 1) [] = _
  unfold fsWait
  have e : ([[]] : List (List Ev)) = List.replicate 1 [] := rfl
  rw [List.nil_append, e, List.replicate_append_replicate, List.replicate_append_replicate, List.replicate_append_replicate, show 1 + (1 + n - 1) + 1 + (1 + m - 1) = 2 + n + m by omega]
theorem tap_st4 {n m : Nat} (hn : n ≤ 300) (hm : m ≤ 300) : resF (stOf [waitT (2 + n + m)]) = fsWait n m ∧ okLs [waitT (2 + n + m)] = true := by
  rw [stOf_run, runL_cons, okLs_cons, line_wait (by omega)]
  refine ⟨?_, rfl⟩
  show [] ++ [[]] ++ List.replicate (2 + n + m - 1) [] = _
  unfold fsWait
  have e : ([[]] : List (List Ev)) = List.replicate 1 [] := rfl
  rw [List.nil_append, e, List.replicate_append_replicate, show 1 + (2 + n + m - 1) = 2 + n + m by omega]
theorem txTap_len {k n : Nat} (h : n ≤ 1000) : (txTap k n).length ≤ 100 := by
  have := dec_len (show n < 18446744073709551616 by omega)
  unfold txTap
  simp only [List.length_append, List.length_cons, List.length_nil]
  have e : tapW.length = 3 := rfl
  omega
theorem txKey_len (d : Bool) (k : Nat) : (txKey d k).length ≤ 100 := by cases d <;> exact Nat.le_of_ble_eq_true rfl
attribute [local irreducible] evsL ownsOf rightB cmdsL waitT evT stOf okF txTap txKey fsTap fsWait


theorem MacroTaps_walk (key n m : Int) (hk : (Lit.int .u8 key).wf = true) (hn : (Lit.int .u8 n).wf = true) (hm : (Lit.int .u8 m).wf = true) (w : World) (hG : Glob30 w) :
    Calls Tryd.prog 4 #[.int .u8 key, .int .u8 n, .int .u8 m] w fun e w' => e = .returned (.bool true) ∧ Sat w [] [] w' := by
  obtain ⟨hk0, hk1⟩ := wfu8' hk
  obtain ⟨hn0, hn1⟩ := wfu8' hn
  obtain ⟨hm0, hm1⟩ := wfu8' hm
  obtain ⟨kk, rfl⟩ : ∃ k : Nat, key = k := ⟨key.toNat, by omega⟩
  obtain ⟨nn, rfl⟩ : ∃ k : Nat, n = k := ⟨n.toNat, by omega⟩
  obtain ⟨mm, rfl⟩ : ∃ k : Nat, m = k := ⟨m.toNat, by omega⟩
  refine enter Tryd.func4 rfl rfl rfl ?_
  refine r_seq ?_
  refine r_region ?_
  refine r_assign rfl rfl ?_
  refine r_nil ?_
  refine r_tn ?_
  refine r_seq ?_
  refine r_seq ?_
  refine r_region ?_
  refine r_call rfl rfl rfl (by kernel_rfl) rfl (fun w hw => by exact awake30 w (hG.keep hw)) ?_
  refine r_not rfl rfl rfl ?_
  refine r_nil ?_
  refine r_tn ?_
  refine r_cond_f rfl ?_
  refine r_skip ?_
  refine r_tn ?_
  refine r_seq ?_
  refine r_region ?_
  refine r_move rfl rfl ?_
  refine r_convert (r := (kk : Int)) rfl rfl rfl rfl (w64 (by omega)) ?_
  refine r_rem (r := ((kk % 16 : Nat) : Int)) rfl rfl rfl (by decide) rfl ?_
  refine r_call rfl rfl rfl (by kernel_rfl) rfl (fun w hw => by exact refHex24 (kk % 16) 1 (by omega) (by omega) w) ?_
  rw [hexR_one (Nat.mod_lt kk (by decide))]
  refine r_assign rfl rfl ?_
  refine r_nil ?_
  refine r_tn ?_
  refine r_seq ?_
  refine r_region ?_
  refine r_move rfl rfl ?_
  refine r_convert (r := (nn : Int)) rfl rfl rfl rfl (w64 (by omega)) ?_
  refine r_add (r := ((1 + nn : Nat) : Int)) rfl rfl rfl ((w64 (by omega)).trans (by omega)) ?_
  refine r_call rfl rfl rfl (by kernel_rfl) rfl (fun w hw => by exact refDecimal24 (1 + nn) (by omega) w) ?_
  refine r_assign rfl rfl ?_
  refine r_nil ?_
  refine r_tn ?_
  refine r_seq ?_
  refine r_region ?_
  refine r_move rfl rfl ?_
  refine r_convert (r := (mm : Int)) rfl rfl rfl rfl (w64 (by omega)) ?_
  refine r_add (r := ((1 + mm : Nat) : Int)) rfl rfl rfl ((w64 (by omega)).trans (by omega)) ?_
  refine r_call rfl rfl rfl (by kernel_rfl) rfl (fun w hw => by exact refDecimal24 (1 + mm) (by omega) w) ?_
  refine r_assign rfl rfl ?_
  refine r_nil ?_
  refine r_tn ?_
  refine r_seq ?_
  refine r_region ?_
  refine r_move rfl rfl ?_
  refine r_convert (r := (nn : Int)) rfl rfl rfl rfl (w64 (by omega)) ?_
  refine r_add (r := ((2 + nn : Nat) : Int)) rfl rfl rfl ((w64 (by omega)).trans (by omega)) ?_
  refine r_move rfl rfl ?_
  refine r_convert (r := (mm : Int)) rfl rfl rfl rfl (w64 (by omega)) ?_
  refine r_add (r := ((2 + nn + mm : Nat) : Int)) rfl rfl rfl ((w64 (by omega)).trans (by omega)) ?_
  refine r_call rfl rfl rfl (by kernel_rfl) rfl (fun w hw => by exact refDecimal24 (2 + nn + mm) (by omega) w) ?_
  refine r_assign rfl rfl ?_
  refine r_nil ?_
  refine r_tn ?_
  refine r_seq ?_
  refine r_region ?_
  refine r_move rfl rfl ?_
  refine r_addTx (l := [116, 97, 112, 32]) (m := [hexC (kk % 16)]) rfl rfl rfl (by have h1 := dec_len (show 1 + nn < 18446744073709551616 by omega); have h2 := dec_len (show 1 + mm < 18446744073709551616 by omega); have h3 := dec_len (show 2 + nn + mm < 18446744073709551616 by omega); simp only [List.length_append, List.length_cons, List.length_nil]; omega) ?_
  refine r_addTx (l := [116, 97, 112, 32] ++ [hexC (kk % 16)]) (m := [32]) rfl rfl rfl (by have h1 := dec_len (show 1 + nn < 18446744073709551616 by omega); have h2 := dec_len (show 1 + mm < 18446744073709551616 by omega); have h3 := dec_len (show 2 + nn + mm < 18446744073709551616 by omega); simp only [List.length_append, List.length_cons, List.length_nil]; omega) ?_
  refine r_move rfl rfl ?_
  refine r_addTx (l := ([116, 97, 112, 32] ++ [hexC (kk % 16)]) ++ [32]) (m := Lib.decDigits (1 + nn)) rfl rfl rfl (by have h1 := dec_len (show 1 + nn < 18446744073709551616 by omega); have h2 := dec_len (show 1 + mm < 18446744073709551616 by omega); have h3 := dec_len (show 2 + nn + mm < 18446744073709551616 by omega); simp only [List.length_append, List.length_cons, List.length_nil]; omega) ?_
  rw [tapTxt]
  refine Run.startL ?_
  refine r_lit (sz := 1) (pv := [(0, txV (txTap (kk % 16) (1 + nn)))]) (cells := #[txV (txTap (kk % 16) (1 + nn))]) rfl rfl rfl rfl rfl rfl (by kernel_rfl) rfl (fun b50 => ?_) (by decide)
  refine r_callE (X := [.own 9 1 (.slice (some ⟨b50, 0, none⟩) 1 1) 1 #[txV (txTap (kk % 16) (1 + nn))].toList]) (L0 := []) (by first | rfl | exact (by simp)) rfl rfl rfl (by kernel_rfl) rfl (fun w hw => by exact expandE30 (some ⟨b50, 0, none⟩) 1 1 [txTap (kk % 16) (1 + nn)] (fsTap (kk % 16) nn) rfl (tap_st1 (k := (kk % 16)) (by omega) (by omega : nn ≤ 300)).1 (tap_st1 (k := (kk % 16)) (by omega) (by omega : nn ≤ 300)).2 (show ([txTap (kk % 16) (1 + nn)]).length ≤ 1000000 by simp) (fun l hl => by rcases List.mem_singleton.1 hl with rfl; exact Nat.le_trans (txTap_len (by omega)) (by decide)) w (hG.keep hw.clear) (own_rd (A := some ⟨b50, 0, none⟩) (m := 1) (c := 1) hw)) ?_
  rintro ⟨A, c, _, _, hv, L⟩ hF1
  have hF1 : FrL hv (fsTap (kk % 16) nn) L := hF1
  refine Run.less (H' := .own 25 1 (.slice A (fsTap (kk % 16) nn).length c) (fsTap (kk % 16) nn).length hv :: ownsOf (L ++ [])) (fun w hw => hw.sub) ?_
  rw [List.append_nil]
  refine r_move rfl rfl ?_
  refine r_extract (v := .slice A (fsTap (kk % 16) nn).length c) rfl rfl rfl ?_
  refine r_extract (v := .int .i64 0) rfl rfl rfl ?_
  refine r_extract (v := .int .i64 0) rfl rfl rfl ?_
  refine r_assign rfl rfl ?_
  refine r_assign rfl rfl ?_
  refine r_assign rfl rfl ?_
  refine r_nil ?_
  refine r_tn ?_
  refine r_seq ?_
  refine r_region ?_
  refine r_move rfl rfl ?_
  refine r_addTx (l := [112, 114, 101, 115, 115, 32]) (m := [hexC (kk % 16)]) rfl rfl rfl (by have h1 := dec_len (show 1 + nn < 18446744073709551616 by omega); have h2 := dec_len (show 1 + mm < 18446744073709551616 by omega); have h3 := dec_len (show 2 + nn + mm < 18446744073709551616 by omega); simp only [List.length_append, List.length_cons, List.length_nil]; omega) ?_
  rw [pressTxt]
  refine r_move rfl rfl ?_
  refine r_addTx (l := [119, 97, 105, 116, 32]) (m := Lib.decDigits (1 + nn)) rfl rfl rfl (by have h1 := dec_len (show 1 + nn < 18446744073709551616 by omega); have h2 := dec_len (show 1 + mm < 18446744073709551616 by omega); have h3 := dec_len (show 2 + nn + mm < 18446744073709551616 by omega); simp only [List.length_append, List.length_cons, List.length_nil]; omega) ?_
  rw [waitT_def]
  refine r_move rfl rfl ?_
  refine r_addTx (l := [114, 101, 108, 101, 97, 115, 101, 32]) (m := [hexC (kk % 16)]) rfl rfl rfl (by have h1 := dec_len (show 1 + nn < 18446744073709551616 by omega); have h2 := dec_len (show 1 + mm < 18446744073709551616 by omega); have h3 := dec_len (show 2 + nn + mm < 18446744073709551616 by omega); simp only [List.length_append, List.length_cons, List.length_nil]; omega) ?_
  rw [releaseTxt]
  refine r_lit (sz := 1) (pv := [(0, txV (txKey true (kk % 16))), (1, txV (waitT (1 + nn))), (2, txV (txKey false (kk % 16)))]) (cells := #[txV (txKey true (kk % 16)), txV (waitT (1 + nn)), txV (txKey false (kk % 16))]) rfl rfl rfl rfl rfl rfl (by kernel_rfl) rfl (fun b62 => ?_) (by decide)
  refine r_callE (X := [.own 9 1 (.slice (some ⟨b62, 0, none⟩) 3 3) 3 #[txV (txKey true (kk % 16)), txV (waitT (1 + nn)), txV (txKey false (kk % 16))].toList, .own 25 1 (.slice A (fsTap (kk % 16) nn).length c) (fsTap (kk % 16) nn).length hv]) (L0 := L) (by first | rfl | exact (by simp)) rfl rfl rfl (by kernel_rfl) rfl (fun w hw => by exact expandE30 (some ⟨b62, 0, none⟩) 3 3 [txKey true (kk % 16), waitT (1 + nn), txKey false (kk % 16)] (fsTap (kk % 16) nn) rfl (tap_st2 (k := (kk % 16)) (by omega) (by omega : nn ≤ 300)).1 (tap_st2 (k := (kk % 16)) (by omega) (by omega : nn ≤ 300)).2 (show ([txKey true (kk % 16), waitT (1 + nn), txKey false (kk % 16)]).length ≤ 1000000 by simp) (fun l hl => by simp only [List.mem_cons, List.not_mem_nil, or_false] at hl; rcases hl with rfl | rfl | rfl; exact Nat.le_trans (txKey_len _ _) (by decide); exact Nat.le_trans (waitT_len (by omega)) (by decide); exact Nat.le_trans (txKey_len _ _) (by decide)) w (hG.keep hw.clear) (own_rd (A := some ⟨b62, 0, none⟩) (m := 3) (c := 3) hw)) ?_
  rintro ⟨B, d, _, _, hu, M⟩ hF2
  have hF2 : FrL hu (fsTap (kk % 16) nn) M := hF2
  refine Run.less (H' := .own 25 1 (.slice B (fsTap (kk % 16) nn).length d) (fsTap (kk % 16) nn).length hu :: .own 25 1 (.slice A (fsTap (kk % 16) nn).length c) (fsTap (kk % 16) nn).length hv :: ownsOf (M ++ L)) (fun w hw => hw.sub) ?_
  refine r_move rfl rfl ?_
  refine r_extract (v := .slice B (fsTap (kk % 16) nn).length d) rfl rfl rfl ?_
  refine r_extract (v := .int .i64 0) rfl rfl rfl ?_
  refine r_extract (v := .int .i64 0) rfl rfl rfl ?_
  refine r_assign rfl rfl ?_
  refine r_assign rfl rfl ?_
  refine r_assign rfl rfl ?_
  refine r_nil ?_
  refine r_tn ?_
  refine r_seq ?_
  refine r_region ?_
  refine r_move rfl rfl ?_
  refine r_addTx (l := [119, 97, 105, 116, 32]) (m := Lib.decDigits (1 + nn)) rfl rfl rfl (by have h1 := dec_len (show 1 + nn < 18446744073709551616 by omega); have h2 := dec_len (show 1 + mm < 18446744073709551616 by omega); have h3 := dec_len (show 2 + nn + mm < 18446744073709551616 by omega); simp only [List.length_append, List.length_cons, List.length_nil]; omega) ?_
  rw [waitT_def]
  refine r_move rfl rfl ?_
  refine r_addTx (l := [119, 97, 105, 116, 32]) (m := Lib.decDigits (1 + mm)) rfl rfl rfl (by have h1 := dec_len (show 1 + nn < 18446744073709551616 by omega); have h2 := dec_len (show 1 + mm < 18446744073709551616 by omega); have h3 := dec_len (show 2 + nn + mm < 18446744073709551616 by omega); simp only [List.length_append, List.length_cons, List.length_nil]; omega) ?_
  rw [waitT_def]
  refine r_lit (sz := 1) (pv := [(0, txV (waitT (1 + nn))), (1, txV (waitT (1 + mm)))]) (cells := #[txV (waitT (1 + nn)), txV (waitT (1 + mm))]) rfl rfl rfl rfl rfl rfl (by kernel_rfl) rfl (fun b72 => ?_) (by decide)
  refine r_callE (X := [.own 9 1 (.slice (some ⟨b72, 0, none⟩) 2 2) 2 #[txV (waitT (1 + nn)), txV (waitT (1 + mm))].toList, .own 25 1 (.slice B (fsTap (kk % 16) nn).length d) (fsTap (kk % 16) nn).length hu, .own 25 1 (.slice A (fsTap (kk % 16) nn).length c) (fsTap (kk % 16) nn).length hv]) (L0 := M ++ L) (by first | rfl | exact (by simp)) rfl rfl rfl (by kernel_rfl) rfl (fun w hw => by exact expandE30 (some ⟨b72, 0, none⟩) 2 2 [waitT (1 + nn), waitT (1 + mm)] (fsWait nn mm) rfl (tap_st3 (by omega : nn ≤ 300) (by omega : mm ≤ 300)).1 (tap_st3 (by omega : nn ≤ 300) (by omega : mm ≤ 300)).2 (show ([waitT (1 + nn), waitT (1 + mm)]).length ≤ 1000000 by simp) (fun l hl => by simp only [List.mem_cons, List.not_mem_nil, or_false] at hl; rcases hl with rfl | rfl <;> exact Nat.le_trans (waitT_len (by omega)) (by decide)) w (hG.keep hw.clear) (own_rd (A := some ⟨b72, 0, none⟩) (m := 2) (c := 2) hw)) ?_
  rintro ⟨C, e, _, _, ht, O⟩ hF3
  have hF3 : FrL ht (fsWait nn mm) O := hF3
  refine Run.less (H' := .own 25 1 (.slice C (fsWait nn mm).length e) (fsWait nn mm).length ht :: .own 25 1 (.slice B (fsTap (kk % 16) nn).length d) (fsTap (kk % 16) nn).length hu :: .own 25 1 (.slice A (fsTap (kk % 16) nn).length c) (fsTap (kk % 16) nn).length hv :: ownsOf (O ++ (M ++ L))) (fun w hw => hw.sub) ?_
  refine r_move rfl rfl ?_
  refine r_extract (v := .slice C (fsWait nn mm).length e) rfl rfl rfl ?_
  refine r_extract (v := .int .i64 0) rfl rfl rfl ?_
  refine r_extract (v := .int .i64 0) rfl rfl rfl ?_
  refine r_assign rfl rfl ?_
  refine r_assign rfl rfl ?_
  refine r_assign rfl rfl ?_
  refine r_nil ?_
  refine r_tn ?_
  refine r_seq ?_
  refine r_region ?_
  refine r_move rfl rfl ?_
  refine r_addTx (l := [119, 97, 105, 116, 32]) (m := Lib.decDigits (2 + nn + mm)) rfl rfl rfl (by have h1 := dec_len (show 1 + nn < 18446744073709551616 by omega); have h2 := dec_len (show 1 + mm < 18446744073709551616 by omega); have h3 := dec_len (show 2 + nn + mm < 18446744073709551616 by omega); simp only [List.length_append, List.length_cons, List.length_nil]; omega) ?_
  rw [waitT_def]
  refine r_lit (sz := 1) (pv := [(0, txV (waitT (2 + nn + mm)))]) (cells := #[txV (waitT (2 + nn + mm))]) rfl rfl rfl rfl rfl rfl (by kernel_rfl) rfl (fun b80 => ?_) (by decide)
  refine r_callE (X := [.own 9 1 (.slice (some ⟨b80, 0, none⟩) 1 1) 1 #[txV (waitT (2 + nn + mm))].toList, .own 25 1 (.slice C (fsWait nn mm).length e) (fsWait nn mm).length ht, .own 25 1 (.slice B (fsTap (kk % 16) nn).length d) (fsTap (kk % 16) nn).length hu, .own 25 1 (.slice A (fsTap (kk % 16) nn).length c) (fsTap (kk % 16) nn).length hv]) (L0 := O ++ (M ++ L)) (by first | rfl | exact (by simp)) rfl rfl rfl (by kernel_rfl) rfl (fun w hw => by exact expandE30 (some ⟨b80, 0, none⟩) 1 1 [waitT (2 + nn + mm)] (fsWait nn mm) rfl (tap_st4 (by omega : nn ≤ 300) (by omega : mm ≤ 300)).1 (tap_st4 (by omega : nn ≤ 300) (by omega : mm ≤ 300)).2 (show ([waitT (2 + nn + mm)]).length ≤ 1000000 by simp) (fun l hl => by rcases List.mem_singleton.1 hl with rfl; exact Nat.le_trans (waitT_len (by omega)) (by decide)) w (hG.keep hw.clear) (own_rd (A := some ⟨b80, 0, none⟩) (m := 1) (c := 1) hw)) ?_
  rintro ⟨D, f, _, _, hs, Q⟩ hF4
  have hF4 : FrL hs (fsWait nn mm) Q := hF4
  refine Run.less (H' := .own 25 1 (.slice D (fsWait nn mm).length f) (fsWait nn mm).length hs :: .own 25 1 (.slice C (fsWait nn mm).length e) (fsWait nn mm).length ht :: .own 25 1 (.slice B (fsTap (kk % 16) nn).length d) (fsTap (kk % 16) nn).length hu :: .own 25 1 (.slice A (fsTap (kk % 16) nn).length c) (fsTap (kk % 16) nn).length hv :: ownsOf (Q ++ (O ++ (M ++ L)))) (fun w hw => hw.sub) ?_
  refine r_move rfl rfl ?_
  refine r_extract (v := .slice D (fsWait nn mm).length f) rfl rfl rfl ?_
  refine r_extract (v := .int .i64 0) rfl rfl rfl ?_
  refine r_extract (v := .int .i64 0) rfl rfl rfl ?_
  refine r_assign rfl rfl ?_
  refine r_assign rfl rfl ?_
  refine r_assign rfl rfl ?_
  refine r_nil ?_
  refine r_tn ?_
  refine r_seq ?_
  refine r_region ?_
  refine r_move rfl rfl ?_
  refine r_eql (p := true) rfl rfl rfl rfl ?_
  refine r_move rfl rfl ?_
  refine r_go rfl rfl ?_
  refine r_move rfl rfl ?_
  refine r_go rfl rfl ?_
  refine r_eql (p := true) rfl rfl rfl rfl ?_
  refine r_pick_t rfl rfl rfl ?_
  refine r_move rfl rfl ?_
  refine r_go rfl rfl ?_
  refine r_move rfl rfl ?_
  refine r_go rfl rfl ?_
  refine r_eql (p := true) rfl rfl rfl rfl ?_
  refine r_pick_t rfl rfl rfl ?_
  refine r_move rfl rfl ?_
  refine r_go rfl rfl ?_
  refine r_move rfl rfl ?_
  refine r_go rfl rfl ?_
  refine r_eql (p := true) rfl rfl rfl rfl ?_
  refine r_pick_t rfl rfl rfl ?_
  refine r_move rfl rfl ?_
  refine r_go rfl rfl ?_
  refine r_move rfl rfl ?_
  refine r_go rfl rfl ?_
  refine r_move rfl rfl ?_
  refine r_go rfl rfl ?_
  refine r_call rfl rfl rfl (by kernel_rfl) rfl (fun w hw => by exact refSame30 (fsTap (kk % 16) nn) (by rw [fsTap_len]; omega) A B c d hv hu w (own_rd (A := A) (m := (fsTap (kk % 16) nn).length) (c := c) hw) ((((hF1.right M).right O).right Q).rd (fun x hx => hw.ok x (by simp [hx]))) (own_rd (A := B) (m := (fsTap (kk % 16) nn).length) (c := d) hw) ((((hF2.left L).right O).right Q).rd (fun x hx => hw.ok x (by simp [hx]))) (fsTap_sh _ _)) ?_
  refine r_pick_t rfl rfl rfl ?_
  refine r_move rfl rfl ?_
  refine r_go rfl rfl ?_
  refine r_move rfl rfl ?_
  refine r_go rfl rfl ?_
  refine r_move rfl rfl ?_
  refine r_go rfl rfl ?_
  refine r_call rfl rfl rfl (by kernel_rfl) rfl (fun w hw => by exact refSame30 (fsWait nn mm) (by rw [fsWait_len]; omega) C D e f ht hs w (own_rd (A := C) (m := (fsWait nn mm).length) (c := e) hw) (((hF3.left (M ++ L)).right Q).rd (fun x hx => hw.ok x (by simp [hx]))) (own_rd (A := D) (m := (fsWait nn mm).length) (c := f) hw) ((hF4.left (O ++ (M ++ L))).rd (fun x hx => hw.ok x (by simp [hx]))) (fsWait_sh _ _)) ?_
  refine r_pick_t rfl rfl rfl ?_
  refine r_move rfl rfl ?_
  refine r_go rfl rfl ?_
  refine r_move rfl rfl ?_
  refine r_go rfl rfl ?_
  refine r_len rfl rfl rfl ?_
  refine r_go rfl rfl ?_
  refine r_move rfl rfl ?_
  refine r_go rfl rfl ?_
  refine r_convert (r := (nn : Int)) rfl rfl rfl rfl (w64 (by omega)) ?_
  refine r_go rfl rfl ?_
  refine r_add (r := ((2 + nn : Nat) : Int)) rfl rfl rfl ((w64 (by omega)).trans (by omega)) ?_
  refine r_go rfl rfl ?_
  refine r_eql (p := true) rfl rfl rfl (decide_eq_true (by rw [fsTap_len])) ?_
  refine r_pick_t rfl rfl rfl ?_
  refine r_move rfl rfl ?_
  refine r_go rfl rfl ?_
  refine r_move rfl rfl ?_
  refine r_go rfl rfl ?_
  refine r_len rfl rfl rfl ?_
  refine r_go rfl rfl ?_
  refine r_move rfl rfl ?_
  refine r_go rfl rfl ?_
  refine r_convert (r := (nn : Int)) rfl rfl rfl rfl (w64 (by omega)) ?_
  refine r_go rfl rfl ?_
  refine r_add (r := ((2 + nn : Nat) : Int)) rfl rfl rfl ((w64 (by omega)).trans (by omega)) ?_
  refine r_go rfl rfl ?_
  refine r_move rfl rfl ?_
  refine r_go rfl rfl ?_
  refine r_convert (r := (mm : Int)) rfl rfl rfl rfl (w64 (by omega)) ?_
  refine r_go rfl rfl ?_
  refine r_add (r := ((2 + nn + mm : Nat) : Int)) rfl rfl rfl ((w64 (by omega)).trans (by omega)) ?_
  refine r_go rfl rfl ?_
  refine r_eql (p := true) rfl rfl rfl (decide_eq_true (by rw [fsWait_len])) ?_
  refine r_pick_t rfl rfl rfl ?_
  refine r_assign rfl rfl ?_
  refine r_nil ?_
  refine r_tn ?_
  refine r_ret ?_
  exact r_done1 (.inl rfl) rfl (res_tmp rfl) fun w hw => ⟨rfl, hw.clear⟩
end Go.Proofs.YtghjbnbkfohmlaaDoor
