/-
  Macros (chapter 30): the commands.
-/
import Derived.Test.YtghjbnbkfohmlaaDoorBuild30
namespace Go.Proofs.YtghjbnbkfohmlaaDoor
open Go Go.RowKit
set_option linter.unusedVariables false
set_option linter.unusedSimpArgs false
set_option maxHeartbeats 2000000
set_option maxRecDepth 4000
attribute [local irreducible] mix

theorem permNil (X : List Res) : X.Perm (X ++ []) := by rw [List.append_nil]
theorem evC_len {d : Bool} {ws : List (List UInt8)} (h : ws.length ≠ 1) : evC d ws = none := by
  match ws, h with
  | [], _ => rfl
  | [_], h => exact absurd rfl h
  | _ :: _ :: _, _ => rfl
theorem evC_one (d : Bool) (k : List UInt8) : evC d [k] = (keyN k).map fun n => .ev n d := rfl
theorem waitC_one (k : List UInt8) : waitC [k] = (countN k).map .wait := rfl
theorem tapC_two (k t : List UInt8) : tapC [k, t] = (keyN k).bind fun k => (countN t).map fun n => .tap k n := rfl
theorem evC_some {d : Bool} {k : List UInt8} {n : Nat} (h : keyN k = some n) : evC d [k] = some (.ev n d) := by rw [evC_one, h]; rfl
theorem evC_no {d : Bool} {k : List UInt8} (h : keyN k = none) : evC d [k] = none := by rw [evC_one, h]; rfl
theorem waitC_len {ws : List (List UInt8)} (h : ws.length ≠ 1) : waitC ws = none := by
  match ws, h with
  | [], _ => rfl
  | [_], h => exact absurd rfl h
  | _ :: _ :: _, _ => rfl
theorem waitC_some {k : List UInt8} {n : Nat} (h : countN k = some n) : waitC [k] = some (.wait n) := by rw [waitC_one, h]; rfl
theorem waitC_no {k : List UInt8} (h : countN k = none) : waitC [k] = none := by rw [waitC_one, h]; rfl
theorem two_of {ws : List (List UInt8)} (h : ws.length = 2) : ∃ k t, ws = [k, t] := by
  match ws, h with
  | [k, t], _ => exact ⟨k, t, rfl⟩
theorem tapC_len {ws : List (List UInt8)} (h : ws.length ≠ 2) : tapC ws = none := by
  match ws, h with
  | [], _ => rfl
  | [_], _ => rfl
  | [_, _], h => exact absurd rfl h
  | _ :: _ :: _ :: _, _ => rfl
theorem tapC_some {k t : List UInt8} {kn n : Nat} (h : keyN k = some kn) (h2 : countN t = some n) : tapC [k, t] = some (.tap kn n) := by rw [tapC_two, h, h2]; rfl
theorem tapC_no1 {k t : List UInt8} (h : keyN k = none) : tapC [k, t] = none := by rw [tapC_two, h]; rfl
theorem tapC_no2 {k t : List UInt8} (h : countN t = none) : tapC [k, t] = none := by
  rw [tapC_two, h]
  cases keyN k <;> rfl
theorem tapC_is (k t : List UInt8) : (tapC [k, t]).isSome = ((keyN k).isSome && (countN t).isSome) := by
  rw [tapC_two]
  cases keyN k <;> cases countN t <;> rfl
attribute [local irreducible] evsL ownsOf evC waitC tapC keyN countN


theorem press1_30 (b : Nat) (s : St) (ix : BIx) (ws : List (List UInt8)) (W : Option Addr) (c : Nat) (d : Bool) (bT : Nat) (hlen : s.fs.length ≤ 90000000000 ∧ s.pr.length ≤ 90000000) (hL : ∀ x ∈ ws, x.length ≤ 1000000) (S : List Nat) (w : World) (hS : Sat w S (BRes b s ix) w) (hF : FrL ix.hv s.fs ix.L) (hG : ∀ X w1, Sat w S X w1 → Glob30 w1) (hW : ∀ X w1, Sat w S X w1 → Rd w1 W (ws.map txV)) (hB : ∀ X w1, Sat w S X w1 → Rd w1 (some ⟨bT, 0, none⟩) [.bool d]) :
    Calls Tryd.prog 39 #[.pointer (some ⟨b, 0, none⟩), .slice W ws.length c, .pointer (some ⟨bT, 0, none⟩)] w fun e w' => ∃ i : BIx, e = .returned (.bool (evC d ws).isSome) ∧ FrL i.hv (stTry s (evC d ws)).fs i.L ∧ Sat w S (BRes b (stTry s (evC d ws)) i) w' := by
  refine enterS Tryd.func39 rfl rfl rfl hS ?_
  refine r_seq ?_
  refine r_region ?_
  refine r_assign rfl rfl ?_
  refine r_nil ?_
  refine r_tn ?_
  refine r_seq ?_
  refine r_seq ?_
  refine r_region ?_
  refine r_move rfl rfl ?_
  refine r_len rfl rfl rfl ?_
  refine r_neq (p := decide (ws.length ≠ 1)) rfl rfl rfl (decide_eq_decide.2 ⟨fun _ => by omega, fun _ => by omega⟩) ?_
  refine r_nil ?_
  refine r_tn ?_
  refine r_cond rfl (fun hc => ?_) (fun hc => ?_)
  · refine r_seq ?_
    refine r_region ?_
    refine r_assign rfl rfl ?_
    refine r_nil ?_
    refine r_tn ?_
    refine r_ret ?_
    refine r_tr ?_
    have hne : ws.length ≠ 1 := of_decide_eq_true hc
    exact r_done1 (.inl rfl) rfl (res_tmp rfl) fun w1 hw => ⟨ix, by rw [evC_len hne]; rfl, by rw [evC_len hne]; exact hF, by rw [evC_len hne]; exact hw⟩
  · refine r_skip ?_
    refine r_tn ?_
    refine r_seq ?_
    refine r_region ?_
    have hw1 : ws.length = 1 := by have h := of_decide_eq_false hc; omega
    clear hc
    obtain ⟨k, rfl⟩ := List.length_eq_one_iff.1 hw1
    obtain ⟨bw, ow, rfl⟩ := rd_some (hW _ _ hS) (k := 0) (u := txV k) rfl
    refine r_move rfl rfl ?_
    refine r_indexSl (sz := 1) (o' := ow + 0) rfl rfl rfl rfl rfl (by decide) (show (0 : Int) < _ by simp) rfl ?_
    refine r_loadC (p := ⟨bw, ow + 0, none⟩) (v := txV k) rfl rfl rfl (fun w1 hw => (hW _ w1 hw).cell (j := 0) rfl rfl) ?_
    refine r_call rfl rfl rfl (by kernel_rfl) rfl (fun w1 hw => by exact key30 k w1 (hG _ w1 hw)) ?_
    refine r_move rfl rfl ?_
    refine r_extract (v := .int .i64 (((keyN k).getD 0 : Nat) : Int)) rfl rfl rfl ?_
    refine r_extract (v := .bool (keyN k).isSome) rfl rfl rfl ?_
    refine r_assign rfl rfl ?_
    refine r_assign rfl rfl ?_
    refine r_nil ?_
    refine r_tn ?_
    refine r_seq ?_
    refine r_seq ?_
    refine r_region ?_
    refine r_move rfl rfl ?_
    refine r_nil ?_
    refine r_tn ?_
    refine r_cond rfl (fun hc => ?_) (fun hc => ?_)
    · refine r_region ?_
      obtain ⟨n, hn⟩ := Option.isSome_iff_exists.1 hc
      rw [hn]
      refine r_move rfl rfl ?_
      refine r_move rfl rfl ?_
      refine r_loadC (p := ⟨bT, 0, none⟩) (v := .bool d) rfl rfl rfl (fun w1 hw => (hB _ w1 hw).cell (j := 0) rfl rfl) ?_
      refine r_callm (A := BRes b s ix) (G := []) (permNil _) rfl rfl rfl (by kernel_rfl) rfl (fun w1 hw hs => event30 b s ix (n : Int) d (by omega) _ w1 hs) ?_
      rintro ⟨A2, c2⟩ _
      rw [List.append_nil]
      refine r_nil ?_
      refine r_tn ?_
      refine r_seq ?_
      refine r_region ?_
      refine r_move rfl rfl ?_
      refine r_assign rfl rfl ?_
      refine r_nil ?_
      refine r_tn ?_
      refine r_ret ?_
      exact r_done1 (.inl rfl) rfl (res_tmp rfl) fun w1 hw => ⟨⟨ix.A0, ix.c0, A2, c2, ix.hv, ix.L⟩, by rw [evC_some hn]; rfl, by rw [evC_some hn]; exact hF, by rw [evC_some hn]; exact hw⟩
    · refine r_skip ?_
      refine r_tn ?_
      refine r_seq ?_
      refine r_region ?_
      refine r_move rfl rfl ?_
      refine r_assign rfl rfl ?_
      refine r_nil ?_
      refine r_tn ?_
      refine r_ret ?_
      have hn : keyN k = none := by simpa using hc
      rw [hn]
      exact r_done1 (.inl rfl) rfl (res_tmp rfl) fun w1 hw => ⟨ix, by rw [evC_no hn]; rfl, by rw [evC_no hn]; exact hF, by rw [evC_no hn]; exact hw⟩

theorem waiting30 (b : Nat) (s : St) (ix : BIx) (ws : List (List UInt8)) (W : Option Addr) (c : Nat)  (hlen : s.fs.length ≤ 90000000000 ∧ s.pr.length ≤ 90000000) (hL : ∀ x ∈ ws, x.length ≤ 1000000) (S : List Nat) (w : World) (hS : Sat w S (BRes b s ix) w) (hF : FrL ix.hv s.fs ix.L) (hG : ∀ X w1, Sat w S X w1 → Glob30 w1) (hW : ∀ X w1, Sat w S X w1 → Rd w1 W (ws.map txV)) :
    Calls Tryd.prog 33 #[.pointer (some ⟨b, 0, none⟩), .slice W ws.length c] w fun e w' => ∃ i : BIx, e = .returned (.bool (waitC ws).isSome) ∧ FrL i.hv (stTry s (waitC ws)).fs i.L ∧ Sat w S (BRes b (stTry s (waitC ws)) i) w' := by
  refine enterS Tryd.func33 rfl rfl rfl hS ?_
  refine r_seq ?_
  refine r_region ?_
  refine r_assign rfl rfl ?_
  refine r_nil ?_
  refine r_tn ?_
  refine r_seq ?_
  refine r_seq ?_
  refine r_region ?_
  refine r_move rfl rfl ?_
  refine r_len rfl rfl rfl ?_
  refine r_neq (p := decide (ws.length ≠ 1)) rfl rfl rfl (decide_eq_decide.2 ⟨fun _ => by omega, fun _ => by omega⟩) ?_
  refine r_nil ?_
  refine r_tn ?_
  refine r_cond rfl (fun hc => ?_) (fun hc => ?_)
  · refine r_seq ?_
    refine r_region ?_
    refine r_assign rfl rfl ?_
    refine r_nil ?_
    refine r_tn ?_
    refine r_ret ?_
    refine r_tr ?_
    have hne : ws.length ≠ 1 := of_decide_eq_true hc
    exact r_done1 (.inl rfl) rfl (res_tmp rfl) fun w1 hw => ⟨ix, by rw [waitC_len hne]; rfl, by rw [waitC_len hne]; exact hF, by rw [waitC_len hne]; exact hw⟩
  · refine r_skip ?_
    refine r_tn ?_
    refine r_seq ?_
    refine r_region ?_
    have hw1 : ws.length = 1 := by have h := of_decide_eq_false hc; omega
    clear hc
    obtain ⟨k, rfl⟩ := List.length_eq_one_iff.1 hw1
    obtain ⟨bw, ow, rfl⟩ := rd_some (hW _ _ hS) (k := 0) (u := txV k) rfl
    refine r_move rfl rfl ?_
    refine r_indexSl (sz := 1) (o' := ow + 0) rfl rfl rfl rfl rfl (by decide) (show (0 : Int) < _ by simp) rfl ?_
    refine r_loadC (p := ⟨bw, ow + 0, none⟩) (v := txV k) rfl rfl rfl (fun w1 hw => (hW _ w1 hw).cell (j := 0) rfl rfl) ?_
    refine r_callx rfl rfl rfl (by kernel_rfl) rfl (fun w1 hw => by exact count30 k (hL k (.head _)) w1 (hG _ w1 hw)) ?_
    rintro v hv
    refine r_move rfl rfl ?_
    refine r_extract (v := .int .i64 v) rfl rfl rfl ?_
    refine r_extract (v := .bool (countN k).isSome) rfl rfl rfl ?_
    refine r_assign rfl rfl ?_
    refine r_assign rfl rfl ?_
    refine r_nil ?_
    refine r_tn ?_
    refine r_seq ?_
    refine r_seq ?_
    refine r_region ?_
    refine r_move rfl rfl ?_
    refine r_nil ?_
    refine r_tn ?_
    refine r_cond rfl (fun hc => ?_) (fun hc => ?_)
    · refine r_region ?_
      obtain ⟨n, hn⟩ := Option.isSome_iff_exists.1 hc
      obtain rfl := hv n hn
      have hnr := countN_some hn
      refine r_move rfl rfl ?_
      refine r_move rfl rfl ?_
      refine r_callm (A := BRes b s ix) (G := []) (permNil _) rfl rfl rfl (by kernel_rfl) rfl (fun w1 hw hs => wait30 b s ix n ⟨hnr.1, hnr.2.1⟩ (by omega) _ w1 hs) ?_
      rintro ⟨A2, c2⟩ _
      rw [List.append_nil]
      refine r_nil ?_
      refine r_tn ?_
      refine r_seq ?_
      refine r_region ?_
      refine r_move rfl rfl ?_
      refine r_assign rfl rfl ?_
      refine r_nil ?_
      refine r_tn ?_
      refine r_ret ?_
      rw [hn]
      exact r_done1 (.inl rfl) rfl (res_tmp rfl) fun w1 hw => ⟨⟨A2, c2, none, 0, wHv ix s n, wL ix s⟩, by rw [waitC_some hn]; rfl, by rw [waitC_some hn]; exact hF.wait n, by rw [waitC_some hn]; exact hw⟩
    · refine r_skip ?_
      refine r_tn ?_
      refine r_seq ?_
      refine r_region ?_
      refine r_move rfl rfl ?_
      refine r_assign rfl rfl ?_
      refine r_nil ?_
      refine r_tn ?_
      refine r_ret ?_
      have hn : countN k = none := by simpa using hc
      rw [hn]
      exact r_done1 (.inl rfl) rfl (res_tmp rfl) fun w1 hw => ⟨ix, by rw [waitC_no hn]; rfl, by rw [waitC_no hn]; exact hF, by rw [waitC_no hn]; exact hw⟩

theorem tapping30 (b : Nat) (s : St) (ix : BIx) (ws : List (List UInt8)) (W : Option Addr) (c : Nat)  (hlen : s.fs.length ≤ 90000000000 ∧ s.pr.length ≤ 90000000) (hL : ∀ x ∈ ws, x.length ≤ 1000000) (S : List Nat) (w : World) (hS : Sat w S (BRes b s ix) w) (hF : FrL ix.hv s.fs ix.L) (hG : ∀ X w1, Sat w S X w1 → Glob30 w1) (hW : ∀ X w1, Sat w S X w1 → Rd w1 W (ws.map txV)) :
    Calls Tryd.prog 34 #[.pointer (some ⟨b, 0, none⟩), .slice W ws.length c] w fun e w' => ∃ i : BIx, e = .returned (.bool (tapC ws).isSome) ∧ FrL i.hv (stTry s (tapC ws)).fs i.L ∧ Sat w S (BRes b (stTry s (tapC ws)) i) w' := by
  refine enterS Tryd.func34 rfl rfl rfl hS ?_
  refine r_seq ?_
  refine r_region ?_
  refine r_assign rfl rfl ?_
  refine r_nil ?_
  refine r_tn ?_
  refine r_seq ?_
  refine r_seq ?_
  refine r_region ?_
  refine r_move rfl rfl ?_
  refine r_len rfl rfl rfl ?_
  refine r_neq (p := decide (ws.length ≠ 2)) rfl rfl rfl (decide_eq_decide.2 ⟨fun _ => by omega, fun _ => by omega⟩) ?_
  refine r_nil ?_
  refine r_tn ?_
  refine r_cond rfl (fun hc => ?_) (fun hc => ?_)
  · refine r_seq ?_
    refine r_region ?_
    refine r_assign rfl rfl ?_
    refine r_nil ?_
    refine r_tn ?_
    refine r_ret ?_
    refine r_tr ?_
    have hne : ws.length ≠ 2 := of_decide_eq_true hc
    exact r_done1 (.inl rfl) rfl (res_tmp rfl) fun w1 hw => ⟨ix, by rw [tapC_len hne]; rfl, by rw [tapC_len hne]; exact hF, by rw [tapC_len hne]; exact hw⟩
  · refine r_skip ?_
    refine r_tn ?_
    refine r_seq ?_
    refine r_region ?_
    have hw1 : ws.length = 2 := by have h := of_decide_eq_false hc; omega
    clear hc
    obtain ⟨k, t, rfl⟩ := two_of hw1
    obtain ⟨bw, ow, rfl⟩ := rd_some (hW _ _ hS) (k := 0) (u := txV k) rfl
    refine r_move rfl rfl ?_
    refine r_indexSl (sz := 1) (o' := ow + 0) rfl rfl rfl rfl rfl (by decide) (show (0 : Int) < _ by simp) rfl ?_
    refine r_loadC (p := ⟨bw, ow + 0, none⟩) (v := txV k) rfl rfl rfl (fun w1 hw => (hW _ w1 hw).cell (j := 0) rfl rfl) ?_
    refine r_call rfl rfl rfl (by kernel_rfl) rfl (fun w1 hw => by exact key30 k w1 (hG _ w1 hw)) ?_
    refine r_move rfl rfl ?_
    refine r_extract (v := .int .i64 (((keyN k).getD 0 : Nat) : Int)) rfl rfl rfl ?_
    refine r_extract (v := .bool (keyN k).isSome) rfl rfl rfl ?_
    refine r_assign rfl rfl ?_
    refine r_assign rfl rfl ?_
    refine r_nil ?_
    refine r_tn ?_
    refine r_seq ?_
    refine r_region ?_
    refine r_move rfl rfl ?_
    refine r_indexSl (sz := 1) (o' := ow + 1) rfl rfl rfl rfl rfl (by decide) (show (1 : Int) < _ by simp) rfl ?_
    refine r_loadC (p := ⟨bw, ow + 1, none⟩) (v := txV t) rfl rfl rfl (fun w1 hw => (hW _ w1 hw).cell (j := 1) rfl rfl) ?_
    refine r_callx rfl rfl rfl (by kernel_rfl) rfl (fun w1 hw => by exact count30 t (hL t (.tail _ (.head _))) w1 (hG _ w1 hw)) ?_
    rintro v hv
    refine r_move rfl rfl ?_
    refine r_extract (v := .int .i64 v) rfl rfl rfl ?_
    refine r_extract (v := .bool (countN t).isSome) rfl rfl rfl ?_
    refine r_assign rfl rfl ?_
    refine r_assign rfl rfl ?_
    refine r_nil ?_
    refine r_tn ?_
    refine r_seq ?_
    refine r_cut (ι := { i : BIx // FrL i.hv (stTry s (tapC [k, t])).fs i.L }) (fun i => ([(6, .bool (keyN k).isSome), (8, .bool (countN t).isSome)], BRes b (stTry s (tapC [k, t])) i.1)) ?_ ?_
    · refine r_seq ?_
      refine r_region ?_
      refine r_move rfl rfl ?_
      refine r_move rfl rfl ?_
      refine r_split 27 rfl (fun hb27 => ?_) (fun hb27 => ?_)
      · refine r_go rfl rfl ?_
        refine r_move rfl rfl ?_
        refine r_pick_t rfl rfl rfl ?_
        refine r_nil ?_
        refine r_tn ?_
        refine r_cond rfl (fun hc => ?_) (fun hc => ?_)
        · refine r_seq ?_
          refine r_region ?_
          obtain ⟨kn, hkn⟩ := Option.isSome_iff_exists.1 hb27
          obtain ⟨n, hn⟩ := Option.isSome_iff_exists.1 hc
          obtain rfl := hv n hn
          have hnr := countN_some hn
          have e2 : (((keyN k).getD 0 : Nat) : Int) = (kn : Int) := by rw [hkn]; rfl
          rw [e2]
          refine r_move rfl rfl ?_
          refine r_move rfl rfl ?_
          refine r_callm (A := BRes b s ix) (G := []) (permNil _) rfl rfl rfl (by kernel_rfl) rfl (fun w1 hw hs => event30 b s ix (kn : Int) true (by omega) _ w1 hs) ?_
          rintro ⟨A32, c32⟩ _
          rw [List.append_nil]
          refine r_nil ?_
          refine r_tn ?_
          refine r_seq ?_
          refine r_region ?_
          refine r_move rfl rfl ?_
          refine r_move rfl rfl ?_
          refine r_callm (A := BRes b (stEv s ((kn : Int), true)) ⟨ix.A0, ix.c0, A32, c32, ix.hv, ix.L⟩) (G := []) (permNil _) rfl rfl rfl (by kernel_rfl) rfl (fun w1 hw hs => wait30 b (stEv s ((kn : Int), true)) ⟨ix.A0, ix.c0, A32, c32, ix.hv, ix.L⟩ n ⟨hnr.1, hnr.2.1⟩ (by show s.fs.length ≤ _; omega) _ w1 hs) ?_
          rintro ⟨A35, c35⟩ _
          rw [List.append_nil]
          refine r_nil ?_
          refine r_tn ?_
          refine r_region ?_
          refine r_move rfl rfl ?_
          refine r_move rfl rfl ?_
          refine r_callm (A := BRes b (stWait (stEv s ((kn : Int), true)) n) ⟨A35, c35, none, 0, wHv ⟨ix.A0, ix.c0, A32, c32, ix.hv, ix.L⟩ (stEv s ((kn : Int), true)) n, wL ⟨ix.A0, ix.c0, A32, c32, ix.hv, ix.L⟩ (stEv s ((kn : Int), true))⟩) (G := []) (permNil _) rfl rfl rfl (by kernel_rfl) rfl (fun w1 hw hs => event30 b (stWait (stEv s ((kn : Int), true)) n) ⟨A35, c35, none, 0, wHv ⟨ix.A0, ix.c0, A32, c32, ix.hv, ix.L⟩ (stEv s ((kn : Int), true)) n, wL ⟨ix.A0, ix.c0, A32, c32, ix.hv, ix.L⟩ (stEv s ((kn : Int), true))⟩ (kn : Int) false (Nat.zero_le _) _ w1 hs) ?_
          rintro ⟨A38, c38⟩ _
          rw [List.append_nil]
          refine r_nil ?_
          refine r_tn ?_
          exact r_at ⟨⟨A35, c35, A38, c38, wHv ⟨ix.A0, ix.c0, A32, c32, ix.hv, ix.L⟩ (stEv s ((kn : Int), true)) n, wL ⟨ix.A0, ix.c0, A32, c32, ix.hv, ix.L⟩ (stEv s ((kn : Int), true))⟩, by rw [tapC_some hkn hn]; exact FrL.wait (ix := ⟨ix.A0, ix.c0, A32, c32, ix.hv, ix.L⟩) (s := stEv s ((kn : Int), true)) hF n⟩ ⟨rfl, rfl, trivial⟩ (fun w1 hw => by show Sat _ _ (BRes b (stTry s (tapC [k, t])) ⟨A35, c35, A38, c38, wHv ⟨ix.A0, ix.c0, A32, c32, ix.hv, ix.L⟩ (stEv s ((kn : Int), true)) n, wL ⟨ix.A0, ix.c0, A32, c32, ix.hv, ix.L⟩ (stEv s ((kn : Int), true))⟩) w1; rw [tapC_some hkn hn]; exact hw)
        · refine r_skip ?_
          refine r_tn ?_
          have hnc : countN t = none := by simpa using hc
          exact r_at ⟨ix, by rw [tapC_no2 hnc]; exact hF⟩ ⟨rfl, rfl, trivial⟩ (fun w1 hw => by show Sat _ _ (BRes b (stTry s (tapC [k, t])) ix) w1; rw [tapC_no2 hnc]; exact hw)
      · refine r_pass rfl rfl rfl rfl ?_
        refine r_pick_f rfl rfl rfl ?_
        refine r_nil ?_
        refine r_tn ?_
        refine r_cond_f rfl ?_
        refine r_skip ?_
        refine r_tn ?_
        have hnk : keyN k = none := by simpa using hb27
        exact r_at ⟨ix, by rw [tapC_no1 hnk]; exact hF⟩ ⟨rfl, rfl, trivial⟩ (fun w1 hw => by show Sat _ _ (BRes b (stTry s (tapC [k, t])) ix) w1; rw [tapC_no1 hnk]; exact hw)
    rintro ⟨i, hFi⟩
    refine r_seq ?_
    refine r_region ?_
    refine r_move rfl rfl ?_
    refine r_move rfl rfl ?_
    refine r_split 40 rfl (fun hb40 => ?_) (fun hb40 => ?_)
    · refine r_go rfl rfl ?_
      refine r_move rfl rfl ?_
      refine r_pick_t rfl rfl rfl ?_
      refine r_assign rfl rfl ?_
      refine r_nil ?_
      refine r_tn ?_
      refine r_ret ?_
      exact r_done1 (.inl rfl) rfl (res_tmp rfl) fun w1 hw => ⟨i, by rw [tapC_is, hb40, Bool.true_and], hFi, hw⟩
    · refine r_pass rfl rfl rfl rfl ?_
      refine r_pick_f rfl rfl rfl ?_
      refine r_assign rfl rfl ?_
      refine r_nil ?_
      refine r_tn ?_
      refine r_ret ?_
      exact r_done1 (.inl rfl) rfl (res_tmp rfl) fun w1 hw => ⟨i, by rw [tapC_is, hb40, Bool.false_and], hFi, hw⟩
end Go.Proofs.YtghjbnbkfohmlaaDoor
