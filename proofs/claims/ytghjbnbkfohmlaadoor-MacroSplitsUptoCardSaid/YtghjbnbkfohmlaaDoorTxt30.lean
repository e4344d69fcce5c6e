/-
  Macros (chapter 30): texts: the reference s Texts, Decimal, Hex.
-/
import Derived.Test.YtghjbnbkfohmlaaDoorStr30
import Derived.Test.YtghjbnbkfohmlaaDoorShelf30
import Derived.Lib.ItoaLen
namespace Go.Proofs.YtghjbnbkfohmlaaDoor
open Go Go.RowKit
set_option linter.unusedVariables false
set_option linter.unusedSimpArgs false
set_option maxHeartbeats 2000000
set_option maxRecDepth 4000
attribute [local irreducible] mix
section
variable {P : Program} {n : Nat} {w0 : World} {S : List Nat} {E : List (Nat × Value)} {H G : List Res}
variable {dr : Option Dr} {ops : Array Oper} {K : Act → World → Prop} {rest : List Oper} {d : Nat} {ty : TypeId} {pos : String} {after : Array Edge} {x y : Operand}
theorem r_addTx {t t' : TypeId} {l m : List UInt8} (hd : Nat.blt d n = true) (hx : ev E x = some (.string (tx l))) (hy : ev E y = some (.string (tx m))) (hs : l.length + m.length ≤ 9223372036854775807) (hk : Run n w0 S ((d, .string (tx (l ++ m))) :: E) H (mix P dr ops K rest)) :
    Run n w0 S E H (mix P dr ops K (⟨some d, .binOp .add t x y t', ty, pos, after, none⟩ :: rest)) :=
  r_addStr hd hx hy (by rw [tx_size, tx_size]; exact hs) (by rw [tx_append]; exact hk)
end
def txV (l : List UInt8) : Value := .string (tx l)
theorem sat_below {w w1 : World} (h : Below w.heap.size w w1) : Sat w [] [] w1 := ⟨h.os, h.tape, h.output, h.size, fun k hk _ => h.block k hk, by simp, by simp, .nil⟩
def hexC (k : Nat) : UInt8 := UInt8.ofNat (if k < 10 then 48 + k else 55 + k)
theorem hex_at : ∀ k, k < 16 → (ByteArray.mk #[48, 49, 50, 51, 52, 53, 54, 55, 56, 57, 65, 66, 67, 68, 69, 70])[k]? = some (hexC k) := by decide
theorem strOf_fold : ∀ (l : List Int) (b : List UInt8), l.foldl (fun r z => r.push (UInt8.ofNat z.toNat)) (tx b) = tx (b ++ l.map fun z => UInt8.ofNat z.toNat)
  | [], b => by simp
  | z :: l, b => by
    rw [List.foldl_cons, show (tx b).push (UInt8.ofNat z.toNat) = tx (b ++ [UInt8.ofNat z.toNat]) by
      apply ByteArray.ext
      simp [tx], strOf_fold l]
    simp
theorem strOf_tx (l : List Int) : strOf l = tx (l.map fun z => UInt8.ofNat z.toNat) := strOf_fold l []
def bI (l : List UInt8) : List Int := l.map fun z => ((z.toNat : Nat) : Int)
theorem bI_len (l : List UInt8) : (bI l).length = l.length := by simp [bI]
theorem bI_snoc (l : List UInt8) (z : UInt8) : bI (l ++ [z]) = bI l ++ [((z.toNat : Nat) : Int)] := by simp [bI]
theorem strOf_bI (l : List UInt8) : strOf (bI l) = tx l := by
  rw [strOf_tx]
  congr 1
  unfold bI
  rw [List.map_map]
  conv => rhs; rw [← List.map_id l]
  apply List.map_congr_left
  intro z _
  show UInt8.ofNat z.toNat = z
  exact UInt8.ofNat_toNat
theorem txs_at {xs : List (List UInt8)} {k : Nat} (h : k < xs.length) : (xs.map txV)[k]? = some (txV xs[k]) := by simp [h]
theorem rd_some {w : World} {A : Option Addr} {xs : List Value} (h : Rd w A xs) {k : Nat} {u : Value} (hk : xs[k]? = some u) : ∃ b o, A = some ⟨b, o, none⟩ := by
  obtain ⟨b, o, e, _⟩ := h k u hk
  exact ⟨b, o, e⟩
theorem refTexts24 (xs : List (List UInt8)) (hlen : xs.length ≤ 1000000000) (A1 A2 : Option Addr) (c1 c2 : Nat) (w : World) (h1 : Rd w A1 (xs.map txV)) (h2 : Rd w A2 (xs.map txV)) :
    Calls Tryd.prog 17 #[.slice A1 xs.length c1, .slice A2 xs.length c2] w fun e w' => e = .returned (.bool true) ∧ Sat w [] [] w' := by
  refine enter Tryd.func17 rfl rfl rfl ?_
  refine r_seq ?_
  refine r_region ?_
  refine r_assign rfl rfl ?_
  refine r_nil ?_
  refine r_tn ?_
  refine r_seq ?_
  refine r_seq ?_
  refine r_region ?_
  refine r_move rfl rfl ?_
  refine r_len rfl rfl rfl ?_
  refine r_move rfl rfl ?_
  refine r_len rfl rfl rfl ?_
  refine r_neq (p := false) rfl rfl rfl (decide_eq_false (by simp)) ?_
  refine r_nil ?_
  refine r_tn ?_
  refine r_cond_f rfl ?_
  refine r_skip ?_
  refine r_tn ?_
  refine r_seq ?_
  refine r_seq ?_
  refine r_region ?_
  refine r_assign rfl rfl ?_
  refine r_nil ?_
  refine r_tn ?_
  refine r_block ?_
  refine r_loopN (fun k => [(0, .slice A1 xs.length c1), (1, .slice A2 xs.length c2), (5, .int .i64 (k : Int))]) (fun _ => []) (fun k => k ≤ xs.length) xs.length 0 (by omega) ⟨rfl, rfl, rfl, trivial⟩ (fun w hw => hw.clear) fun k hk => ?_
  refine r_seq ?_
  refine r_seq ?_
  refine r_region ?_
  refine r_move rfl rfl ?_
  refine r_move rfl rfl ?_
  refine r_len rfl rfl rfl ?_
  refine r_lss rfl rfl rfl rfl ?_
  refine r_nil ?_
  refine r_tn ?_
  refine r_cond rfl (fun hc => ?_) (fun hc => ?_)
  · refine r_skip ?_
    refine r_tn ?_
    refine r_seq ?_
    refine r_block ?_
    refine r_seq ?_
    refine r_mixed (by kernel_rfl) (by kernel_rfl) ?_
    have hk2 : k < xs.length := by have h := of_decide_eq_true hc; omega
    clear hc
    have e1 := txs_at hk2
    obtain ⟨b1, o1, rfl⟩ := rd_some h1 e1
    obtain ⟨b2, o2, rfl⟩ := rd_some h2 e1
    refine r_move rfl rfl ?_
    refine r_move rfl rfl ?_
    refine r_indexSl (sz := 1) (o' := o1 + k) rfl rfl rfl rfl rfl (by omega) (by omega) (by omega) ?_
    refine r_loadC (p := ⟨b1, o1 + k, none⟩) (v := txV xs[k]) rfl rfl rfl (fun w hw => (h1.keep hw).cell e1 rfl) ?_
    refine r_move rfl rfl ?_
    refine r_move rfl rfl ?_
    refine r_indexSl (sz := 1) (o' := o2 + k) rfl rfl rfl rfl rfl (by omega) (by omega) (by omega) ?_
    refine r_loadC (p := ⟨b2, o2 + k, none⟩) (v := txV xs[k]) rfl rfl rfl (fun w hw => (h2.keep hw).cell e1 rfl) ?_
    refine r_neq_string (a := tx xs[k]) (b := tx xs[k]) (p := false) rfl rfl rfl (by rw [beq_self_eq_true]; rfl) ?_
    refine r_nil ?_
    refine r_tn ?_
    refine r_cond_f rfl ?_
    refine r_skip ?_
    refine r_bn ?_
    refine r_tn ?_
    refine r_region ?_
    refine r_move rfl rfl ?_
    refine r_add rfl rfl rfl (w64 (by omega)) ?_
    refine r_assign rfl rfl ?_
    refine r_nil ?_
    refine r_tn ?_
    exact r_againN (k + 1) (by omega) (by omega) ⟨rfl, rfl, rfl, trivial⟩ (fun w hw => hw.clear)
  · refine r_exit ?_
    refine r_te ?_
    refine r_te ?_
    refine r_be ?_
    refine r_tn ?_
    refine r_seq ?_
    refine r_region ?_
    refine r_assign rfl rfl ?_
    refine r_nil ?_
    refine r_tn ?_
    refine r_ret ?_
    exact r_done1 (.inl rfl) rfl (res_tmp rfl) fun w hw => ⟨rfl, hw.clear⟩
theorem dec_ext : ∀ n, n < 10 → (ByteArray.mk #[48, 49, 50, 51, 52, 53, 54, 55, 56, 57]).extract n (n + 1) = tx [UInt8.ofNat (48 + n)] := by decide
theorem hex_ext : ∀ n, n < 16 → (ByteArray.mk #[48, 49, 50, 51, 52, 53, 54, 55, 56, 57, 65, 66, 67, 68, 69, 70]).extract n (n + 1) = tx [hexC n] := by decide
theorem dec_len {u : Nat} (h : u < 18446744073709551616) : (Lib.decDigits u).length ≤ 20 := by
  rw [Lib.decDigits_eq, List.length_map, List.length_range]
  exact Lib.nDigits_le20 u h
theorem dec_big {u : Nat} (h : ¬ u < 10) : Lib.decDigits u = Lib.decDigits (u / 10) ++ [UInt8.ofNat (48 + u % 10)] := by
  conv => lhs; rw [Lib.decDigits, dif_neg h]
def hexR (p : Nat) : Nat → List UInt8
  | 0 => []
  | k + 1 => [hexC (p / 16 ^ k % 16)] ++ hexR p k
theorem hexR_len (p : Nat) : ∀ k, (hexR p k).length = k
  | 0 => rfl
  | k + 1 => by
    unfold hexR
    rw [List.length_append, hexR_len p k, List.length_cons, List.length_nil]
    omega
theorem itoa_nat (u : Nat) : Lib.itoa (u : Int) = Lib.decDigits u := by
  unfold Lib.itoa
  rw [if_neg (by omega)]
  rfl
theorem refDecimal24 (u : Nat) : u ≤ 9223372036854775807 → ∀ (w : World), Calls Tryd.prog 14 #[.int .i64 (u : Int)] w fun e w' => e = .returned (.string (tx (Lib.decDigits u))) ∧ Sat w [] [] w' := by
  induction u using Nat.strongRecOn with
  | _ u ih =>
    intro hu w
    refine enter Tryd.func14 rfl rfl rfl ?_
    refine r_seq ?_
    refine r_region ?_
    refine r_assign rfl rfl ?_
    refine r_nil ?_
    refine r_tn ?_
    refine r_seq ?_
    refine r_region ?_
    refine r_assign rfl rfl ?_
    refine r_nil ?_
    refine r_tn ?_
    refine r_seq ?_
    refine r_region ?_
    refine r_move rfl rfl ?_
    refine r_move rfl rfl ?_
    refine r_rem (r := ((u % 10 : Nat) : Int)) rfl rfl rfl (by decide) rfl ?_
    refine r_move rfl rfl ?_
    refine r_rem (r := ((u % 10 : Nat) : Int)) rfl rfl rfl (by decide) rfl ?_
    refine r_add (r := ((u % 10 + 1 : Nat) : Int)) rfl rfl rfl ((w64 (by omega)).trans (by omega)) ?_
    refine r_partBoth (l' := u % 10) (h' := u % 10 + 1) rfl rfl rfl rfl rfl rfl rfl (show u % 10 + 1 ≤ 10 by omega) (by omega) ?_
    rw [dec_ext _ (Nat.mod_lt u (by decide))]
    refine r_assign rfl rfl ?_
    refine r_nil ?_
    refine r_tn ?_
    refine r_seq ?_
    refine r_seq ?_
    refine r_region ?_
    refine r_move rfl rfl ?_
    refine r_lss (p := decide (u < 10)) rfl rfl rfl (decide_eq_decide.2 ⟨fun _ => by omega, fun _ => by omega⟩) ?_
    refine r_nil ?_
    refine r_tn ?_
    refine r_cond rfl (fun hc => ?_) (fun hc => ?_)
    · refine r_seq ?_
      refine r_region ?_
      refine r_move rfl rfl ?_
      refine r_assign rfl rfl ?_
      refine r_nil ?_
      refine r_tn ?_
      refine r_ret ?_
      refine r_tr ?_
      have hu2 : u < 10 := of_decide_eq_true hc
      exact r_done1 (.inl rfl) rfl (res_tmp rfl) fun w hw => ⟨by rw [Lib.decDigits, dif_pos hu2, Nat.mod_eq_of_lt hu2], hw.clear⟩
    · refine r_skip ?_
      refine r_tn ?_
      refine r_seq ?_
      refine r_region ?_
      have hu2 : ¬ u < 10 := of_decide_eq_false hc
      refine r_move rfl rfl ?_
      refine r_quo (r := ((u / 10 : Nat) : Int)) rfl rfl rfl (by decide) (w64 (show -9223372036854775808 ≤ ((u / 10 : Nat) : Int) ∧ ((u / 10 : Nat) : Int) ≤ 9223372036854775807 by omega)) ?_
      refine r_call rfl rfl rfl (by kernel_rfl) rfl (fun w hw => by exact ih (u / 10) (by omega) (by omega) w) ?_
      refine r_move rfl rfl ?_
      refine r_addTx (l := Lib.decDigits (u / 10)) (m := [UInt8.ofNat (48 + u % 10)]) rfl rfl rfl (by have h := dec_len (show u / 10 < 18446744073709551616 by omega); simp only [List.length_cons, List.length_nil]; omega) ?_
      refine r_assign rfl rfl ?_
      refine r_nil ?_
      refine r_tn ?_
      refine r_ret ?_
      exact r_done1 (.inl rfl) rfl (res_tmp rfl) fun w hw => ⟨by rw [dec_big hu2], hw.clear⟩
theorem refHex24 (p k : Nat) (hk : 1 ≤ k ∧ k ≤ 8) (hp : p ≤ 4294967295) (w : World) :
    Calls Tryd.prog 13 #[.int .i64 (p : Int), .int .i64 (k : Int)] w fun e w' => e = .returned (.string (tx (hexR p k))) ∧ Sat w [] [] w' := by
  refine enter Tryd.func13 rfl rfl rfl ?_
  refine r_seq ?_
  refine r_region ?_
  refine r_assign rfl rfl ?_
  refine r_nil ?_
  refine r_tn ?_
  refine r_seq ?_
  refine r_seq ?_
  refine r_region ?_
  refine r_move rfl rfl ?_
  refine r_lss (p := false) rfl rfl rfl (decide_eq_false (by omega)) ?_
  refine r_move rfl rfl ?_
  refine r_go rfl rfl ?_
  refine r_move rfl rfl ?_
  refine r_go rfl rfl ?_
  refine r_gtr (p := false) rfl rfl rfl (decide_eq_false (by omega)) ?_
  refine r_pick_f rfl rfl rfl ?_
  refine r_move rfl rfl ?_
  refine r_go rfl rfl ?_
  refine r_move rfl rfl ?_
  refine r_go rfl rfl ?_
  refine r_lss (p := false) rfl rfl rfl (decide_eq_false (by omega)) ?_
  refine r_pick_f rfl rfl rfl ?_
  refine r_move rfl rfl ?_
  refine r_go rfl rfl ?_
  refine r_move rfl rfl ?_
  refine r_go rfl rfl ?_
  refine r_gtr (p := false) rfl rfl rfl (decide_eq_false (by omega)) ?_
  refine r_pick_f rfl rfl rfl ?_
  refine r_nil ?_
  refine r_tn ?_
  refine r_cond_f rfl ?_
  refine r_skip ?_
  refine r_tn ?_
  refine r_seq ?_
  refine r_region ?_
  refine r_assign rfl rfl ?_
  refine r_nil ?_
  refine r_tn ?_
  refine r_seq ?_
  refine r_region ?_
  refine r_assign rfl rfl ?_
  refine r_nil ?_
  refine r_tn ?_
  refine r_seq ?_
  refine r_seq ?_
  refine r_region ?_
  refine r_assign rfl rfl ?_
  refine r_nil ?_
  refine r_tn ?_
  refine r_block ?_
  refine r_loopN (fun i => [(0, .int .i64 ((p / 16 ^ i : Nat) : Int)), (1, .int .i64 (k : Int)), (5, .string (ByteArray.mk #[48, 49, 50, 51, 52, 53, 54, 55, 56, 57, 65, 66, 67, 68, 69, 70])), (6, .string (tx (hexR p i))), (7, .int .i64 (i : Int))]) (fun i => []) (fun i => i ≤ k) k 0 (by omega) ⟨by rw [Nat.pow_zero, Nat.div_one]; rfl, rfl, rfl, rfl, rfl, trivial⟩ (fun w hw => hw.clear) fun i hi => ?_
  refine r_seq ?_
  refine r_seq ?_
  refine r_region ?_
  refine r_move rfl rfl ?_
  refine r_move rfl rfl ?_
  refine r_lss (p := decide (i < k)) rfl rfl rfl (decide_eq_decide.2 ⟨fun _ => by omega, fun _ => by omega⟩) ?_
  refine r_nil ?_
  refine r_tn ?_
  refine r_cond rfl (fun hc => ?_) (fun hc => ?_)
  · refine r_skip ?_
    refine r_tn ?_
    refine r_seq ?_
    refine r_block ?_
    refine r_seq ?_
    refine r_region ?_
    have hi2 : i < k := of_decide_eq_true hc
    clear hc
    obtain ⟨q, hq⟩ : ∃ q, p / 16 ^ i = q := ⟨_, rfl⟩
    have hq2 : q ≤ 4294967295 := by rw [← hq]; exact Nat.le_trans (Nat.div_le_self _ _) hp
    rw [hq]
    refine r_move rfl rfl ?_
    refine r_move rfl rfl ?_
    refine r_rem (r := ((q % 16 : Nat) : Int)) rfl rfl rfl (by decide) rfl ?_
    refine r_move rfl rfl ?_
    refine r_rem (r := ((q % 16 : Nat) : Int)) rfl rfl rfl (by decide) rfl ?_
    refine r_add (r := ((q % 16 + 1 : Nat) : Int)) rfl rfl rfl ((w64 (by omega)).trans (by omega)) ?_
    refine r_partBoth (l' := q % 16) (h' := q % 16 + 1) rfl rfl rfl rfl rfl rfl rfl (show q % 16 + 1 ≤ 16 by omega) (by omega) ?_
    rw [hex_ext _ (Nat.mod_lt q (by decide))]
    refine r_move rfl rfl ?_
    refine r_addTx (l := [hexC (q % 16)]) (m := hexR p i) rfl rfl rfl (by rw [hexR_len]; simp only [List.length_cons, List.length_nil]; omega) ?_
    refine r_assign rfl rfl ?_
    refine r_nil ?_
    refine r_tn ?_
    refine r_region ?_
    refine r_move rfl rfl ?_
    refine r_quo (r := ((q / 16 : Nat) : Int)) rfl rfl rfl (by decide) (w64 (show -9223372036854775808 ≤ ((q / 16 : Nat) : Int) ∧ ((q / 16 : Nat) : Int) ≤ 9223372036854775807 by omega)) ?_
    refine r_assign rfl rfl ?_
    refine r_nil ?_
    refine r_bn ?_
    refine r_tn ?_
    refine r_region ?_
    refine r_move rfl rfl ?_
    refine r_add rfl rfl rfl (w64 (by omega)) ?_
    refine r_assign rfl rfl ?_
    refine r_nil ?_
    refine r_tn ?_
    exact r_againN (i + 1) (by omega) (by omega) ⟨congrArg (fun z : Nat => some (Value.int .i64 (z : Int))) (by rw [← hq, Nat.div_div_eq_div_mul, ← Nat.pow_succ]), rfl, rfl, by rw [hexR, hq]; rfl, rfl, trivial⟩ (fun w hw => hw.clear)
  · refine r_exit ?_
    refine r_te ?_
    refine r_te ?_
    refine r_be ?_
    refine r_tn ?_
    refine r_seq ?_
    refine r_region ?_
    have hi3 : i = k := by have h := of_decide_eq_false hc; omega
    subst hi3
    refine r_move rfl rfl ?_
    refine r_assign rfl rfl ?_
    refine r_nil ?_
    refine r_tn ?_
    refine r_ret ?_
    exact r_done1 (.inl rfl) rfl (res_tmp rfl) fun w hw => ⟨rfl, hw.clear⟩
end Go.Proofs.YtghjbnbkfohmlaaDoor
