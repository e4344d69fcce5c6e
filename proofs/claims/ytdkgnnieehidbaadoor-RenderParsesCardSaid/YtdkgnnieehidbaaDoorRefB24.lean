/-
  Rendering (chapter 24): the reference s Decimal, Hex, Status, Record.
-/
import Derived.Test.YtdkgnnieehidbaaDoorRefA24
namespace Go.Proofs.YtdkgnnieehidbaaDoor
open Go Go.RowKit
set_option linter.unusedVariables false
set_option linter.unusedSimpArgs false
set_option maxHeartbeats 2000000
set_option maxRecDepth 4000
attribute [local irreducible] mix

section
variable {P : Program} {n : Nat} {w0 : World} {S : List Nat} {E : List (Nat × Value)} {H G : List Res}
variable {dr : Option Dr} {ops : Array Oper} {K : Act → World → Prop} {rest : List Oper} {d : Nat} {ty : TypeId} {pos : String} {after : Array Edge} {x y : Operand}
theorem r_addTx {t t' : TypeId} {l m : List UInt8} (hd : Nat.blt d n = true) (hx : ev E x = some (.string (tx l))) (hy : ev E y = some (.string (tx m))) (hs : l.length + m.length ≤ 9223372036854775807) (hk : Run n w0 S ((d, .string (tx (l ++ m))) :: E) H (mix P dr ops K rest)) :
    Run n w0 S E H (mix P dr ops K (⟨some d, .binOp .add t x y t', ty, pos, after, none⟩ :: rest)) :=
  r_addStr hd hx hy (by rw [tx_size, tx_size]; exact hs) (by rw [tx_append]; exact hk)
end
theorem dec_ext : ∀ n, n < 10 → (ByteArray.mk #[48, 49, 50, 51, 52, 53, 54, 55, 56, 57]).extract n (n + 1) = tx [UInt8.ofNat (48 + n)] := by decide
theorem hex_ext : ∀ n, n < 16 → (ByteArray.mk #[48, 49, 50, 51, 52, 53, 54, 55, 56, 57, 65, 66, 67, 68, 69, 70]).extract n (n + 1) = tx [hexC n] := by decide
theorem dec_len {u : Nat} (h : u < 18446744073709551616) : (Lib.decDigits u).length ≤ 20 := by
  rw [Lib.decDigits_eq, List.length_map, List.length_range]
  exact Lib.nDigits_le20 u h
theorem dec_big {u : Nat} (h : ¬ u < 10) : Lib.decDigits u = Lib.decDigits (u / 10) ++ [UInt8.ofNat (48 + u % 10)] := by
  conv => lhs; rw [Lib.decDigits, dif_neg h]
/-- the last k digits of a number -/
def hexR (p : Nat) : Nat → List UInt8
  | 0 => []
  | k + 1 => [hexC (p / 16 ^ k % 16)] ++ hexR p k
theorem hexR_len (p : Nat) : ∀ k, (hexR p k).length = k
  | 0 => rfl
  | k + 1 => by
    unfold hexR
    rw [List.length_append, hexR_len p k, List.length_cons, List.length_nil]
    omega
theorem hexR_four (p : Nat) : hexR p 4 = hexB p := by
  show [hexC (p / 16 ^ 3 % 16), hexC (p / 16 ^ 2 % 16), hexC (p / 16 ^ 1 % 16), hexC (p / 16 ^ 0 % 16)] = _
  unfold hexB
  rw [Nat.pow_zero, Nat.div_one]
theorem itoa_nat (u : Nat) : Lib.itoa (u : Int) = Lib.decDigits u := by
  unfold Lib.itoa
  rw [if_neg (by omega)]
  rfl
def atT (pc cy : Nat) : List UInt8 := ([32, 97, 116, 32] ++ hexB pc) ++ [32, 99, 121, 99, 108, 101, 32] ++ Lib.decDigits cy
theorem atT_def (pc cy : Nat) : (([32, 97, 116, 32] ++ hexR pc 4) ++ [32, 99, 121, 99, 108, 101, 32]) ++ Lib.decDigits cy = atT pc cy := by rw [hexR_four]; rfl
theorem atT_len {pc cy : Nat} (h : cy ≤ 4611686018427387904) : (atT pc cy).length ≤ 100 := by
  have h2 := dec_len (show cy < 18446744073709551616 by omega)
  rw [← atT_def]
  simp only [List.length_append, hexR_len, List.length_cons, List.length_nil]
  omega
theorem stat_0 (ca pc : Nat) (cy : Int) : statT 0 ca pc cy = [114, 117, 110, 110, 105, 110, 103] := rfl
theorem stat_1 (ca pc : Nat) (cy : Int) : statT 1 ca pc cy = [119, 97, 105, 116, 105, 110, 103] := rfl
theorem stat_2 (ca pc cy : Nat) : statT 2 ca pc cy = [104, 97, 108, 116, 101, 100] ++ atT pc cy := by
  unfold statT partsS atT
  rw [if_neg (by decide), if_pos rfl, itoa_nat]
  simp [Lib.join, List.intercalate, kindT, kindsL]
theorem stat_3 (ca pc cy : Nat) : statT 3 ca pc cy = kindT 3 ++ ([32] ++ (causeT ca ++ atT pc cy)) := by
  unfold statT partsS atT
  rw [if_neg (by decide), if_neg (by decide), itoa_nat]
  simp [Lib.join, List.intercalate]
theorem stat_31 (pc cy : Nat) : statT 3 1 pc cy = [102, 97, 117, 108, 116, 101, 100, 32, 105, 108, 108, 101, 103, 97, 108] ++ atT pc cy := stat_3 1 pc cy
theorem stat_32 (pc cy : Nat) : statT 3 2 pc cy = [102, 97, 117, 108, 116, 101, 100, 32, 111, 118, 101, 114, 102, 108, 111, 119] ++ atT pc cy := stat_3 2 pc cy
theorem stat_33 (pc cy : Nat) : statT 3 3 pc cy = [102, 97, 117, 108, 116, 101, 100, 32, 114, 101, 116, 117, 114, 110] ++ atT pc cy := stat_3 3 pc cy
theorem stat_34 (pc cy : Nat) : statT 3 4 pc cy = [102, 97, 117, 108, 116, 101, 100, 32, 114, 97, 110, 103, 101] ++ atT pc cy := stat_3 4 pc cy
theorem words3 (a b c : List UInt8) : ∀ u ∈ [txV a, txV b, txV c], u.oneCell' = true := by
  intro u hu
  simp only [List.mem_cons, List.not_mem_nil, or_false] at hu
  rcases hu with rfl | rfl | rfl <;> rfl


theorem refDecimal24 (u : Nat) : u ≤ 9223372036854775807 → ∀ (w : World), Calls Tryd.prog 45 #[.int .i64 (u : Int)] w fun e w' => e = .returned (.string (tx (Lib.decDigits u))) ∧ Sat w [] [] w' := by
  induction u using Nat.strongRecOn with
  | _ u ih =>
    intro hu w
    refine enter Tryd.func45 rfl rfl rfl ?_
    refine r_seq ?_
    refine r_region ?_
    refine r_assign rfl rfl ?_
    refine r_nil ?_
    refine r_tn ?_
    refine r_seq ?_
    refine r_region ?_
    refine r_assign rfl rfl ?_
    refine r_nil ?_
    refine r_tn ?_
    refine r_seq ?_
    refine r_region ?_
    refine r_move rfl rfl ?_
    refine r_move rfl rfl ?_
    refine r_rem (r := ((u % 10 : Nat) : Int)) rfl rfl rfl (by decide) rfl ?_
    refine r_move rfl rfl ?_
    refine r_rem (r := ((u % 10 : Nat) : Int)) rfl rfl rfl (by decide) rfl ?_
    refine r_add (r := ((u % 10 + 1 : Nat) : Int)) rfl rfl rfl ((w64 (by omega)).trans (by omega)) ?_
    refine r_partBoth (l' := u % 10) (h' := u % 10 + 1) rfl rfl rfl rfl rfl rfl rfl (show u % 10 + 1 ≤ 10 by omega) (by omega) ?_
    rw [dec_ext _ (Nat.mod_lt u (by decide))]
    refine r_assign rfl rfl ?_
    refine r_nil ?_
    refine r_tn ?_
    refine r_seq ?_
    refine r_seq ?_
    refine r_region ?_
    refine r_move rfl rfl ?_
    refine r_lss (p := decide (u < 10)) rfl rfl rfl (decide_eq_decide.2 ⟨fun _ => by omega, fun _ => by omega⟩) ?_
    refine r_nil ?_
    refine r_tn ?_
    refine r_cond rfl (fun hc => ?_) (fun hc => ?_)
    · refine r_seq ?_
      refine r_region ?_
      refine r_move rfl rfl ?_
      refine r_assign rfl rfl ?_
      refine r_nil ?_
      refine r_tn ?_
      refine r_ret ?_
      refine r_tr ?_
      have hu2 : u < 10 := of_decide_eq_true hc
      exact r_done1 (.inl rfl) rfl (res_tmp rfl) fun w hw => ⟨by rw [Lib.decDigits, dif_pos hu2, Nat.mod_eq_of_lt hu2], hw.clear⟩
    · refine r_skip ?_
      refine r_tn ?_
      refine r_seq ?_
      refine r_region ?_
      have hu2 : ¬ u < 10 := of_decide_eq_false hc
      refine r_move rfl rfl ?_
      refine r_quo (r := ((u / 10 : Nat) : Int)) rfl rfl rfl (by decide) (w64 (show -9223372036854775808 ≤ ((u / 10 : Nat) : Int) ∧ ((u / 10 : Nat) : Int) ≤ 9223372036854775807 by omega)) ?_
      refine r_call rfl rfl rfl (by kernel_rfl) rfl (fun w hw => by exact ih (u / 10) (by omega) (by omega) w) ?_
      refine r_move rfl rfl ?_
      refine r_addTx (l := Lib.decDigits (u / 10)) (m := [UInt8.ofNat (48 + u % 10)]) rfl rfl rfl (by have h := dec_len (show u / 10 < 18446744073709551616 by omega); simp only [List.length_cons, List.length_nil]; omega) ?_
      refine r_assign rfl rfl ?_
      refine r_nil ?_
      refine r_tn ?_
      refine r_ret ?_
      exact r_done1 (.inl rfl) rfl (res_tmp rfl) fun w hw => ⟨by rw [dec_big hu2], hw.clear⟩

theorem refHex24 (p k : Nat) (hk : 1 ≤ k ∧ k ≤ 8) (hp : p ≤ 4294967295) (w : World) :
    Calls Tryd.prog 44 #[.int .i64 (p : Int), .int .i64 (k : Int)] w fun e w' => e = .returned (.string (tx (hexR p k))) ∧ Sat w [] [] w' := by
  refine enter Tryd.func44 rfl rfl rfl ?_
  refine r_seq ?_
  refine r_region ?_
  refine r_assign rfl rfl ?_
  refine r_nil ?_
  refine r_tn ?_
  refine r_seq ?_
  refine r_seq ?_
  refine r_region ?_
  refine r_move rfl rfl ?_
  refine r_lss (p := false) rfl rfl rfl (decide_eq_false (by omega)) ?_
  refine r_move rfl rfl ?_
  refine r_go rfl rfl ?_
  refine r_move rfl rfl ?_
  refine r_go rfl rfl ?_
  refine r_gtr (p := false) rfl rfl rfl (decide_eq_false (by omega)) ?_
  refine r_pick_f rfl rfl rfl ?_
  refine r_move rfl rfl ?_
  refine r_go rfl rfl ?_
  refine r_move rfl rfl ?_
  refine r_go rfl rfl ?_
  refine r_lss (p := false) rfl rfl rfl (decide_eq_false (by omega)) ?_
  refine r_pick_f rfl rfl rfl ?_
  refine r_move rfl rfl ?_
  refine r_go rfl rfl ?_
  refine r_move rfl rfl ?_
  refine r_go rfl rfl ?_
  refine r_gtr (p := false) rfl rfl rfl (decide_eq_false (by omega)) ?_
  refine r_pick_f rfl rfl rfl ?_
  refine r_nil ?_
  refine r_tn ?_
  refine r_cond_f rfl ?_
  refine r_skip ?_
  refine r_tn ?_
  refine r_seq ?_
  refine r_region ?_
  refine r_assign rfl rfl ?_
  refine r_nil ?_
  refine r_tn ?_
  refine r_seq ?_
  refine r_region ?_
  refine r_assign rfl rfl ?_
  refine r_nil ?_
  refine r_tn ?_
  refine r_seq ?_
  refine r_seq ?_
  refine r_region ?_
  refine r_assign rfl rfl ?_
  refine r_nil ?_
  refine r_tn ?_
  refine r_block ?_
  refine r_loopN (fun i => [(0, .int .i64 ((p / 16 ^ i : Nat) : Int)), (1, .int .i64 (k : Int)), (5, .string (ByteArray.mk #[48, 49, 50, 51, 52, 53, 54, 55, 56, 57, 65, 66, 67, 68, 69, 70])), (6, .string (tx (hexR p i))), (7, .int .i64 (i : Int))]) (fun i => []) (fun i => i ≤ k) k 0 (by omega) ⟨by rw [Nat.pow_zero, Nat.div_one]; rfl, rfl, rfl, rfl, rfl, trivial⟩ (fun w hw => hw.clear) fun i hi => ?_
  refine r_seq ?_
  refine r_seq ?_
  refine r_region ?_
  refine r_move rfl rfl ?_
  refine r_move rfl rfl ?_
  refine r_lss (p := decide (i < k)) rfl rfl rfl (decide_eq_decide.2 ⟨fun _ => by omega, fun _ => by omega⟩) ?_
  refine r_nil ?_
  refine r_tn ?_
  refine r_cond rfl (fun hc => ?_) (fun hc => ?_)
  · refine r_skip ?_
    refine r_tn ?_
    refine r_seq ?_
    refine r_block ?_
    refine r_seq ?_
    refine r_region ?_
    have hi2 : i < k := of_decide_eq_true hc
    clear hc
    obtain ⟨q, hq⟩ : ∃ q, p / 16 ^ i = q := ⟨_, rfl⟩
    have hq2 : q ≤ 4294967295 := by rw [← hq]; exact Nat.le_trans (Nat.div_le_self _ _) hp
    rw [hq]
    refine r_move rfl rfl ?_
    refine r_move rfl rfl ?_
    refine r_rem (r := ((q % 16 : Nat) : Int)) rfl rfl rfl (by decide) rfl ?_
    refine r_move rfl rfl ?_
    refine r_rem (r := ((q % 16 : Nat) : Int)) rfl rfl rfl (by decide) rfl ?_
    refine r_add (r := ((q % 16 + 1 : Nat) : Int)) rfl rfl rfl ((w64 (by omega)).trans (by omega)) ?_
    refine r_partBoth (l' := q % 16) (h' := q % 16 + 1) rfl rfl rfl rfl rfl rfl rfl (show q % 16 + 1 ≤ 16 by omega) (by omega) ?_
    rw [hex_ext _ (Nat.mod_lt q (by decide))]
    refine r_move rfl rfl ?_
    refine r_addTx (l := [hexC (q % 16)]) (m := hexR p i) rfl rfl rfl (by rw [hexR_len]; simp only [List.length_cons, List.length_nil]; omega) ?_
    refine r_assign rfl rfl ?_
    refine r_nil ?_
    refine r_tn ?_
    refine r_region ?_
    refine r_move rfl rfl ?_
    refine r_quo (r := ((q / 16 : Nat) : Int)) rfl rfl rfl (by decide) (w64 (show -9223372036854775808 ≤ ((q / 16 : Nat) : Int) ∧ ((q / 16 : Nat) : Int) ≤ 9223372036854775807 by omega)) ?_
    refine r_assign rfl rfl ?_
    refine r_nil ?_
    refine r_bn ?_
    refine r_tn ?_
    refine r_region ?_
    refine r_move rfl rfl ?_
    refine r_add rfl rfl rfl (w64 (by omega)) ?_
    refine r_assign rfl rfl ?_
    refine r_nil ?_
    refine r_tn ?_
    exact r_againN (i + 1) (by omega) (by omega) ⟨congrArg (fun z : Nat => some (Value.int .i64 (z : Int))) (by rw [← hq, Nat.div_div_eq_div_mul, ← Nat.pow_succ]), rfl, rfl, by rw [hexR, hq]; rfl, rfl, trivial⟩ (fun w hw => hw.clear)
  · refine r_exit ?_
    refine r_te ?_
    refine r_te ?_
    refine r_be ?_
    refine r_tn ?_
    refine r_seq ?_
    refine r_region ?_
    have hi3 : i = k := by have h := of_decide_eq_false hc; omega
    subst hi3
    refine r_move rfl rfl ?_
    refine r_assign rfl rfl ?_
    refine r_nil ?_
    refine r_tn ?_
    refine r_ret ?_
    exact r_done1 (.inl rfl) rfl (res_tmp rfl) fun w hw => ⟨rfl, hw.clear⟩

theorem refStatus24 (k ca pc cy : Nat) (hk : k ≤ 3) (hca : k = 3 → 1 ≤ ca ∧ ca ≤ 4) (hpc : pc < 65536) (hcy : cy ≤ 4611686018427387904) (w : World) :
    Calls Tryd.prog 17 #[.agg #[.int .i64 (k : Int), .int .i64 (ca : Int), .int .i64 (pc : Int), .int .i64 (cy : Int)]] w fun e w' => e = .returned (.string (tx (statT k ca pc cy))) ∧ Sat w [] [] w' := by
  refine enter Tryd.func17 rfl rfl rfl ?_
  refine r_seq ?_
  refine r_region ?_
  refine r_boxV rfl rfl fun b1 => ?_
  refine r_assign rfl rfl ?_
  refine r_nil ?_
  refine r_tn ?_
  refine r_seq ?_
  refine r_mixedD { xb := [], rb := [b1], rs := [10], fs := [], acs := [6] } (by kernel_rfl) (by kernel_rfl) (fun w hw k hk => by
    simp only [List.mem_cons, List.not_mem_nil, or_false] at hk
    rcases hk with rfl <;> exact Sat.lt hw) ?_
  refine r_fieldAddr (off := 2) (o' := 2) rfl rfl rfl rfl ?_
  refine r_load1 rfl rfl rfl (by rfl) ?_
  refine r_call rfl rfl rfl (by kernel_rfl) rfl (fun w hw => by exact refHex24 pc 4 (by omega) (by omega) w) ?_
  refine r_addTx (l := [32, 97, 116, 32]) (m := hexR pc 4) rfl rfl rfl (by rw [hexR_len]; decide) ?_
  refine r_addTx (l := [32, 97, 116, 32] ++ hexR pc 4) (m := [32, 99, 121, 99, 108, 101, 32]) rfl rfl rfl (by rw [List.length_append, hexR_len]; decide) ?_
  refine r_fieldAddr (off := 3) (o' := 3) rfl rfl rfl rfl ?_
  refine r_load1 rfl rfl rfl (by rfl) ?_
  refine r_max (r := (cy : Int)) rfl rfl rfl (if_neg (by omega)) ?_
  refine r_call rfl rfl rfl (by kernel_rfl) rfl (fun w hw => by exact refDecimal24 cy (by omega) w) ?_
  refine r_addTx (l := ([32, 97, 116, 32] ++ hexR pc 4) ++ [32, 99, 121, 99, 108, 101, 32]) (m := Lib.decDigits cy) rfl rfl rfl (by have h := dec_len (show cy < 18446744073709551616 by omega); rw [List.length_append, List.length_append, hexR_len]; simp only [List.length_cons, List.length_nil]; omega) ?_
  rw [atT_def]
  refine r_assign rfl rfl ?_
  refine r_nil ?_
  refine r_tn ?_
  refine r_seq ?_
  refine r_seq ?_
  refine r_region ?_
  refine r_fieldAddr (off := 0) (o' := 0) rfl rfl rfl rfl ?_
  refine r_load1 rfl rfl rfl (by rfl) ?_
  refine r_nil ?_
  refine r_tn ?_
  refine r_block ?_
  refine r_seq ?_
  refine r_region ?_
  refine r_eql (p := decide (k = 0)) rfl rfl rfl (decide_eq_decide.2 ⟨fun _ => by omega, fun _ => by omega⟩) ?_
  refine r_assign rfl rfl ?_
  refine r_nil ?_
  refine r_tn ?_
  refine r_cond rfl (fun hc => ?_) (fun hc => ?_)
  · refine r_seq ?_
    refine r_region ?_
    refine r_assign rfl rfl ?_
    refine r_nil ?_
    refine r_tn ?_
    refine r_ret ?_
    refine r_br ?_
    refine r_tr ?_
    have h : k = 0 := of_decide_eq_true hc
    subst h
    exact r_done1 (.inl rfl) rfl (res_tmp rfl) fun w hw => ⟨by rw [stat_0]; rfl, hw.clear⟩
  · refine r_seq ?_
    refine r_region ?_
    have hk0 : ¬ k = 0 := of_decide_eq_false hc
    clear hc
    refine r_eql (p := decide (k = 1)) rfl rfl rfl (decide_eq_decide.2 ⟨fun _ => by omega, fun _ => by omega⟩) ?_
    refine r_assign rfl rfl ?_
    refine r_nil ?_
    refine r_tn ?_
    refine r_cond rfl (fun hc => ?_) (fun hc => ?_)
    · refine r_seq ?_
      refine r_region ?_
      refine r_assign rfl rfl ?_
      refine r_nil ?_
      refine r_tn ?_
      refine r_ret ?_
      refine r_br ?_
      refine r_tr ?_
      have h : k = 1 := of_decide_eq_true hc
      subst h
      exact r_done1 (.inl rfl) rfl (res_tmp rfl) fun w hw => ⟨by rw [stat_1]; rfl, hw.clear⟩
    · refine r_seq ?_
      refine r_region ?_
      have hk1 : ¬ k = 1 := of_decide_eq_false hc
      clear hc
      refine r_eql (p := decide (k = 2)) rfl rfl rfl (decide_eq_decide.2 ⟨fun _ => by omega, fun _ => by omega⟩) ?_
      refine r_assign rfl rfl ?_
      refine r_nil ?_
      refine r_tn ?_
      refine r_cond rfl (fun hc => ?_) (fun hc => ?_)
      · refine r_seq ?_
        refine r_region ?_
        refine r_move rfl rfl ?_
        refine r_addTx (l := [104, 97, 108, 116, 101, 100]) (m := atT pc cy) rfl rfl rfl (by have h := atT_len hcy (pc := pc); show 6 + _ ≤ _; omega) ?_
        refine r_assign rfl rfl ?_
        refine r_nil ?_
        refine r_tn ?_
        refine r_ret ?_
        refine r_br ?_
        refine r_tr ?_
        have h : k = 2 := of_decide_eq_true hc
        subst h
        exact r_done1 (.inl rfl) rfl (res_tmp rfl) fun w hw => ⟨by rw [stat_2], hw.clear⟩
      · refine r_skip ?_
        refine r_bn ?_
        refine r_tn ?_
        refine r_seq ?_
        refine r_seq ?_
        refine r_region ?_
        have hk2 : ¬ k = 2 := of_decide_eq_false hc
        clear hc
        have hk3 : k = 3 := by omega
        subst hk3
        obtain ⟨hca1, hca4⟩ := hca rfl
        refine r_fieldAddr (off := 1) (o' := 1) rfl rfl rfl rfl ?_
        refine r_load1 rfl rfl rfl (by rfl) ?_
        refine r_nil ?_
        refine r_tn ?_
        refine r_block ?_
        refine r_seq ?_
        refine r_region ?_
        refine r_eql (p := decide (ca = 1)) rfl rfl rfl (decide_eq_decide.2 ⟨fun _ => by omega, fun _ => by omega⟩) ?_
        refine r_assign rfl rfl ?_
        refine r_nil ?_
        refine r_tn ?_
        refine r_cond rfl (fun hc => ?_) (fun hc => ?_)
        · refine r_seq ?_
          refine r_region ?_
          refine r_move rfl rfl ?_
          refine r_addTx (l := [102, 97, 117, 108, 116, 101, 100, 32, 105, 108, 108, 101, 103, 97, 108]) (m := atT pc cy) rfl rfl rfl (by have h := atT_len hcy (pc := pc); show 15 + _ ≤ _; omega) ?_
          refine r_assign rfl rfl ?_
          refine r_nil ?_
          refine r_tn ?_
          refine r_ret ?_
          refine r_br ?_
          refine r_tr ?_
          have h : ca = 1 := of_decide_eq_true hc
          subst h
          exact r_done1 (.inl rfl) rfl (res_tmp rfl) fun w hw => ⟨by rw [stat_31], hw.clear⟩
        · refine r_seq ?_
          refine r_region ?_
          have hc1 : ¬ ca = 1 := of_decide_eq_false hc
          clear hc
          refine r_eql (p := decide (ca = 2)) rfl rfl rfl (decide_eq_decide.2 ⟨fun _ => by omega, fun _ => by omega⟩) ?_
          refine r_assign rfl rfl ?_
          refine r_nil ?_
          refine r_tn ?_
          refine r_cond rfl (fun hc => ?_) (fun hc => ?_)
          · refine r_seq ?_
            refine r_region ?_
            refine r_move rfl rfl ?_
            refine r_addTx (l := [102, 97, 117, 108, 116, 101, 100, 32, 111, 118, 101, 114, 102, 108, 111, 119]) (m := atT pc cy) rfl rfl rfl (by have h := atT_len hcy (pc := pc); show 16 + _ ≤ _; omega) ?_
            refine r_assign rfl rfl ?_
            refine r_nil ?_
            refine r_tn ?_
            refine r_ret ?_
            refine r_br ?_
            refine r_tr ?_
            have h : ca = 2 := of_decide_eq_true hc
            subst h
            exact r_done1 (.inl rfl) rfl (res_tmp rfl) fun w hw => ⟨by rw [stat_32], hw.clear⟩
          · refine r_seq ?_
            refine r_region ?_
            have hc2 : ¬ ca = 2 := of_decide_eq_false hc
            clear hc
            refine r_eql (p := decide (ca = 3)) rfl rfl rfl (decide_eq_decide.2 ⟨fun _ => by omega, fun _ => by omega⟩) ?_
            refine r_assign rfl rfl ?_
            refine r_nil ?_
            refine r_tn ?_
            refine r_cond rfl (fun hc => ?_) (fun hc => ?_)
            · refine r_seq ?_
              refine r_region ?_
              refine r_move rfl rfl ?_
              refine r_addTx (l := [102, 97, 117, 108, 116, 101, 100, 32, 114, 101, 116, 117, 114, 110]) (m := atT pc cy) rfl rfl rfl (by have h := atT_len hcy (pc := pc); show 14 + _ ≤ _; omega) ?_
              refine r_assign rfl rfl ?_
              refine r_nil ?_
              refine r_tn ?_
              refine r_ret ?_
              refine r_br ?_
              refine r_tr ?_
              have h : ca = 3 := of_decide_eq_true hc
              subst h
              exact r_done1 (.inl rfl) rfl (res_tmp rfl) fun w hw => ⟨by rw [stat_33], hw.clear⟩
            · refine r_skip ?_
              refine r_bn ?_
              refine r_tn ?_
              refine r_seq ?_
              refine r_region ?_
              have hc3 : ¬ ca = 3 := of_decide_eq_false hc
              clear hc
              have hc4 : ca = 4 := by omega
              refine r_move rfl rfl ?_
              refine r_addTx (l := [102, 97, 117, 108, 116, 101, 100, 32, 114, 97, 110, 103, 101]) (m := atT pc cy) rfl rfl rfl (by have h := atT_len hcy (pc := pc); show 13 + _ ≤ _; omega) ?_
              refine r_assign rfl rfl ?_
              refine r_nil ?_
              refine r_tn ?_
              refine r_ret ?_
              subst hc4
              exact r_done1 (.inl rfl) rfl (res_tmp rfl) fun w hw => ⟨by rw [stat_34], hw.clear⟩

theorem refStatG24 (r : Rec) (hst : statusB r.kind r.cause r.pc r.cycle = true) (w : World) : Calls Tryd.prog 17 #[.agg #[.int .i64 r.kind, .int .i64 r.cause, .int .i64 r.pc, .int .i64 r.cycle]] w fun e w' => e = .returned (.string (tx (statR r))) ∧ Sat w [] [] w' := by
  unfold statusB at hst
  split at hst
  · cases hst
  · rename_i h1
    split at hst
    · cases hst
    · rename_i h2
      obtain ⟨k, hk⟩ : ∃ k : Nat, r.kind = k := ⟨r.kind.toNat, by omega⟩
      obtain ⟨pc, hpc⟩ : ∃ k : Nat, r.pc = k := ⟨r.pc.toNat, by omega⟩
      obtain ⟨cy, hcy⟩ : ∃ k : Nat, r.cycle = k := ⟨r.cycle.toNat, by omega⟩
      split at hst
      · rename_i h3
        have h4 := of_decide_eq_true hst
        obtain ⟨ca, hca⟩ : ∃ k : Nat, r.cause = k := ⟨r.cause.toNat, by omega⟩
        unfold statR
        rw [hk, hpc, hca, hcy]
        exact refStatus24 k ca pc cy (by omega) (fun _ => by omega) (by omega) (by omega) w
      · rename_i h3
        have h4 := of_decide_eq_true hst
        unfold statR
        rw [hk, hpc, h4, hcy]
        exact refStatus24 k 0 pc cy (by omega) (fun h => by omega) (by omega) (by omega) w
attribute [local irreducible] waveB statR lineB


theorem refRecord24 (r : Rec) (i : RefIx) (hp : r.pat.length = 16) (hb : ∀ z ∈ r.pat, 0 ≤ z ∧ z ≤ 255) (hpi : 0 ≤ r.pitch ∧ r.pitch ≤ 255) (hst : statusB r.kind r.cause r.pc r.cycle = true) (w : World) (h : RefIs w r i) :
    Calls Tryd.prog 20 #[.agg (refV r i)] w fun e w' => ∃ j : Option Addr × Nat, e = .returned (.slice j.1 (ht r.hires + 4) j.2) ∧ True ∧ Sat w [] [.own 9 1 (.slice j.1 (ht r.hires + 4) j.2) (ht r.hires + 4) (recRow r)] w' := by
  cases hsd : r.sound
  · refine enter Tryd.func20 rfl rfl rfl ?_
    refine r_seq ?_
    refine r_region ?_
    refine r_boxV rfl rfl fun b1 => ?_
    refine r_assign rfl rfl ?_
    refine r_nil ?_
    refine r_tn ?_
    refine r_seq ?_
    refine r_region ?_
    refine r_fieldAddr (off := 0) (o' := 0) rfl rfl rfl rfl ?_
    refine r_load1 rfl rfl rfl (by rfl) ?_
    refine r_fieldAddr (off := 1) (o' := 1) rfl rfl rfl rfl ?_
    refine r_load1 (v := .bool r.hires) rfl rfl rfl rfl ?_
    refine r_callx rfl rfl rfl (by kernel_rfl) rfl (fun w hw => by exact refLines24 r.P r.hires i.a i.c i.f w (h.keep hw).1 (h.keep hw).2.2) ?_
    rintro ⟨A8, c8⟩ _
    refine r_assign rfl rfl ?_
    refine r_nil ?_
    refine r_tn ?_
    refine r_seq ?_
    refine r_seq ?_
    refine r_region ?_
    refine r_fieldAddr (off := 2) (o' := 2) rfl rfl rfl rfl ?_
    refine r_load1 (v := .bool false) rfl rfl rfl (by rw [← hsd]; rfl) ?_
    refine r_nil ?_
    refine r_tn ?_
    refine r_cond_f rfl ?_
    refine r_region ?_
    refine r_move rfl rfl ?_
    have hht : ht r.hires ≤ 64 := by cases r.hires <;> decide
    refine r_lit (sz := 1) (pv := [(0, txV [115, 111, 117, 110, 100, 32, 111, 102, 102])]) (cells := #[txV [115, 111, 117, 110, 100, 32, 111, 102, 102]]) rfl rfl rfl rfl rfl rfl (by kernel_rfl) rfl (fun b15 => ?_) (by decide)
    refine r_append (k := 1) (news := [txV [115, 111, 117, 110, 100, 32, 111, 102, 102]]) (sz := 1) (bytes := 16) rfl rfl rfl rfl rfl rfl (by decide) (fun w hw => own_rd (A := some ⟨b15, 0, none⟩) (m := 1) (c := 1) hw) (by first | (simp; done) | (simp; omega)) (fun u hu => by simp at hu; first | (obtain ⟨x, _, rfl⟩ := hu; rfl) | (subst hu; rfl)) (by omega) (by unfold maxLen; omega) fun A16 c16 => ?_
    refine r_assign rfl rfl ?_
    refine r_nil ?_
    refine r_tn ?_
    refine r_seq ?_
    refine r_mixedD { xb := [], rb := [b1], rs := [24, 27], fs := [], acs := [21, 25] } (by kernel_rfl) (by kernel_rfl) (fun w hw k hk => by
      simp only [List.mem_cons, List.not_mem_nil, or_false] at hk
      rcases hk with rfl <;> exact Sat.lt hw) ?_
    refine r_move rfl rfl ?_
    refine r_fieldAddr (off := 4) (o' := 4) rfl rfl rfl rfl ?_
    refine r_load1 (v := .int .u8 r.pitch) rfl rfl rfl rfl ?_
    obtain ⟨pi, hpn⟩ : ∃ pi : Nat, r.pitch = pi := ⟨r.pitch.toNat, by omega⟩
    refine r_convert (r := (pi : Int)) rfl rfl rfl rfl ((w64 (by omega)).trans hpn) ?_
    refine r_call rfl rfl rfl (by kernel_rfl) rfl (fun w hw => by exact refDecimal24 pi (by omega) w) ?_
    refine r_addTx (l := [112, 105, 116, 99, 104, 32]) (m := Lib.decDigits pi) rfl rfl rfl (by have h := dec_len (show pi < 18446744073709551616 by omega); simp only [List.length_cons, List.length_nil]; omega) ?_
    refine r_fieldAddr (off := 3) (o' := 3) rfl rfl rfl rfl ?_
    refine r_load1 (v := .slice (some ⟨i.b, 0, none⟩) 16 i.d) rfl rfl rfl rfl ?_
    refine r_call rfl rfl rfl (by kernel_rfl) rfl (fun w hw => by exact refWave24 r.pat (some ⟨i.b, 0, none⟩) i.d hp hb w (h.keep hw).2.1) ?_
    refine r_fieldAddr (off := 5) (o' := 5) rfl rfl rfl rfl ?_
    refine r_loadN (m := 4) (vs := #[.int .i64 r.kind, .int .i64 r.cause, .int .i64 r.pc, .int .i64 r.cycle]) rfl rfl rfl rfl (by show 5 + 4 ≤ 9; decide) rfl ?_
    refine r_call rfl rfl rfl (by kernel_rfl) rfl (fun w hw => by exact refStatG24 r hst w) ?_
    refine r_lit (sz := 1) (pv := [(0, txV ([112, 105, 116, 99, 104, 32] ++ Lib.decDigits pi)), (1, txV (waveB r.pat)), (2, txV (statR r))]) (cells := #[txV ([112, 105, 116, 99, 104, 32] ++ Lib.decDigits pi), txV (waveB r.pat), txV (statR r)]) rfl rfl rfl rfl rfl rfl (by kernel_rfl) rfl (fun b29 => ?_) (by decide)
    refine r_append (k := 3) (news := [txV ([112, 105, 116, 99, 104, 32] ++ Lib.decDigits pi), txV (waveB r.pat), txV (statR r)]) (sz := 1) (bytes := 16) rfl rfl rfl rfl rfl rfl (by decide) (fun w hw => own_rd (A := some ⟨b29, 0, none⟩) (m := 3) (c := 3) hw) rfl (words3 _ _ _) (by omega) (by unfold maxLen; omega) fun A30 c30 => ?_
    refine r_assign rfl rfl ?_
    refine r_nil ?_
    refine r_tn ?_
    refine r_ret ?_
    exact r_done1 (.inl rfl) rfl (res_tmp rfl) fun w hw => ⟨(A30, c30), rfl, trivial, by rw [recRow_false hsd, hpn, itoa_nat]; have h2 : Sat _ _ [.own 9 1 (.slice A30 (ht r.hires + 1 + 3) c30) (ht r.hires + 1 + 3) (((List.range (ht r.hires)).map fun y => .string (tx (lineB r.P r.hires y))) ++ [txV [115, 111, 117, 110, 100, 32, 111, 102, 102]] ++ [txV ([112, 105, 116, 99, 104, 32] ++ Lib.decDigits pi), txV (waveB r.pat), txV (statR r)])] w := hw.sub; rw [List.append_assoc] at h2; exact h2⟩
  · refine enter Tryd.func20 rfl rfl rfl ?_
    refine r_seq ?_
    refine r_region ?_
    refine r_boxV rfl rfl fun b1 => ?_
    refine r_assign rfl rfl ?_
    refine r_nil ?_
    refine r_tn ?_
    refine r_seq ?_
    refine r_region ?_
    refine r_fieldAddr (off := 0) (o' := 0) rfl rfl rfl rfl ?_
    refine r_load1 rfl rfl rfl (by rfl) ?_
    refine r_fieldAddr (off := 1) (o' := 1) rfl rfl rfl rfl ?_
    refine r_load1 (v := .bool r.hires) rfl rfl rfl rfl ?_
    refine r_callx rfl rfl rfl (by kernel_rfl) rfl (fun w hw => by exact refLines24 r.P r.hires i.a i.c i.f w (h.keep hw).1 (h.keep hw).2.2) ?_
    rintro ⟨A8, c8⟩ _
    refine r_assign rfl rfl ?_
    refine r_nil ?_
    refine r_tn ?_
    refine r_seq ?_
    refine r_seq ?_
    refine r_region ?_
    refine r_fieldAddr (off := 2) (o' := 2) rfl rfl rfl rfl ?_
    refine r_load1 (v := .bool true) rfl rfl rfl (by rw [← hsd]; rfl) ?_
    refine r_nil ?_
    refine r_tn ?_
    refine r_cond_t rfl ?_
    refine r_region ?_
    refine r_move rfl rfl ?_
    have hht : ht r.hires ≤ 64 := by cases r.hires <;> decide
    refine r_lit (sz := 1) (pv := [(0, txV [115, 111, 117, 110, 100, 32, 111, 110])]) (cells := #[txV [115, 111, 117, 110, 100, 32, 111, 110]]) rfl rfl rfl rfl rfl rfl (by kernel_rfl) rfl (fun b12 => ?_) (by decide)
    refine r_append (k := 1) (news := [txV [115, 111, 117, 110, 100, 32, 111, 110]]) (sz := 1) (bytes := 16) rfl rfl rfl rfl rfl rfl (by decide) (fun w hw => own_rd (A := some ⟨b12, 0, none⟩) (m := 1) (c := 1) hw) (by first | (simp; done) | (simp; omega)) (fun u hu => by simp at hu; first | (obtain ⟨x, _, rfl⟩ := hu; rfl) | (subst hu; rfl)) (by omega) (by unfold maxLen; omega) fun A13 c13 => ?_
    refine r_assign rfl rfl ?_
    refine r_nil ?_
    refine r_tn ?_
    refine r_seq ?_
    refine r_mixedD { xb := [], rb := [b1], rs := [24, 27], fs := [], acs := [21, 25] } (by kernel_rfl) (by kernel_rfl) (fun w hw k hk => by
      simp only [List.mem_cons, List.not_mem_nil, or_false] at hk
      rcases hk with rfl <;> exact Sat.lt hw) ?_
    refine r_move rfl rfl ?_
    refine r_fieldAddr (off := 4) (o' := 4) rfl rfl rfl rfl ?_
    refine r_load1 (v := .int .u8 r.pitch) rfl rfl rfl rfl ?_
    obtain ⟨pi, hpn⟩ : ∃ pi : Nat, r.pitch = pi := ⟨r.pitch.toNat, by omega⟩
    refine r_convert (r := (pi : Int)) rfl rfl rfl rfl ((w64 (by omega)).trans hpn) ?_
    refine r_call rfl rfl rfl (by kernel_rfl) rfl (fun w hw => by exact refDecimal24 pi (by omega) w) ?_
    refine r_addTx (l := [112, 105, 116, 99, 104, 32]) (m := Lib.decDigits pi) rfl rfl rfl (by have h := dec_len (show pi < 18446744073709551616 by omega); simp only [List.length_cons, List.length_nil]; omega) ?_
    refine r_fieldAddr (off := 3) (o' := 3) rfl rfl rfl rfl ?_
    refine r_load1 (v := .slice (some ⟨i.b, 0, none⟩) 16 i.d) rfl rfl rfl rfl ?_
    refine r_call rfl rfl rfl (by kernel_rfl) rfl (fun w hw => by exact refWave24 r.pat (some ⟨i.b, 0, none⟩) i.d hp hb w (h.keep hw).2.1) ?_
    refine r_fieldAddr (off := 5) (o' := 5) rfl rfl rfl rfl ?_
    refine r_loadN (m := 4) (vs := #[.int .i64 r.kind, .int .i64 r.cause, .int .i64 r.pc, .int .i64 r.cycle]) rfl rfl rfl rfl (by show 5 + 4 ≤ 9; decide) rfl ?_
    refine r_call rfl rfl rfl (by kernel_rfl) rfl (fun w hw => by exact refStatG24 r hst w) ?_
    refine r_lit (sz := 1) (pv := [(0, txV ([112, 105, 116, 99, 104, 32] ++ Lib.decDigits pi)), (1, txV (waveB r.pat)), (2, txV (statR r))]) (cells := #[txV ([112, 105, 116, 99, 104, 32] ++ Lib.decDigits pi), txV (waveB r.pat), txV (statR r)]) rfl rfl rfl rfl rfl rfl (by kernel_rfl) rfl (fun b29 => ?_) (by decide)
    refine r_append (k := 3) (news := [txV ([112, 105, 116, 99, 104, 32] ++ Lib.decDigits pi), txV (waveB r.pat), txV (statR r)]) (sz := 1) (bytes := 16) rfl rfl rfl rfl rfl rfl (by decide) (fun w hw => own_rd (A := some ⟨b29, 0, none⟩) (m := 3) (c := 3) hw) rfl (words3 _ _ _) (by omega) (by unfold maxLen; omega) fun A30 c30 => ?_
    refine r_assign rfl rfl ?_
    refine r_nil ?_
    refine r_tn ?_
    refine r_ret ?_
    exact r_done1 (.inl rfl) rfl (res_tmp rfl) fun w hw => ⟨(A30, c30), rfl, trivial, by rw [recRow_true hsd, hpn, itoa_nat]; have h2 : Sat _ _ [.own 9 1 (.slice A30 (ht r.hires + 1 + 3) c30) (ht r.hires + 1 + 3) (((List.range (ht r.hires)).map fun y => .string (tx (lineB r.P r.hires y))) ++ [txV [115, 111, 117, 110, 100, 32, 111, 110]] ++ [txV ([112, 105, 116, 99, 104, 32] ++ Lib.decDigits pi), txV (waveB r.pat), txV (statR r)])] w := hw.sub; rw [List.append_assoc] at h2; exact h2⟩
end Go.Proofs.YtdkgnnieehidbaaDoor
