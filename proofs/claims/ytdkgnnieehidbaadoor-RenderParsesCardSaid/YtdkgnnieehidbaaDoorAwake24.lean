/-
  Rendering (chapter 24): Lines and Parse are inverse; awake.
-/
import Derived.Test.YtdkgnnieehidbaaDoorFwd24
namespace Go.Proofs.YtdkgnnieehidbaaDoor
open Go Go.RowKit
set_option linter.unusedVariables false
set_option linter.unusedSimpArgs false
set_option maxHeartbeats 2000000
set_option maxRecDepth 4000
attribute [local irreducible] mix

theorem pixQ_nat (P : Nat → Nat → Bool) {x y : Nat} (hx : x < 128) (hy : y < 64) : pixQ P (x : Int) (y : Int) = P y x := by
  unfold pixQ getB
  rw [decide_eq_true (show (0 : Int) ≤ (y : Int) by omega), decide_eq_true (show (y : Int) < 64 by omega), decide_eq_true (show (0 : Int) ≤ (x : Int) by omega), decide_eq_true (show (x : Int) < 128 by omega)]
  rfl
theorem colN_bit (P : Nat → Nat → Nat → Bool) {x y i : Nat} (hx : x < 128) (hy : y < 64) (hi : i < 4) : (colN P x y).testBit i = P i y x := by
  unfold colN
  rw [num_bit, decide_eq_true hi, Bool.true_and]
  exact pixQ_nat (P i) hx hy
theorem colN_lt (P : Nat → Nat → Nat → Bool) (x y : Nat) : colN P x y < 16 := num_lt _ 4
theorem valB_ch : ∀ n, n < 16 → valB (UInt8.ofNat (chN n)) = (n : Int) := by decide
/-- the lines of a screen -/
def linesL (P : Nat → Nat → Nat → Bool) (hires : Bool) : List (List UInt8) := (List.range (ht hires)).map (lineB P hires)
theorem linesL_len (P : Nat → Nat → Nat → Bool) (hires : Bool) : (linesL P hires).length = ht hires := by simp [linesL]
theorem linesL_at (P : Nat → Nat → Nat → Bool) (hires : Bool) {y : Nat} (h : y < (linesL P hires).length) : (linesL P hires)[y] = lineB P hires y := by simp [linesL]
theorem linesL_hi (P : Nat → Nat → Nat → Bool) (hires : Bool) : hiL (linesL P hires) = hires := by
  unfold hiL
  rw [linesL_len]
  cases hires <;> rfl
theorem lineB_at (P : Nat → Nat → Nat → Bool) (hires : Bool) (y : Nat) {x : Nat} (h : x < (lineB P hires y).length) : (lineB P hires y)[x] = UInt8.ofNat (chN (colN P x y)) := by simp [lineB]
theorem lines_ok (P : Nat → Nat → Nat → Bool) (hires : Bool) : parseOK (linesL P hires) = true := by
  refine parse_yes (by rw [linesL_hi, linesL_len]) fun j hj => ?_
  rw [linesL_hi, linesL_at]
  refine okLine_yes (lineB_len _ _ _) fun x hx => ?_
  rw [lineB_at, valB_ch _ (colN_lt P x j)]
  omega
/-- all pixels lie within the resolution -/
def inP (hires : Bool) (P : Nat → Nat → Nat → Bool) : Prop := ∀ k, k < 4 → ∀ y x, y < 64 → x < 128 → P k y x = true → x < wd hires ∧ y < ht hires
theorem lines_back {P : Nat → Nat → Nat → Bool} {hires : Bool} (h : inP hires P) : planesV (linesP (linesL P hires)) = planesV P := by
  refine planesV_congr fun i hi y hy x hx => ?_
  have hwd : wd hires ≤ 128 := by cases hires <;> decide
  show bq (linesL P hires) i y x = P i y x
  by_cases h1 : y < ht hires
  · by_cases h2 : x < wd hires
    · have hy2 : y < (linesL P hires).length := by rw [linesL_len]; exact h1
      rw [bq_at (n := colN P x y) hy2 (by rw [linesL_at, lineB_len]; exact h2) (by rw [linesL_hi]; exact h2) (by simp only [linesL_at, lineB_at]; exact valB_ch _ (colN_lt P x y)) i]
      exact colN_bit P hx hy hi
    · unfold bq
      rw [linesL_hi, decide_eq_false h2, Bool.false_and, Bool.and_false]
      cases hp : P i y x with
      | false => rfl
      | true => exact absurd (h i hi y x hy hx hp).1 h2
  · unfold bq
    rw [linesL_len, decide_eq_false h1, Bool.false_and]
    cases hp : P i y x with
    | false => rfl
    | true => exact absurd (h i hi y x hy hx hp).2 h1
theorem lrow_map (P : Nat → Nat → Nat → Bool) (hires : Bool) : ((List.range (ht hires)).map fun y => Value.string (tx (lineB P hires y))) = (linesL P hires).map txV := by
  unfold linesL
  rw [List.map_map]
  rfl
theorem parseLines24 (P : Nat → Nat → Nat → Bool) (hires : Bool) (hin : inP hires P) (A : Option Addr) (c : Nat) (w : World) (hR : Rd w A ((List.range (ht hires)).map fun y => Value.string (tx (lineB P hires y)))) : Calls Tryd.prog 21 #[.slice A (ht hires) c] w fun e w' => e = .returned (.tuple #[.agg (planesV P), .bool hires, .int .i64 0]) ∧ Sat w [] [] w' := by
  rw [lrow_map] at hR
  have h := parse24 A c (linesL P hires) (by rw [linesL_len]; cases hires <;> decide) w hR
  rw [parseV_yes (lines_ok P hires), lines_back hin, linesL_hi, linesL_len] at h
  exact h
theorem parseShort24 (P : Nat → Nat → Nat → Bool) (A : Option Addr) (c : Nat) (w : World) (hR : Rd w A ((List.range (ht false)).map fun y => Value.string (tx (lineB P false y)))) : Calls Tryd.prog 21 #[.slice A 31 c] w fun e w' => e = .returned (.tuple #[.agg (planesV fun _ => noneQ), .bool false, .int .i64 6]) ∧ Sat w [] [] w' := by
  rw [lrow_map] at hR
  have hl : ((linesL P false).take 31).length = 31 := by rw [List.length_take, linesL_len]; rfl
  have h := parse24 A c ((linesL P false).take 31) (by rw [hl]; decide) w (by rw [List.map_take]; exact hR.take 31)
  have hh : hiL ((linesL P false).take 31) = false := by unfold hiL; rw [hl]; rfl
  rw [parseV_no (parse_len (by rw [hl, hh]; decide)), hl] at h
  exact h
def p46Ls : List LeafK := List.replicate 512 (.i .u64)
theorem p46Flat : flatT Tryd.prog 46 p46Ls := ⟨by kernel_rfl, by kernel_rfl, by kernel_rfl⟩
theorem p46_ok (P : Nat → Nat → Nat → Bool) : cellsOk p46Ls (planesV P).toList = true := by
  have h : ∀ (P : Nat → Nat → Nat → Bool) (l : List Nat), cellsOk (List.replicate l.length (.i .u64)) (l.map fun j => Value.int .u64 ((cellP (P (j / 128)) (j % 128) : Nat) : Int)) = true := by
    intro P l
    induction l with
    | nil => rfl
    | cons j l ih => rw [List.length_cons, List.replicate_succ, List.map_cons]; simp only [cellsOk, ih, Bool.and_true]; rfl
  have h1 := h P (List.range 512)
  rw [List.length_range] at h1
  exact h1
theorem p46_self (P : Nat → Nat → Nat → Bool) : cellsEq (planesV P).toList (planesV P).toList = true := cellsEq_self (p46_ok P)
def aP1 (i y x : Nat) : Bool := decide (y = 0) && (decide (i = 0) && decide (x = 0))
def aP (i y x : Nat) : Bool := decide (y = 0) && ((decide (i = 0) && decide (x = 0)) || (decide (i = 3) && decide (x < 2)))
theorem aP_set1 : splice (planesV fun _ => noneQ) 0 #[.int .u64 9223372036854775808] = planesV aP1 := by kernel_rfl
theorem aP_set2 : splice (planesV aP1) 384 #[.int .u64 13835058055282163712] = planesV aP := by kernel_rfl
theorem aP_in : inP false aP := by
  intro k _ y x _ _ h
  have hx : ∀ b : Bool, wd b ≥ 64 := by decide
  unfold aP at h
  simp only [Bool.and_eq_true, Bool.or_eq_true, decide_eq_true_eq] at h
  show x < 64 ∧ y < 32
  omega
theorem aP_line0 : (lineB aP false 0).take 3 = [57, 56, 46] := by decide +kernel
theorem aP_line1 : (lineB aP false 1).take 2 = [46, 46] := by decide +kernel
def awPat : List Int := 128 :: List.replicate 15 0
theorem awPat_wave : (waveB awPat).take 2 = [35, 46] := by decide +kernel
theorem itoa7 : Lib.itoa 7 = [55] := by
  unfold Lib.itoa
  rw [if_neg (by decide)]
  unfold Lib.decDigits
  rw [dif_pos (by decide)]
  rfl
theorem statT_aw : statT 3 4 514 7 = [102, 97, 117, 108, 116, 101, 100, 32, 114, 97, 110, 103, 101, 32, 97, 116, 32, 48, 50, 48, 50, 32, 99, 121, 99, 108, 101, 32, 55] := by
  unfold statT partsS
  rw [itoa7]
  rfl
theorem build0 : buildOf Tryd.prog 55 [] = some (recV rec0) := by kernel_rfl
attribute [local irreducible] planesV recV lineB waveB statT linesL aP aP1


theorem awake24  (w : World) (hG : Globs w) :
    Calls Tryd.prog 7 #[] w fun e w' => e = .returned (.bool true) ∧ Sat w [] [] w' := by
  refine enter Tryd.func7 rfl rfl rfl ?_
  refine r_seq ?_
  refine r_region ?_
  refine r_assign rfl rfl ?_
  refine r_nil ?_
  refine r_tn ?_
  refine r_seq ?_
  refine r_region ?_
  refine r_allocV (cs := planesV (fun _ => noneQ)) zero46 rfl fun b1 => ?_
  refine r_nil ?_
  refine r_tn ?_
  refine r_seq ?_
  refine r_region ?_
  refine r_indexArr (sz := 128) (o' := 0) rfl rfl rfl rfl rfl (by omega) (by omega) (by omega) ?_
  refine r_fieldAddr (off := 0) rfl rfl rfl rfl ?_
  refine r_indexArr (sz := 2) (o' := 0) rfl rfl rfl rfl rfl (by omega) (by omega) (by omega) ?_
  refine r_fieldAddr (off := 0) rfl rfl rfl rfl ?_
  refine r_store (m := 1) (cs' := planesV aP1) rfl rfl rfl rfl (by rw [planesV_size]; decide) rfl aP_set1 ?_
  refine r_nil ?_
  refine r_tn ?_
  refine r_seq ?_
  refine r_region ?_
  refine r_indexArr (sz := 128) (o' := 384) rfl rfl rfl rfl rfl (by omega) (by omega) (by omega) ?_
  refine r_fieldAddr (off := 0) rfl rfl rfl rfl ?_
  refine r_indexArr (sz := 2) (o' := 384) rfl rfl rfl rfl rfl (by omega) (by omega) (by omega) ?_
  refine r_fieldAddr (off := 0) rfl rfl rfl rfl ?_
  refine r_store (m := 1) (cs' := planesV aP) rfl rfl rfl rfl (by rw [planesV_size]; decide) rfl aP_set2 ?_
  refine r_nil ?_
  refine r_tn ?_
  refine r_seq ?_
  refine r_region ?_
  refine r_loadV rfl rfl rfl rfl (planesV_size _) ?_
  refine r_callx rfl rfl rfl (by kernel_rfl) rfl (fun w hw => by exact lines24 aP false w) ?_
  rintro b19 _
  refine r_assign rfl rfl ?_
  refine r_nil ?_
  refine r_tn ?_
  refine r_seq ?_
  refine r_seq ?_
  refine r_region ?_
  refine r_move rfl rfl ?_
  refine r_len rfl rfl rfl ?_
  refine r_neq (p := false) rfl rfl rfl (rfl) ?_
  refine r_move rfl rfl ?_
  refine r_go rfl rfl ?_
  refine r_move rfl rfl ?_
  refine r_go rfl rfl ?_
  refine r_indexSl (sz := 1) (o' := 0 + 0) rfl rfl rfl rfl rfl (by decide) (by decide) (by rfl) ?_
  refine r_go rfl rfl ?_
  refine r_loadC (p := ⟨b19, 0 + 0, none⟩) (v := txV (lineB aP false 0)) rfl rfl rfl (fun w hw => (own_rd (A := some ⟨b19, 0, none⟩) (m := ht false) (c := ht false) hw).cell (u := txV (lineB aP false 0)) rfl rfl) ?_
  refine r_go rfl rfl ?_
  refine r_lenStr rfl rfl rfl ?_
  refine r_go rfl rfl ?_
  refine r_neq (p := false) rfl rfl rfl (by rw [tx_size, lineB_len]; rfl) ?_
  refine r_pick_f rfl rfl rfl ?_
  refine r_nil ?_
  refine r_tn ?_
  refine r_cond_f rfl ?_
  refine r_skip ?_
  refine r_tn ?_
  refine r_seq ?_
  refine r_region ?_
  refine r_move rfl rfl ?_
  refine r_call rfl rfl rfl (by kernel_rfl) rfl (fun w hw => by exact parseLines24 aP false aP_in (some ⟨b19, 0, none⟩) 32 w (own_rd (A := some ⟨b19, 0, none⟩) (m := ht false) (c := ht false) hw)) ?_
  refine r_move rfl rfl ?_
  refine r_extract rfl rfl rfl ?_
  refine r_extract rfl rfl rfl ?_
  refine r_extract rfl rfl rfl ?_
  refine r_allocV (cs := planesV (fun _ => noneQ)) zero46 rfl fun b3 => ?_
  refine r_storeV rfl rfl rfl (planesV_size _) (planesV_size _) (planesV_one _) ?_
  refine r_assign rfl rfl ?_
  refine r_assign rfl rfl ?_
  refine r_nil ?_
  refine r_tn ?_
  refine r_seq ?_
  refine r_region ?_
  refine r_move rfl rfl ?_
  refine r_sliceHi (h' := 31) rfl rfl rfl rfl rfl rfl (by decide) ?_
  refine r_call rfl rfl rfl (by kernel_rfl) rfl (fun w hw => by exact parseShort24 aP (some ⟨b19, 0, none⟩) 32 w (own_rd (A := some ⟨b19, 0, none⟩) (m := ht false) (c := ht false) hw)) ?_
  refine r_move rfl rfl ?_
  refine r_extract rfl rfl rfl ?_
  refine r_extract rfl rfl rfl ?_
  refine r_extract rfl rfl rfl ?_
  refine r_allocV (cs := planesV (fun _ => noneQ)) zero46 rfl fun b6 => ?_
  refine r_storeV rfl rfl rfl (planesV_size _) (planesV_size _) (planesV_one _) ?_
  refine r_assign rfl rfl ?_
  refine r_assign rfl rfl ?_
  refine r_nil ?_
  refine r_tn ?_
  refine r_seq ?_
  refine r_region ?_
  refine r_build (cells := (awPat.map (Value.int .u8)).toArray) rfl rfl (by kernel_rfl) ?_
  refine r_call rfl rfl rfl (by kernel_rfl) rfl (fun w hw => by exact wave24 awPat rfl (by decide) w) ?_
  refine r_assign rfl rfl ?_
  refine r_nil ?_
  refine r_tn ?_
  refine r_seq ?_
  refine r_region ?_
  refine r_move rfl rfl ?_
  refine r_indexSl (sz := 1) (o' := 0 + 0) rfl rfl rfl rfl rfl (by decide) (by decide) (by rfl) ?_
  refine r_loadC (p := ⟨b19, 0 + 0, none⟩) (v := txV (lineB aP false 0)) rfl rfl rfl (fun w hw => (own_rd (A := some ⟨b19, 0, none⟩) (m := ht false) (c := ht false) hw).cell (u := txV (lineB aP false 0)) rfl rfl) ?_
  refine r_partHi (h' := 3) rfl rfl rfl rfl rfl (by rw [tx_size, lineB_len]; decide) ?_
  refine r_eql_string (p := true) rfl rfl rfl (by rw [tx_extract, List.drop_zero, aP_line0, show ByteArray.mk #[57, 56, 46] = tx [57, 56, 46] from rfl]; rw [beq_self_eq_true]) ?_
  refine r_move rfl rfl ?_
  refine r_go rfl rfl ?_
  refine r_move rfl rfl ?_
  refine r_go rfl rfl ?_
  refine r_indexSl (sz := 1) (o' := 0 + 1) rfl rfl rfl rfl rfl (by decide) (by decide) (by rfl) ?_
  refine r_go rfl rfl ?_
  refine r_loadC (p := ⟨b19, 0 + 1, none⟩) (v := txV (lineB aP false 1)) rfl rfl rfl (fun w hw => (own_rd (A := some ⟨b19, 0, none⟩) (m := ht false) (c := ht false) hw).cell (u := txV (lineB aP false 1)) rfl rfl) ?_
  refine r_go rfl rfl ?_
  refine r_partHi (h' := 2) rfl rfl rfl rfl rfl (by rw [tx_size, lineB_len]; decide) ?_
  refine r_go rfl rfl ?_
  refine r_eql_string (p := true) rfl rfl rfl (by rw [tx_extract, List.drop_zero, aP_line1, show ByteArray.mk #[46, 46] = tx [46, 46] from rfl]; rw [beq_self_eq_true]) ?_
  refine r_pick_t rfl rfl rfl ?_
  refine r_move rfl rfl ?_
  refine r_go rfl rfl ?_
  refine r_loadV rfl rfl rfl rfl (planesV_size _) ?_
  refine r_go rfl rfl ?_
  refine r_loadV rfl rfl rfl rfl (planesV_size _) ?_
  refine r_go rfl rfl ?_
  refine r_eqlAgg (p := true) rfl rfl rfl p46Flat (p46_ok _) (p46_ok _) (p46_self _) ?_
  refine r_pick_t rfl rfl rfl ?_
  refine r_move rfl rfl ?_
  refine r_go rfl rfl ?_
  refine r_move rfl rfl ?_
  refine r_go rfl rfl ?_
  refine r_not (r := true) rfl rfl rfl ?_
  refine r_pick_t rfl rfl rfl ?_
  refine r_move rfl rfl ?_
  refine r_go rfl rfl ?_
  refine r_move rfl rfl ?_
  refine r_go rfl rfl ?_
  refine r_eql (p := true) rfl rfl rfl (rfl) ?_
  refine r_pick_t rfl rfl rfl ?_
  refine r_move rfl rfl ?_
  refine r_go rfl rfl ?_
  refine r_move rfl rfl ?_
  refine r_go rfl rfl ?_
  refine r_eql (p := true) rfl rfl rfl (rfl) ?_
  refine r_pick_t rfl rfl rfl ?_
  refine r_move rfl rfl ?_
  refine r_go rfl rfl ?_
  refine r_move rfl rfl ?_
  refine r_go rfl rfl ?_
  refine r_lenStr rfl rfl rfl ?_
  refine r_go rfl rfl ?_
  refine r_eql (p := true) rfl rfl rfl (by rw [tx_size, waveB_len]; rfl) ?_
  refine r_pick_t rfl rfl rfl ?_
  refine r_move rfl rfl ?_
  refine r_go rfl rfl ?_
  refine r_move rfl rfl ?_
  refine r_go rfl rfl ?_
  refine r_partHi (h' := 2) rfl rfl rfl rfl rfl (by rw [tx_size, waveB_len]; decide) ?_
  refine r_go rfl rfl ?_
  refine r_eql_string (p := true) rfl rfl rfl (by rw [tx_extract, List.drop_zero, awPat_wave, show ByteArray.mk #[35, 46] = tx [35, 46] from rfl]; rw [beq_self_eq_true]) ?_
  refine r_pick_t rfl rfl rfl ?_
  refine r_move rfl rfl ?_
  refine r_go rfl rfl ?_
  refine r_build (cells := #[.int .i64 3, .int .i64 4, .int .i64 514, .int .i64 7]) rfl rfl (by kernel_rfl) ?_
  refine r_go rfl rfl ?_
  refine r_call rfl rfl rfl (by kernel_rfl) rfl (fun w hw => by exact stat24C 3 4 514 7 rfl (by decide) (by decide) (by decide) (by decide) w (hG.keep hw)) ?_
  refine r_go rfl rfl ?_
  refine r_eql_string (p := true) rfl rfl rfl (by rw [statT_aw, show ByteArray.mk #[102, 97, 117, 108, 116, 101, 100, 32, 114, 97, 110, 103, 101, 32, 97, 116, 32, 48, 50, 48, 50, 32, 99, 121, 99, 108, 101, 32, 55] = tx [102, 97, 117, 108, 116, 101, 100, 32, 114, 97, 110, 103, 101, 32, 97, 116, 32, 48, 50, 48, 50, 32, 99, 121, 99, 108, 101, 32, 55] from rfl]; rw [beq_self_eq_true]) ?_
  refine r_pick_t rfl rfl rfl ?_
  refine r_move rfl rfl ?_
  refine r_go rfl rfl ?_
  refine r_build (cells := recV rec0) rfl rfl build0 ?_
  refine r_go rfl rfl ?_
  refine r_callx rfl rfl rfl (by kernel_rfl) rfl (fun w hw => by exact record24 rec0 rfl (by decide) (by decide) (by decide) w (hG.keep hw)) ?_
  rintro ⟨A91, c91⟩ _
  refine r_go rfl rfl ?_
  refine r_len rfl rfl rfl ?_
  refine r_go rfl rfl ?_
  refine r_eql (p := true) rfl rfl rfl (rfl) ?_
  refine r_pick_t rfl rfl rfl ?_
  refine r_assign rfl rfl ?_
  refine r_nil ?_
  refine r_tn ?_
  refine r_ret ?_
  exact r_done1 (.inl rfl) rfl (res_tmp rfl) fun w hw => ⟨rfl, hw.clear⟩
end Go.Proofs.YtdkgnnieehidbaaDoor
