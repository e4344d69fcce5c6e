/-
  Records (chapter 23): their cells, and what is said of them. No walk.
-/
import Derived.Test.YtgicjkjppnkodaaPlanesB
namespace Go.Proofs.Ytgicjkjppnkodaa
section
open Go Go.RowKit
set_option linter.unusedVariables false
set_option linter.unusedSimpArgs false
set_option maxHeartbeats 2000000
set_option maxRecDepth 4000

/-- the words of four planes -/
def planesL (P : Nat → Nat → Nat → Bool) : List Value := (List.range 512).map fun j => Value.int .u64 ((cellP (P (j / 128)) (j % 128) : Nat) : Int)
def planesV (P : Nat → Nat → Nat → Bool) : Array Value := (planesL P).toArray
theorem planesL_len (P : Nat → Nat → Nat → Bool) : (planesL P).length = 512 := by simp [planesL]
theorem planesL_at (P : Nat → Nat → Nat → Bool) {j : Nat} (h : j < 512) : (planesL P)[j]? = some (.int .u64 ((cellP (P (j / 128)) (j % 128) : Nat) : Int)) := by simp [planesL, h]
theorem planesV_size (P : Nat → Nat → Nat → Bool) : (planesV P).size = 512 := by simp [planesV, planesL]
theorem planesV_plane (P : Nat → Nat → Nat → Bool) {k : Nat} (h : k < 4) : (planesV P).extract (k * 128) (k * 128 + 128) = planeV (P k) := by
  apply Array.ext_getElem?
  intro i
  rw [Array.getElem?_extract, planesV_size]
  by_cases hi : i < 128
  · rw [if_pos (by omega), planeV_at _ hi]
    show (planesL P).toArray[k * 128 + i]? = _
    rw [List.getElem?_toArray, planesL_at P (by omega), show (k * 128 + i) / 128 = k by omega, show (k * 128 + i) % 128 = i by omega]
  · rw [if_neg (by omega), Array.getElem?_eq_none (by rw [planeV_size]; omega)]
structure Rec where
  P : Nat → Nat → Nat → Bool
  hires : Bool
  sound : Bool
  pat : List Int
  pitch : Int
  kind : Int
  cause : Int
  pc : Int
  cycle : Int
def tailL (r : Rec) : List Value := [Value.bool r.hires, .bool r.sound] ++ (r.pat.map (Value.int .u8) ++ [.int .u8 r.pitch, .int .i64 r.kind, .int .i64 r.cause, .int .i64 r.pc, .int .i64 r.cycle])
def recL (r : Rec) : List Value := planesL r.P ++ tailL r
def recV (r : Rec) : Array Value := (recL r).toArray
theorem tailL_len {r : Rec} (h : r.pat.length = 16) : (tailL r).length = 23 := by simp [tailL, h]
theorem recV_size {r : Rec} (h : r.pat.length = 16) : (recV r).size = 535 := by simp [recV, recL, planesL_len, tailL_len h]
theorem recV_tail (r : Rec) (i : Nat) : (recV r)[512 + i]? = (tailL r)[i]? := by
  show (recL r).toArray[512 + i]? = _
  rw [List.getElem?_toArray]
  unfold recL
  rw [List.getElem?_append, planesL_len, if_neg (by omega), Nat.add_sub_cancel_left]
theorem rec_hires (r : Rec) : (recV r)[512]? = some (.bool r.hires) := recV_tail r 0
theorem rec_sound (r : Rec) : (recV r)[513]? = some (.bool r.sound) := recV_tail r 1
theorem tail_pat (r : Rec) (i : Nat) : (tailL r)[2 + i]? = (r.pat.map (Value.int .u8) ++ [Value.int .u8 r.pitch, .int .i64 r.kind, .int .i64 r.cause, .int .i64 r.pc, .int .i64 r.cycle])[i]? := by
  unfold tailL
  rw [List.getElem?_append, if_neg (by simp), show 2 + i - [Value.bool r.hires, Value.bool r.sound].length = i by simp]
theorem tail_end {r : Rec} (h : r.pat.length = 16) (i : Nat) : (tailL r)[18 + i]? = ([Value.int .u8 r.pitch, .int .i64 r.kind, .int .i64 r.cause, .int .i64 r.pc, .int .i64 r.cycle])[i]? := by
  rw [show 18 + i = 2 + (16 + i) by omega, tail_pat, List.getElem?_append, List.length_map, h, if_neg (by omega), Nat.add_sub_cancel_left]
theorem rec_pitch {r : Rec} (h : r.pat.length = 16) : (recV r)[530]? = some (.int .u8 r.pitch) := (recV_tail r 18).trans (tail_end h 0)
theorem rec_kind {r : Rec} (h : r.pat.length = 16) : (recV r)[531]? = some (.int .i64 r.kind) := (recV_tail r 19).trans (tail_end h 1)
theorem rec_cause {r : Rec} (h : r.pat.length = 16) : (recV r)[532]? = some (.int .i64 r.cause) := (recV_tail r 20).trans (tail_end h 2)
theorem rec_pc {r : Rec} (h : r.pat.length = 16) : (recV r)[533]? = some (.int .i64 r.pc) := (recV_tail r 21).trans (tail_end h 3)
theorem rec_cycle {r : Rec} (h : r.pat.length = 16) : (recV r)[534]? = some (.int .i64 r.cycle) := (recV_tail r 22).trans (tail_end h 4)
theorem rec_pat {r : Rec} (h : r.pat.length = 16) {i : Nat} (hi : i < 16) : (recV r)[514 + i]? = some (.int .u8 (r.pat.getD i 0)) := by
  have hi2 : i < r.pat.length := by omega
  rw [show 514 + i = 512 + (2 + i) by omega, recV_tail, tail_pat, List.getElem?_append, List.length_map, if_pos hi2]
  simp [hi2]
theorem rec_planes (r : Rec) (h : r.pat.length = 16) : (recV r).extract 0 512 = planesV r.P := by
  apply Array.ext_getElem?
  intro i
  rw [Array.getElem?_extract, recV_size h]
  by_cases hi : i < 512
  · rw [if_pos (by omega), Nat.zero_add]
    show (recL r).toArray[i]? = (planesL r.P).toArray[i]?
    rw [List.getElem?_toArray, List.getElem?_toArray]
    unfold recL
    rw [List.getElem?_append, planesL_len, if_pos hi]
  · rw [if_neg (by omega), Array.getElem?_eq_none (by rw [planesV_size]; omega)]
theorem rec_status (r : Rec) (h : r.pat.length = 16) : (recV r).extract 531 535 = #[.int .i64 r.kind, .int .i64 r.cause, .int .i64 r.pc, .int .i64 r.cycle] := by
  apply Array.ext_getElem?
  intro i
  rw [Array.getElem?_extract, recV_size h]
  rcases i with _ | _ | _ | _ | i
  · rw [if_pos (by omega)]; exact rec_kind h
  · rw [if_pos (by omega)]; exact rec_cause h
  · rw [if_pos (by omega)]; exact rec_pc h
  · rw [if_pos (by omega)]; exact rec_cycle h
  · rw [if_neg (by omega)]; simp
/-- whether a status is valid -/
def statusB (kind cause pc cycle : Int) : Bool :=
  if kind < 0 ∨ 3 < kind ∨ pc < 0 ∨ 65536 ≤ pc ∨ cycle < 0 ∨ 4611686018427387904 < cycle then false
  else if kind ≠ 2 ∧ kind ≠ 3 ∧ (pc ≠ 0 ∨ cycle ≠ 0) then false
  else if kind = 3 then decide (1 ≤ cause ∧ cause ≤ 4) else decide (cause = 0)
def fitsB (P : Nat → Nat → Bool) (hires : Bool) : Bool := eqQ (scrollQ P 0 0 hires) P
def fitsK (P : Nat → Nat → Nat → Bool) (hires : Bool) : Nat → Bool
  | 0 => true
  | k + 1 => fitsK P hires k && fitsB (P k) hires
def validR (r : Rec) : Bool := fitsK r.P r.hires 4 && statusB r.kind r.cause r.pc r.cycle
/-- the bytes of a number, the most significant first -/
def be (size n : Nat) : List Int := (List.range size).map fun i => (((n >>> (8 * (size - 1 - i))) % 256 : Nat) : Int)
theorem be_len (size n : Nat) : (be size n).length = size := by simp [be]
theorem be_take (size n k : Nat) (hk : k < size) : (be size n).take (k + 1) = (be size n).take k ++ [(((n >>> (8 * (size - 1 - k))) % 256 : Nat) : Int)] := by
  rw [List.take_add_one]
  congr 1
  simp [be, hk]
def usedF (P : Nat → Nat → Nat → Bool) (k : Nat) : Bool := !eqQ (P k) noneQ
theorem num_or1 (b : Nat → Bool) (i : Nat) : num b i ||| 2 ^ i = num b i + 2 ^ i := by
  have h := Nat.two_pow_add_eq_or_of_lt (num_lt b i) 1
  rw [Nat.mul_one] at h
  rw [Nat.or_comm, ← h, Nat.add_comm]
theorem or8 {x y : Nat} (hx : x < 256) (hy : y < 256) : IntKind.u8.wrap (BitVec.ofInt IntKind.u8.bits (x : Int) ||| BitVec.ofInt IntKind.u8.bits (y : Int)).toNat = ((x ||| y : Nat) : Int) := by
  have e : ∀ z : Nat, z < 256 → (BitVec.ofInt IntKind.u8.bits (z : Int)).toNat = z := fun z hz => by
    show (BitVec.ofInt 8 (z : Int)).toNat = z
    rw [BitVec.ofInt_natCast, BitVec.toNat_ofNat]
    exact Nat.mod_eq_of_lt hz
  have h : x ||| y < 2 ^ 8 := Nat.or_lt_two_pow hx hy
  rw [BitVec.toNat_or, e x hx, e y hy]
  exact IntWalk.u8_in _ ⟨by omega, by omega⟩
theorem shl1 {i : Nat} (h : i < 8) : IntKind.u8.wrap (1 * 2 ^ (min ((i : Nat) : Int).toNat IntKind.u8.bits)) = ((2 ^ i : Nat) : Int) := by
  have e : ((i : Nat) : Int).toNat = i := rfl
  have e2 : IntKind.u8.bits = 8 := rfl
  rw [e, e2, Nat.min_eq_left (by omega), Int.one_mul]
  have h2 : (2 : Nat) ^ i < 2 ^ 8 := Nat.pow_lt_pow_right (by decide) h
  have e3 : ((2 : Int) ^ i) = ((2 ^ i : Nat) : Int) := by simp
  rw [e3]
  generalize (2 : Nat) ^ i = z at *
  exact IntWalk.u8_in _ ⟨by omega, by omega⟩
theorem wrap8 (n : Nat) : IntKind.u8.wrap ((n : Nat) : Int) = ((n % 256 : Nat) : Int) := by
  have h : IntKind.u8.wrap ((n : Nat) : Int) = ((n : Nat) : Int) % 256 := by
    unfold IntKind.wrap
    simp [IntKind.signed, IntKind.bits]
  rw [h]; omega
end
section
open Go Go.RowKit
set_option linter.unusedVariables false
set_option linter.unusedSimpArgs false
set_option maxHeartbeats 2000000
set_option maxRecDepth 4000
attribute [local irreducible] mix

theorem fits23 (P : Nat → Nat → Bool) (hires : Bool) (w : World) :
    Calls Try.prog 20 #[.agg (planeV P), .bool hires] w fun e w' => e = .returned (.bool (fitsB P hires)) ∧ Sat w [] [] w' := by
  refine enter Try.func20 rfl rfl rfl ?_
  refine r_seq ?_
  refine r_region ?_
  refine r_boxV rfl rfl fun b2 => ?_
  refine r_assign rfl rfl ?_
  refine r_nil ?_
  refine r_tn ?_
  refine r_seq ?_
  refine r_mixedD { xb := [], rb := [b2], rs := [8], fs := [], acs := [7] } (by kernel_rfl) (by kernel_rfl) (fun w hw k hk => by
    simp only [List.mem_cons, List.not_mem_nil, or_false] at hk
    rcases hk with rfl <;> exact Sat.lt hw) ?_
  refine r_loadV rfl rfl rfl rfl (planeV_size _) ?_
  refine r_move rfl rfl ?_
  refine r_call rfl rfl rfl (by kernel_rfl) rfl (fun w hw => by exact scroll07 P 0 0 hires w (by decide) (by decide)) ?_
  refine r_loadV rfl rfl rfl rfl (planeV_size _) ?_
  refine r_eqlAgg rfl rfl rfl planeFlat (planeV_ok _) (planeV_ok _) (plane_eq _ _) ?_
  refine r_assign rfl rfl ?_
  refine r_nil ?_
  refine r_tn ?_
  refine r_ret ?_
  exact r_done1 (.inl rfl) rfl (res_tmp rfl) fun w hw => ⟨rfl, hw.clear⟩

theorem status23 (kind cause pc cycle : Int) (w : World) :
    Calls Try.prog 21 #[.agg #[.int .i64 kind, .int .i64 cause, .int .i64 pc, .int .i64 cycle]] w fun e w' => e = .returned (.bool (statusB kind cause pc cycle)) ∧ Sat w [] [] w' := by
  refine enter Try.func21 rfl rfl rfl ?_
  refine r_seq ?_
  refine r_region ?_
  refine r_boxV rfl rfl fun b1 => ?_
  refine r_assign rfl rfl ?_
  refine r_nil ?_
  refine r_tn ?_
  refine r_seq ?_
  refine r_region ?_
  refine r_fieldAddr (off := 0) (o' := 0) rfl rfl rfl rfl ?_
  refine r_load1 rfl rfl rfl (by rfl) ?_
  refine r_eql rfl rfl rfl rfl ?_
  refine r_move rfl rfl ?_
  refine r_split 8 rfl (fun hb8 => ?_) (fun hb8 => ?_)
  · refine r_pass rfl rfl rfl rfl ?_
    refine r_pass rfl rfl rfl rfl ?_
    refine r_pass rfl rfl rfl rfl ?_
    refine r_pick_t rfl rfl rfl ?_
    refine r_assign rfl rfl ?_
    refine r_nil ?_
    refine r_tn ?_
    refine r_seq ?_
    refine r_region ?_
    refine r_fieldAddr (off := 1) (o' := 1) rfl rfl rfl rfl ?_
    refine r_load1 rfl rfl rfl (by rfl) ?_
    refine r_geq rfl rfl rfl rfl ?_
    refine r_move rfl rfl ?_
    refine r_split 16 rfl (fun hb16 => ?_) (fun hb16 => ?_)
    · refine r_go rfl rfl ?_
      refine r_fieldAddr (off := 1) (o' := 1) rfl rfl rfl rfl ?_
      refine r_go rfl rfl ?_
      refine r_load1 rfl rfl rfl (by rfl) ?_
      refine r_go rfl rfl ?_
      refine r_leq rfl rfl rfl rfl ?_
      refine r_pick_t rfl rfl rfl ?_
      refine r_assign rfl rfl ?_
      refine r_nil ?_
      refine r_tn ?_
      refine r_seq ?_
      refine r_block ?_
      refine r_seq ?_
      refine r_region ?_
      refine r_fieldAddr (off := 0) (o' := 0) rfl rfl rfl rfl ?_
      refine r_load1 rfl rfl rfl (by rfl) ?_
      refine r_lss rfl rfl rfl rfl ?_
      refine r_move rfl rfl ?_
      refine r_split 25 rfl (fun hb25 => ?_) (fun hb25 => ?_)
      · refine r_pass rfl rfl rfl rfl ?_
        refine r_pass rfl rfl rfl rfl ?_
        refine r_pass rfl rfl rfl rfl ?_
        refine r_pick_t rfl rfl rfl ?_
        refine r_move rfl rfl ?_
        refine r_pass rfl rfl rfl rfl ?_
        refine r_pass rfl rfl rfl rfl ?_
        refine r_pass rfl rfl rfl rfl ?_
        refine r_pick_t rfl rfl rfl ?_
        refine r_move rfl rfl ?_
        refine r_pass rfl rfl rfl rfl ?_
        refine r_pass rfl rfl rfl rfl ?_
        refine r_pass rfl rfl rfl rfl ?_
        refine r_pick_t rfl rfl rfl ?_
        refine r_move rfl rfl ?_
        refine r_pass rfl rfl rfl rfl ?_
        refine r_pass rfl rfl rfl rfl ?_
        refine r_pass rfl rfl rfl rfl ?_
        refine r_pick_t rfl rfl rfl ?_
        refine r_move rfl rfl ?_
        refine r_pass rfl rfl rfl rfl ?_
        refine r_pass rfl rfl rfl rfl ?_
        refine r_pass rfl rfl rfl rfl ?_
        refine r_pick_t rfl rfl rfl ?_
        refine r_assign rfl rfl ?_
        refine r_nil ?_
        refine r_tn ?_
        refine r_cond_t rfl ?_
        refine r_seq ?_
        refine r_region ?_
        refine r_assign rfl rfl ?_
        refine r_nil ?_
        refine r_tn ?_
        refine r_ret ?_
        refine r_br ?_
        refine r_tr ?_
        exact r_done1 (.inl rfl) rfl (res_tmp rfl) fun w hw => ⟨congrArg (fun b => Ending.returned (.bool b)) (by
          simp only [decide_eq_true_eq, decide_eq_false_iff_not, Bool.not_eq_true', Bool.not_eq_false', gt_iff_lt, ge_iff_le, ne_eq, Bool.not_true, Bool.not_false] at *
          unfold statusB
          repeat' split
          all_goals first | omega | (simp only [decide_eq_decide, decide_eq_true_eq, decide_eq_false_iff_not, Bool.false_eq, Bool.true_eq]; omega) | rfl), hw.clear⟩
      · refine r_go rfl rfl ?_
        refine r_fieldAddr (off := 0) (o' := 0) rfl rfl rfl rfl ?_
        refine r_go rfl rfl ?_
        refine r_load1 rfl rfl rfl (by rfl) ?_
        refine r_go rfl rfl ?_
        refine r_gtr rfl rfl rfl rfl ?_
        refine r_pick_f rfl rfl rfl ?_
        refine r_move rfl rfl ?_
        refine r_split 30 rfl (fun hb30 => ?_) (fun hb30 => ?_)
        · refine r_pass rfl rfl rfl rfl ?_
          refine r_pass rfl rfl rfl rfl ?_
          refine r_pass rfl rfl rfl rfl ?_
          refine r_pick_t rfl rfl rfl ?_
          refine r_move rfl rfl ?_
          refine r_pass rfl rfl rfl rfl ?_
          refine r_pass rfl rfl rfl rfl ?_
          refine r_pass rfl rfl rfl rfl ?_
          refine r_pick_t rfl rfl rfl ?_
          refine r_move rfl rfl ?_
          refine r_pass rfl rfl rfl rfl ?_
          refine r_pass rfl rfl rfl rfl ?_
          refine r_pass rfl rfl rfl rfl ?_
          refine r_pick_t rfl rfl rfl ?_
          refine r_move rfl rfl ?_
          refine r_pass rfl rfl rfl rfl ?_
          refine r_pass rfl rfl rfl rfl ?_
          refine r_pass rfl rfl rfl rfl ?_
          refine r_pick_t rfl rfl rfl ?_
          refine r_assign rfl rfl ?_
          refine r_nil ?_
          refine r_tn ?_
          refine r_cond_t rfl ?_
          refine r_seq ?_
          refine r_region ?_
          refine r_assign rfl rfl ?_
          refine r_nil ?_
          refine r_tn ?_
          refine r_ret ?_
          refine r_br ?_
          refine r_tr ?_
          exact r_done1 (.inl rfl) rfl (res_tmp rfl) fun w hw => ⟨congrArg (fun b => Ending.returned (.bool b)) (by
            simp only [decide_eq_true_eq, decide_eq_false_iff_not, Bool.not_eq_true', Bool.not_eq_false', gt_iff_lt, ge_iff_le, ne_eq, Bool.not_true, Bool.not_false] at *
            unfold statusB
            repeat' split
            all_goals first | omega | (simp only [decide_eq_decide, decide_eq_true_eq, decide_eq_false_iff_not, Bool.false_eq, Bool.true_eq]; omega) | rfl), hw.clear⟩
        · refine r_go rfl rfl ?_
          refine r_fieldAddr (off := 2) (o' := 2) rfl rfl rfl rfl ?_
          refine r_go rfl rfl ?_
          refine r_load1 rfl rfl rfl (by rfl) ?_
          refine r_go rfl rfl ?_
          refine r_lss rfl rfl rfl rfl ?_
          refine r_pick_f rfl rfl rfl ?_
          refine r_move rfl rfl ?_
          refine r_split 35 rfl (fun hb35 => ?_) (fun hb35 => ?_)
          · refine r_pass rfl rfl rfl rfl ?_
            refine r_pass rfl rfl rfl rfl ?_
            refine r_pass rfl rfl rfl rfl ?_
            refine r_pick_t rfl rfl rfl ?_
            refine r_move rfl rfl ?_
            refine r_pass rfl rfl rfl rfl ?_
            refine r_pass rfl rfl rfl rfl ?_
            refine r_pass rfl rfl rfl rfl ?_
            refine r_pick_t rfl rfl rfl ?_
            refine r_move rfl rfl ?_
            refine r_pass rfl rfl rfl rfl ?_
            refine r_pass rfl rfl rfl rfl ?_
            refine r_pass rfl rfl rfl rfl ?_
            refine r_pick_t rfl rfl rfl ?_
            refine r_assign rfl rfl ?_
            refine r_nil ?_
            refine r_tn ?_
            refine r_cond_t rfl ?_
            refine r_seq ?_
            refine r_region ?_
            refine r_assign rfl rfl ?_
            refine r_nil ?_
            refine r_tn ?_
            refine r_ret ?_
            refine r_br ?_
            refine r_tr ?_
            exact r_done1 (.inl rfl) rfl (res_tmp rfl) fun w hw => ⟨congrArg (fun b => Ending.returned (.bool b)) (by
              simp only [decide_eq_true_eq, decide_eq_false_iff_not, Bool.not_eq_true', Bool.not_eq_false', gt_iff_lt, ge_iff_le, ne_eq, Bool.not_true, Bool.not_false] at *
              unfold statusB
              repeat' split
              all_goals first | omega | (simp only [decide_eq_decide, decide_eq_true_eq, decide_eq_false_iff_not, Bool.false_eq, Bool.true_eq]; omega) | rfl), hw.clear⟩
          · refine r_go rfl rfl ?_
            refine r_fieldAddr (off := 2) (o' := 2) rfl rfl rfl rfl ?_
            refine r_go rfl rfl ?_
            refine r_load1 rfl rfl rfl (by rfl) ?_
            refine r_go rfl rfl ?_
            refine r_geq rfl rfl rfl rfl ?_
            refine r_pick_f rfl rfl rfl ?_
            refine r_move rfl rfl ?_
            refine r_split 40 rfl (fun hb40 => ?_) (fun hb40 => ?_)
            · refine r_pass rfl rfl rfl rfl ?_
              refine r_pass rfl rfl rfl rfl ?_
              refine r_pass rfl rfl rfl rfl ?_
              refine r_pick_t rfl rfl rfl ?_
              refine r_move rfl rfl ?_
              refine r_pass rfl rfl rfl rfl ?_
              refine r_pass rfl rfl rfl rfl ?_
              refine r_pass rfl rfl rfl rfl ?_
              refine r_pick_t rfl rfl rfl ?_
              refine r_assign rfl rfl ?_
              refine r_nil ?_
              refine r_tn ?_
              refine r_cond_t rfl ?_
              refine r_seq ?_
              refine r_region ?_
              refine r_assign rfl rfl ?_
              refine r_nil ?_
              refine r_tn ?_
              refine r_ret ?_
              refine r_br ?_
              refine r_tr ?_
              exact r_done1 (.inl rfl) rfl (res_tmp rfl) fun w hw => ⟨congrArg (fun b => Ending.returned (.bool b)) (by
                simp only [decide_eq_true_eq, decide_eq_false_iff_not, Bool.not_eq_true', Bool.not_eq_false', gt_iff_lt, ge_iff_le, ne_eq, Bool.not_true, Bool.not_false] at *
                unfold statusB
                repeat' split
                all_goals first | omega | (simp only [decide_eq_decide, decide_eq_true_eq, decide_eq_false_iff_not, Bool.false_eq, Bool.true_eq]; omega) | rfl), hw.clear⟩
            · refine r_go rfl rfl ?_
              refine r_fieldAddr (off := 3) (o' := 3) rfl rfl rfl rfl ?_
              refine r_go rfl rfl ?_
              refine r_load1 rfl rfl rfl (by rfl) ?_
              refine r_go rfl rfl ?_
              refine r_lss rfl rfl rfl rfl ?_
              refine r_pick_f rfl rfl rfl ?_
              refine r_move rfl rfl ?_
              refine r_split 45 rfl (fun hb45 => ?_) (fun hb45 => ?_)
              · refine r_pass rfl rfl rfl rfl ?_
                refine r_pass rfl rfl rfl rfl ?_
                refine r_pass rfl rfl rfl rfl ?_
                refine r_pick_t rfl rfl rfl ?_
                refine r_assign rfl rfl ?_
                refine r_nil ?_
                refine r_tn ?_
                refine r_cond_t rfl ?_
                refine r_seq ?_
                refine r_region ?_
                refine r_assign rfl rfl ?_
                refine r_nil ?_
                refine r_tn ?_
                refine r_ret ?_
                refine r_br ?_
                refine r_tr ?_
                exact r_done1 (.inl rfl) rfl (res_tmp rfl) fun w hw => ⟨congrArg (fun b => Ending.returned (.bool b)) (by
                  simp only [decide_eq_true_eq, decide_eq_false_iff_not, Bool.not_eq_true', Bool.not_eq_false', gt_iff_lt, ge_iff_le, ne_eq, Bool.not_true, Bool.not_false] at *
                  unfold statusB
                  repeat' split
                  all_goals first | omega | (simp only [decide_eq_decide, decide_eq_true_eq, decide_eq_false_iff_not, Bool.false_eq, Bool.true_eq]; omega) | rfl), hw.clear⟩
              · refine r_go rfl rfl ?_
                refine r_fieldAddr (off := 3) (o' := 3) rfl rfl rfl rfl ?_
                refine r_go rfl rfl ?_
                refine r_load1 rfl rfl rfl (by rfl) ?_
                refine r_go rfl rfl ?_
                refine r_gtr rfl rfl rfl rfl ?_
                refine r_pick_f rfl rfl rfl ?_
                refine r_assign rfl rfl ?_
                refine r_nil ?_
                refine r_tn ?_
                refine r_cond rfl (fun hc => ?_) (fun hc => ?_)
                · refine r_seq ?_
                  refine r_region ?_
                  refine r_assign rfl rfl ?_
                  refine r_nil ?_
                  refine r_tn ?_
                  refine r_ret ?_
                  refine r_br ?_
                  refine r_tr ?_
                  exact r_done1 (.inl rfl) rfl (res_tmp rfl) fun w hw => ⟨congrArg (fun b => Ending.returned (.bool b)) (by
                    simp only [decide_eq_true_eq, decide_eq_false_iff_not, Bool.not_eq_true', Bool.not_eq_false', gt_iff_lt, ge_iff_le, ne_eq, Bool.not_true, Bool.not_false] at *
                    unfold statusB
                    repeat' split
                    all_goals first | omega | (simp only [decide_eq_decide, decide_eq_true_eq, decide_eq_false_iff_not, Bool.false_eq, Bool.true_eq]; omega) | rfl), hw.clear⟩
                · refine r_seq ?_
                  refine r_region ?_
                  refine r_move rfl rfl ?_
                  refine r_not rfl rfl rfl ?_
                  refine r_move rfl rfl ?_
                  refine r_pass rfl rfl rfl rfl ?_
                  refine r_pass rfl rfl rfl rfl ?_
                  refine r_pass rfl rfl rfl rfl ?_
                  refine r_pass rfl rfl rfl rfl ?_
                  refine r_passU rfl rfl rfl ?_
                  refine r_passU rfl rfl rfl ?_
                  refine r_passU rfl rfl rfl ?_
                  refine r_pass rfl rfl rfl rfl ?_
                  refine r_pick_f rfl rfl rfl ?_
                  refine r_assign rfl rfl ?_
                  refine r_nil ?_
                  refine r_tn ?_
                  refine r_cond_f rfl ?_
                  refine r_seq ?_
                  refine r_region ?_
                  refine r_fieldAddr (off := 0) (o' := 0) rfl rfl rfl rfl ?_
                  refine r_load1 rfl rfl rfl (by rfl) ?_
                  refine r_eql rfl rfl rfl rfl ?_
                  refine r_assign rfl rfl ?_
                  refine r_nil ?_
                  refine r_tn ?_
                  refine r_cond rfl (fun hc => ?_) (fun hc => ?_)
                  · refine r_seq ?_
                    refine r_region ?_
                    refine r_move rfl rfl ?_
                    refine r_assign rfl rfl ?_
                    refine r_nil ?_
                    refine r_tn ?_
                    refine r_ret ?_
                    refine r_br ?_
                    refine r_tr ?_
                    exact r_done1 (.inl rfl) rfl (res_tmp rfl) fun w hw => ⟨congrArg (fun b => Ending.returned (.bool b)) (by
                      simp only [decide_eq_true_eq, decide_eq_false_iff_not, Bool.not_eq_true', Bool.not_eq_false', gt_iff_lt, ge_iff_le, ne_eq, Bool.not_true, Bool.not_false] at *
                      unfold statusB
                      repeat' split
                      all_goals first | omega | (simp only [decide_eq_decide, decide_eq_true_eq, decide_eq_false_iff_not, Bool.false_eq, Bool.true_eq]; omega) | rfl), hw.clear⟩
                  · refine r_skip ?_
                    refine r_bn ?_
                    refine r_tn ?_
                    refine r_seq ?_
                    refine r_region ?_
                    refine r_fieldAddr (off := 1) (o' := 1) rfl rfl rfl rfl ?_
                    refine r_load1 rfl rfl rfl (by rfl) ?_
                    refine r_eql rfl rfl rfl rfl ?_
                    refine r_assign rfl rfl ?_
                    refine r_nil ?_
                    refine r_tn ?_
                    refine r_ret ?_
                    exact r_done1 (.inl rfl) rfl (res_tmp rfl) fun w hw => ⟨congrArg (fun b => Ending.returned (.bool b)) (by
                      simp only [decide_eq_true_eq, decide_eq_false_iff_not, Bool.not_eq_true', Bool.not_eq_false', gt_iff_lt, ge_iff_le, ne_eq, Bool.not_true, Bool.not_false] at *
                      unfold statusB
                      repeat' split
                      all_goals first | omega | (simp only [decide_eq_decide, decide_eq_true_eq, decide_eq_false_iff_not, Bool.false_eq, Bool.true_eq]; omega) | rfl), hw.clear⟩
    · refine r_pass rfl rfl rfl rfl ?_
      refine r_pass rfl rfl rfl rfl ?_
      refine r_pass rfl rfl rfl rfl ?_
      refine r_pick_f rfl rfl rfl ?_
      refine r_assign rfl rfl ?_
      refine r_nil ?_
      refine r_tn ?_
      refine r_seq ?_
      refine r_block ?_
      refine r_seq ?_
      refine r_region ?_
      refine r_fieldAddr (off := 0) (o' := 0) rfl rfl rfl rfl ?_
      refine r_load1 rfl rfl rfl (by rfl) ?_
      refine r_lss rfl rfl rfl rfl ?_
      refine r_move rfl rfl ?_
      refine r_split 25 rfl (fun hb25 => ?_) (fun hb25 => ?_)
      · refine r_pass rfl rfl rfl rfl ?_
        refine r_pass rfl rfl rfl rfl ?_
        refine r_pass rfl rfl rfl rfl ?_
        refine r_pick_t rfl rfl rfl ?_
        refine r_move rfl rfl ?_
        refine r_pass rfl rfl rfl rfl ?_
        refine r_pass rfl rfl rfl rfl ?_
        refine r_pass rfl rfl rfl rfl ?_
        refine r_pick_t rfl rfl rfl ?_
        refine r_move rfl rfl ?_
        refine r_pass rfl rfl rfl rfl ?_
        refine r_pass rfl rfl rfl rfl ?_
        refine r_pass rfl rfl rfl rfl ?_
        refine r_pick_t rfl rfl rfl ?_
        refine r_move rfl rfl ?_
        refine r_pass rfl rfl rfl rfl ?_
        refine r_pass rfl rfl rfl rfl ?_
        refine r_pass rfl rfl rfl rfl ?_
        refine r_pick_t rfl rfl rfl ?_
        refine r_move rfl rfl ?_
        refine r_pass rfl rfl rfl rfl ?_
        refine r_pass rfl rfl rfl rfl ?_
        refine r_pass rfl rfl rfl rfl ?_
        refine r_pick_t rfl rfl rfl ?_
        refine r_assign rfl rfl ?_
        refine r_nil ?_
        refine r_tn ?_
        refine r_cond_t rfl ?_
        refine r_seq ?_
        refine r_region ?_
        refine r_assign rfl rfl ?_
        refine r_nil ?_
        refine r_tn ?_
        refine r_ret ?_
        refine r_br ?_
        refine r_tr ?_
        exact r_done1 (.inl rfl) rfl (res_tmp rfl) fun w hw => ⟨congrArg (fun b => Ending.returned (.bool b)) (by
          simp only [decide_eq_true_eq, decide_eq_false_iff_not, Bool.not_eq_true', Bool.not_eq_false', gt_iff_lt, ge_iff_le, ne_eq, Bool.not_true, Bool.not_false] at *
          unfold statusB
          repeat' split
          all_goals first | omega | (simp only [decide_eq_decide, decide_eq_true_eq, decide_eq_false_iff_not, Bool.false_eq, Bool.true_eq]; omega) | rfl), hw.clear⟩
      · refine r_go rfl rfl ?_
        refine r_fieldAddr (off := 0) (o' := 0) rfl rfl rfl rfl ?_
        refine r_go rfl rfl ?_
        refine r_load1 rfl rfl rfl (by rfl) ?_
        refine r_go rfl rfl ?_
        refine r_gtr rfl rfl rfl rfl ?_
        refine r_pick_f rfl rfl rfl ?_
        refine r_move rfl rfl ?_
        refine r_split 30 rfl (fun hb30 => ?_) (fun hb30 => ?_)
        · refine r_pass rfl rfl rfl rfl ?_
          refine r_pass rfl rfl rfl rfl ?_
          refine r_pass rfl rfl rfl rfl ?_
          refine r_pick_t rfl rfl rfl ?_
          refine r_move rfl rfl ?_
          refine r_pass rfl rfl rfl rfl ?_
          refine r_pass rfl rfl rfl rfl ?_
          refine r_pass rfl rfl rfl rfl ?_
          refine r_pick_t rfl rfl rfl ?_
          refine r_move rfl rfl ?_
          refine r_pass rfl rfl rfl rfl ?_
          refine r_pass rfl rfl rfl rfl ?_
          refine r_pass rfl rfl rfl rfl ?_
          refine r_pick_t rfl rfl rfl ?_
          refine r_move rfl rfl ?_
          refine r_pass rfl rfl rfl rfl ?_
          refine r_pass rfl rfl rfl rfl ?_
          refine r_pass rfl rfl rfl rfl ?_
          refine r_pick_t rfl rfl rfl ?_
          refine r_assign rfl rfl ?_
          refine r_nil ?_
          refine r_tn ?_
          refine r_cond_t rfl ?_
          refine r_seq ?_
          refine r_region ?_
          refine r_assign rfl rfl ?_
          refine r_nil ?_
          refine r_tn ?_
          refine r_ret ?_
          refine r_br ?_
          refine r_tr ?_
          exact r_done1 (.inl rfl) rfl (res_tmp rfl) fun w hw => ⟨congrArg (fun b => Ending.returned (.bool b)) (by
            simp only [decide_eq_true_eq, decide_eq_false_iff_not, Bool.not_eq_true', Bool.not_eq_false', gt_iff_lt, ge_iff_le, ne_eq, Bool.not_true, Bool.not_false] at *
            unfold statusB
            repeat' split
            all_goals first | omega | (simp only [decide_eq_decide, decide_eq_true_eq, decide_eq_false_iff_not, Bool.false_eq, Bool.true_eq]; omega) | rfl), hw.clear⟩
        · refine r_go rfl rfl ?_
          refine r_fieldAddr (off := 2) (o' := 2) rfl rfl rfl rfl ?_
          refine r_go rfl rfl ?_
          refine r_load1 rfl rfl rfl (by rfl) ?_
          refine r_go rfl rfl ?_
          refine r_lss rfl rfl rfl rfl ?_
          refine r_pick_f rfl rfl rfl ?_
          refine r_move rfl rfl ?_
          refine r_split 35 rfl (fun hb35 => ?_) (fun hb35 => ?_)
          · refine r_pass rfl rfl rfl rfl ?_
            refine r_pass rfl rfl rfl rfl ?_
            refine r_pass rfl rfl rfl rfl ?_
            refine r_pick_t rfl rfl rfl ?_
            refine r_move rfl rfl ?_
            refine r_pass rfl rfl rfl rfl ?_
            refine r_pass rfl rfl rfl rfl ?_
            refine r_pass rfl rfl rfl rfl ?_
            refine r_pick_t rfl rfl rfl ?_
            refine r_move rfl rfl ?_
            refine r_pass rfl rfl rfl rfl ?_
            refine r_pass rfl rfl rfl rfl ?_
            refine r_pass rfl rfl rfl rfl ?_
            refine r_pick_t rfl rfl rfl ?_
            refine r_assign rfl rfl ?_
            refine r_nil ?_
            refine r_tn ?_
            refine r_cond_t rfl ?_
            refine r_seq ?_
            refine r_region ?_
            refine r_assign rfl rfl ?_
            refine r_nil ?_
            refine r_tn ?_
            refine r_ret ?_
            refine r_br ?_
            refine r_tr ?_
            exact r_done1 (.inl rfl) rfl (res_tmp rfl) fun w hw => ⟨congrArg (fun b => Ending.returned (.bool b)) (by
              simp only [decide_eq_true_eq, decide_eq_false_iff_not, Bool.not_eq_true', Bool.not_eq_false', gt_iff_lt, ge_iff_le, ne_eq, Bool.not_true, Bool.not_false] at *
              unfold statusB
              repeat' split
              all_goals first | omega | (simp only [decide_eq_decide, decide_eq_true_eq, decide_eq_false_iff_not, Bool.false_eq, Bool.true_eq]; omega) | rfl), hw.clear⟩
          · refine r_go rfl rfl ?_
            refine r_fieldAddr (off := 2) (o' := 2) rfl rfl rfl rfl ?_
            refine r_go rfl rfl ?_
            refine r_load1 rfl rfl rfl (by rfl) ?_
            refine r_go rfl rfl ?_
            refine r_geq rfl rfl rfl rfl ?_
            refine r_pick_f rfl rfl rfl ?_
            refine r_move rfl rfl ?_
            refine r_split 40 rfl (fun hb40 => ?_) (fun hb40 => ?_)
            · refine r_pass rfl rfl rfl rfl ?_
              refine r_pass rfl rfl rfl rfl ?_
              refine r_pass rfl rfl rfl rfl ?_
              refine r_pick_t rfl rfl rfl ?_
              refine r_move rfl rfl ?_
              refine r_pass rfl rfl rfl rfl ?_
              refine r_pass rfl rfl rfl rfl ?_
              refine r_pass rfl rfl rfl rfl ?_
              refine r_pick_t rfl rfl rfl ?_
              refine r_assign rfl rfl ?_
              refine r_nil ?_
              refine r_tn ?_
              refine r_cond_t rfl ?_
              refine r_seq ?_
              refine r_region ?_
              refine r_assign rfl rfl ?_
              refine r_nil ?_
              refine r_tn ?_
              refine r_ret ?_
              refine r_br ?_
              refine r_tr ?_
              exact r_done1 (.inl rfl) rfl (res_tmp rfl) fun w hw => ⟨congrArg (fun b => Ending.returned (.bool b)) (by
                simp only [decide_eq_true_eq, decide_eq_false_iff_not, Bool.not_eq_true', Bool.not_eq_false', gt_iff_lt, ge_iff_le, ne_eq, Bool.not_true, Bool.not_false] at *
                unfold statusB
                repeat' split
                all_goals first | omega | (simp only [decide_eq_decide, decide_eq_true_eq, decide_eq_false_iff_not, Bool.false_eq, Bool.true_eq]; omega) | rfl), hw.clear⟩
            · refine r_go rfl rfl ?_
              refine r_fieldAddr (off := 3) (o' := 3) rfl rfl rfl rfl ?_
              refine r_go rfl rfl ?_
              refine r_load1 rfl rfl rfl (by rfl) ?_
              refine r_go rfl rfl ?_
              refine r_lss rfl rfl rfl rfl ?_
              refine r_pick_f rfl rfl rfl ?_
              refine r_move rfl rfl ?_
              refine r_split 45 rfl (fun hb45 => ?_) (fun hb45 => ?_)
              · refine r_pass rfl rfl rfl rfl ?_
                refine r_pass rfl rfl rfl rfl ?_
                refine r_pass rfl rfl rfl rfl ?_
                refine r_pick_t rfl rfl rfl ?_
                refine r_assign rfl rfl ?_
                refine r_nil ?_
                refine r_tn ?_
                refine r_cond_t rfl ?_
                refine r_seq ?_
                refine r_region ?_
                refine r_assign rfl rfl ?_
                refine r_nil ?_
                refine r_tn ?_
                refine r_ret ?_
                refine r_br ?_
                refine r_tr ?_
                exact r_done1 (.inl rfl) rfl (res_tmp rfl) fun w hw => ⟨congrArg (fun b => Ending.returned (.bool b)) (by
                  simp only [decide_eq_true_eq, decide_eq_false_iff_not, Bool.not_eq_true', Bool.not_eq_false', gt_iff_lt, ge_iff_le, ne_eq, Bool.not_true, Bool.not_false] at *
                  unfold statusB
                  repeat' split
                  all_goals first | omega | (simp only [decide_eq_decide, decide_eq_true_eq, decide_eq_false_iff_not, Bool.false_eq, Bool.true_eq]; omega) | rfl), hw.clear⟩
              · refine r_go rfl rfl ?_
                refine r_fieldAddr (off := 3) (o' := 3) rfl rfl rfl rfl ?_
                refine r_go rfl rfl ?_
                refine r_load1 rfl rfl rfl (by rfl) ?_
                refine r_go rfl rfl ?_
                refine r_gtr rfl rfl rfl rfl ?_
                refine r_pick_f rfl rfl rfl ?_
                refine r_assign rfl rfl ?_
                refine r_nil ?_
                refine r_tn ?_
                refine r_cond rfl (fun hc => ?_) (fun hc => ?_)
                · refine r_seq ?_
                  refine r_region ?_
                  refine r_assign rfl rfl ?_
                  refine r_nil ?_
                  refine r_tn ?_
                  refine r_ret ?_
                  refine r_br ?_
                  refine r_tr ?_
                  exact r_done1 (.inl rfl) rfl (res_tmp rfl) fun w hw => ⟨congrArg (fun b => Ending.returned (.bool b)) (by
                    simp only [decide_eq_true_eq, decide_eq_false_iff_not, Bool.not_eq_true', Bool.not_eq_false', gt_iff_lt, ge_iff_le, ne_eq, Bool.not_true, Bool.not_false] at *
                    unfold statusB
                    repeat' split
                    all_goals first | omega | (simp only [decide_eq_decide, decide_eq_true_eq, decide_eq_false_iff_not, Bool.false_eq, Bool.true_eq]; omega) | rfl), hw.clear⟩
                · refine r_seq ?_
                  refine r_region ?_
                  refine r_move rfl rfl ?_
                  refine r_not rfl rfl rfl ?_
                  refine r_move rfl rfl ?_
                  refine r_pass rfl rfl rfl rfl ?_
                  refine r_pass rfl rfl rfl rfl ?_
                  refine r_pass rfl rfl rfl rfl ?_
                  refine r_pass rfl rfl rfl rfl ?_
                  refine r_passU rfl rfl rfl ?_
                  refine r_passU rfl rfl rfl ?_
                  refine r_passU rfl rfl rfl ?_
                  refine r_pass rfl rfl rfl rfl ?_
                  refine r_pick_f rfl rfl rfl ?_
                  refine r_assign rfl rfl ?_
                  refine r_nil ?_
                  refine r_tn ?_
                  refine r_cond_f rfl ?_
                  refine r_seq ?_
                  refine r_region ?_
                  refine r_fieldAddr (off := 0) (o' := 0) rfl rfl rfl rfl ?_
                  refine r_load1 rfl rfl rfl (by rfl) ?_
                  refine r_eql rfl rfl rfl rfl ?_
                  refine r_assign rfl rfl ?_
                  refine r_nil ?_
                  refine r_tn ?_
                  refine r_cond rfl (fun hc => ?_) (fun hc => ?_)
                  · refine r_seq ?_
                    refine r_region ?_
                    refine r_move rfl rfl ?_
                    refine r_assign rfl rfl ?_
                    refine r_nil ?_
                    refine r_tn ?_
                    refine r_ret ?_
                    refine r_br ?_
                    refine r_tr ?_
                    exact r_done1 (.inl rfl) rfl (res_tmp rfl) fun w hw => ⟨congrArg (fun b => Ending.returned (.bool b)) (by
                      simp only [decide_eq_true_eq, decide_eq_false_iff_not, Bool.not_eq_true', Bool.not_eq_false', gt_iff_lt, ge_iff_le, ne_eq, Bool.not_true, Bool.not_false] at *
                      unfold statusB
                      repeat' split
                      all_goals first | omega | (simp only [decide_eq_decide, decide_eq_true_eq, decide_eq_false_iff_not, Bool.false_eq, Bool.true_eq]; omega) | rfl), hw.clear⟩
                  · refine r_skip ?_
                    refine r_bn ?_
                    refine r_tn ?_
                    refine r_seq ?_
                    refine r_region ?_
                    refine r_fieldAddr (off := 1) (o' := 1) rfl rfl rfl rfl ?_
                    refine r_load1 rfl rfl rfl (by rfl) ?_
                    refine r_eql rfl rfl rfl rfl ?_
                    refine r_assign rfl rfl ?_
                    refine r_nil ?_
                    refine r_tn ?_
                    refine r_ret ?_
                    exact r_done1 (.inl rfl) rfl (res_tmp rfl) fun w hw => ⟨congrArg (fun b => Ending.returned (.bool b)) (by
                      simp only [decide_eq_true_eq, decide_eq_false_iff_not, Bool.not_eq_true', Bool.not_eq_false', gt_iff_lt, ge_iff_le, ne_eq, Bool.not_true, Bool.not_false] at *
                      unfold statusB
                      repeat' split
                      all_goals first | omega | (simp only [decide_eq_decide, decide_eq_true_eq, decide_eq_false_iff_not, Bool.false_eq, Bool.true_eq]; omega) | rfl), hw.clear⟩
  · refine r_go rfl rfl ?_
    refine r_fieldAddr (off := 0) (o' := 0) rfl rfl rfl rfl ?_
    refine r_go rfl rfl ?_
    refine r_load1 rfl rfl rfl (by rfl) ?_
    refine r_go rfl rfl ?_
    refine r_eql rfl rfl rfl rfl ?_
    refine r_pick_f rfl rfl rfl ?_
    refine r_assign rfl rfl ?_
    refine r_nil ?_
    refine r_tn ?_
    refine r_seq ?_
    refine r_region ?_
    refine r_fieldAddr (off := 1) (o' := 1) rfl rfl rfl rfl ?_
    refine r_load1 rfl rfl rfl (by rfl) ?_
    refine r_geq rfl rfl rfl rfl ?_
    refine r_move rfl rfl ?_
    refine r_split 16 rfl (fun hb16 => ?_) (fun hb16 => ?_)
    · refine r_go rfl rfl ?_
      refine r_fieldAddr (off := 1) (o' := 1) rfl rfl rfl rfl ?_
      refine r_go rfl rfl ?_
      refine r_load1 rfl rfl rfl (by rfl) ?_
      refine r_go rfl rfl ?_
      refine r_leq rfl rfl rfl rfl ?_
      refine r_pick_t rfl rfl rfl ?_
      refine r_assign rfl rfl ?_
      refine r_nil ?_
      refine r_tn ?_
      refine r_seq ?_
      refine r_block ?_
      refine r_seq ?_
      refine r_region ?_
      refine r_fieldAddr (off := 0) (o' := 0) rfl rfl rfl rfl ?_
      refine r_load1 rfl rfl rfl (by rfl) ?_
      refine r_lss rfl rfl rfl rfl ?_
      refine r_move rfl rfl ?_
      refine r_split 25 rfl (fun hb25 => ?_) (fun hb25 => ?_)
      · refine r_pass rfl rfl rfl rfl ?_
        refine r_pass rfl rfl rfl rfl ?_
        refine r_pass rfl rfl rfl rfl ?_
        refine r_pick_t rfl rfl rfl ?_
        refine r_move rfl rfl ?_
        refine r_pass rfl rfl rfl rfl ?_
        refine r_pass rfl rfl rfl rfl ?_
        refine r_pass rfl rfl rfl rfl ?_
        refine r_pick_t rfl rfl rfl ?_
        refine r_move rfl rfl ?_
        refine r_pass rfl rfl rfl rfl ?_
        refine r_pass rfl rfl rfl rfl ?_
        refine r_pass rfl rfl rfl rfl ?_
        refine r_pick_t rfl rfl rfl ?_
        refine r_move rfl rfl ?_
        refine r_pass rfl rfl rfl rfl ?_
        refine r_pass rfl rfl rfl rfl ?_
        refine r_pass rfl rfl rfl rfl ?_
        refine r_pick_t rfl rfl rfl ?_
        refine r_move rfl rfl ?_
        refine r_pass rfl rfl rfl rfl ?_
        refine r_pass rfl rfl rfl rfl ?_
        refine r_pass rfl rfl rfl rfl ?_
        refine r_pick_t rfl rfl rfl ?_
        refine r_assign rfl rfl ?_
        refine r_nil ?_
        refine r_tn ?_
        refine r_cond_t rfl ?_
        refine r_seq ?_
        refine r_region ?_
        refine r_assign rfl rfl ?_
        refine r_nil ?_
        refine r_tn ?_
        refine r_ret ?_
        refine r_br ?_
        refine r_tr ?_
        exact r_done1 (.inl rfl) rfl (res_tmp rfl) fun w hw => ⟨congrArg (fun b => Ending.returned (.bool b)) (by
          simp only [decide_eq_true_eq, decide_eq_false_iff_not, Bool.not_eq_true', Bool.not_eq_false', gt_iff_lt, ge_iff_le, ne_eq, Bool.not_true, Bool.not_false] at *
          unfold statusB
          repeat' split
          all_goals first | omega | (simp only [decide_eq_decide, decide_eq_true_eq, decide_eq_false_iff_not, Bool.false_eq, Bool.true_eq]; omega) | rfl), hw.clear⟩
      · refine r_go rfl rfl ?_
        refine r_fieldAddr (off := 0) (o' := 0) rfl rfl rfl rfl ?_
        refine r_go rfl rfl ?_
        refine r_load1 rfl rfl rfl (by rfl) ?_
        refine r_go rfl rfl ?_
        refine r_gtr rfl rfl rfl rfl ?_
        refine r_pick_f rfl rfl rfl ?_
        refine r_move rfl rfl ?_
        refine r_split 30 rfl (fun hb30 => ?_) (fun hb30 => ?_)
        · refine r_pass rfl rfl rfl rfl ?_
          refine r_pass rfl rfl rfl rfl ?_
          refine r_pass rfl rfl rfl rfl ?_
          refine r_pick_t rfl rfl rfl ?_
          refine r_move rfl rfl ?_
          refine r_pass rfl rfl rfl rfl ?_
          refine r_pass rfl rfl rfl rfl ?_
          refine r_pass rfl rfl rfl rfl ?_
          refine r_pick_t rfl rfl rfl ?_
          refine r_move rfl rfl ?_
          refine r_pass rfl rfl rfl rfl ?_
          refine r_pass rfl rfl rfl rfl ?_
          refine r_pass rfl rfl rfl rfl ?_
          refine r_pick_t rfl rfl rfl ?_
          refine r_move rfl rfl ?_
          refine r_pass rfl rfl rfl rfl ?_
          refine r_pass rfl rfl rfl rfl ?_
          refine r_pass rfl rfl rfl rfl ?_
          refine r_pick_t rfl rfl rfl ?_
          refine r_assign rfl rfl ?_
          refine r_nil ?_
          refine r_tn ?_
          refine r_cond_t rfl ?_
          refine r_seq ?_
          refine r_region ?_
          refine r_assign rfl rfl ?_
          refine r_nil ?_
          refine r_tn ?_
          refine r_ret ?_
          refine r_br ?_
          refine r_tr ?_
          exact r_done1 (.inl rfl) rfl (res_tmp rfl) fun w hw => ⟨congrArg (fun b => Ending.returned (.bool b)) (by
            simp only [decide_eq_true_eq, decide_eq_false_iff_not, Bool.not_eq_true', Bool.not_eq_false', gt_iff_lt, ge_iff_le, ne_eq, Bool.not_true, Bool.not_false] at *
            unfold statusB
            repeat' split
            all_goals first | omega | (simp only [decide_eq_decide, decide_eq_true_eq, decide_eq_false_iff_not, Bool.false_eq, Bool.true_eq]; omega) | rfl), hw.clear⟩
        · refine r_go rfl rfl ?_
          refine r_fieldAddr (off := 2) (o' := 2) rfl rfl rfl rfl ?_
          refine r_go rfl rfl ?_
          refine r_load1 rfl rfl rfl (by rfl) ?_
          refine r_go rfl rfl ?_
          refine r_lss rfl rfl rfl rfl ?_
          refine r_pick_f rfl rfl rfl ?_
          refine r_move rfl rfl ?_
          refine r_split 35 rfl (fun hb35 => ?_) (fun hb35 => ?_)
          · refine r_pass rfl rfl rfl rfl ?_
            refine r_pass rfl rfl rfl rfl ?_
            refine r_pass rfl rfl rfl rfl ?_
            refine r_pick_t rfl rfl rfl ?_
            refine r_move rfl rfl ?_
            refine r_pass rfl rfl rfl rfl ?_
            refine r_pass rfl rfl rfl rfl ?_
            refine r_pass rfl rfl rfl rfl ?_
            refine r_pick_t rfl rfl rfl ?_
            refine r_move rfl rfl ?_
            refine r_pass rfl rfl rfl rfl ?_
            refine r_pass rfl rfl rfl rfl ?_
            refine r_pass rfl rfl rfl rfl ?_
            refine r_pick_t rfl rfl rfl ?_
            refine r_assign rfl rfl ?_
            refine r_nil ?_
            refine r_tn ?_
            refine r_cond_t rfl ?_
            refine r_seq ?_
            refine r_region ?_
            refine r_assign rfl rfl ?_
            refine r_nil ?_
            refine r_tn ?_
            refine r_ret ?_
            refine r_br ?_
            refine r_tr ?_
            exact r_done1 (.inl rfl) rfl (res_tmp rfl) fun w hw => ⟨congrArg (fun b => Ending.returned (.bool b)) (by
              simp only [decide_eq_true_eq, decide_eq_false_iff_not, Bool.not_eq_true', Bool.not_eq_false', gt_iff_lt, ge_iff_le, ne_eq, Bool.not_true, Bool.not_false] at *
              unfold statusB
              repeat' split
              all_goals first | omega | (simp only [decide_eq_decide, decide_eq_true_eq, decide_eq_false_iff_not, Bool.false_eq, Bool.true_eq]; omega) | rfl), hw.clear⟩
          · refine r_go rfl rfl ?_
            refine r_fieldAddr (off := 2) (o' := 2) rfl rfl rfl rfl ?_
            refine r_go rfl rfl ?_
            refine r_load1 rfl rfl rfl (by rfl) ?_
            refine r_go rfl rfl ?_
            refine r_geq rfl rfl rfl rfl ?_
            refine r_pick_f rfl rfl rfl ?_
            refine r_move rfl rfl ?_
            refine r_split 40 rfl (fun hb40 => ?_) (fun hb40 => ?_)
            · refine r_pass rfl rfl rfl rfl ?_
              refine r_pass rfl rfl rfl rfl ?_
              refine r_pass rfl rfl rfl rfl ?_
              refine r_pick_t rfl rfl rfl ?_
              refine r_move rfl rfl ?_
              refine r_pass rfl rfl rfl rfl ?_
              refine r_pass rfl rfl rfl rfl ?_
              refine r_pass rfl rfl rfl rfl ?_
              refine r_pick_t rfl rfl rfl ?_
              refine r_assign rfl rfl ?_
              refine r_nil ?_
              refine r_tn ?_
              refine r_cond_t rfl ?_
              refine r_seq ?_
              refine r_region ?_
              refine r_assign rfl rfl ?_
              refine r_nil ?_
              refine r_tn ?_
              refine r_ret ?_
              refine r_br ?_
              refine r_tr ?_
              exact r_done1 (.inl rfl) rfl (res_tmp rfl) fun w hw => ⟨congrArg (fun b => Ending.returned (.bool b)) (by
                simp only [decide_eq_true_eq, decide_eq_false_iff_not, Bool.not_eq_true', Bool.not_eq_false', gt_iff_lt, ge_iff_le, ne_eq, Bool.not_true, Bool.not_false] at *
                unfold statusB
                repeat' split
                all_goals first | omega | (simp only [decide_eq_decide, decide_eq_true_eq, decide_eq_false_iff_not, Bool.false_eq, Bool.true_eq]; omega) | rfl), hw.clear⟩
            · refine r_go rfl rfl ?_
              refine r_fieldAddr (off := 3) (o' := 3) rfl rfl rfl rfl ?_
              refine r_go rfl rfl ?_
              refine r_load1 rfl rfl rfl (by rfl) ?_
              refine r_go rfl rfl ?_
              refine r_lss rfl rfl rfl rfl ?_
              refine r_pick_f rfl rfl rfl ?_
              refine r_move rfl rfl ?_
              refine r_split 45 rfl (fun hb45 => ?_) (fun hb45 => ?_)
              · refine r_pass rfl rfl rfl rfl ?_
                refine r_pass rfl rfl rfl rfl ?_
                refine r_pass rfl rfl rfl rfl ?_
                refine r_pick_t rfl rfl rfl ?_
                refine r_assign rfl rfl ?_
                refine r_nil ?_
                refine r_tn ?_
                refine r_cond_t rfl ?_
                refine r_seq ?_
                refine r_region ?_
                refine r_assign rfl rfl ?_
                refine r_nil ?_
                refine r_tn ?_
                refine r_ret ?_
                refine r_br ?_
                refine r_tr ?_
                exact r_done1 (.inl rfl) rfl (res_tmp rfl) fun w hw => ⟨congrArg (fun b => Ending.returned (.bool b)) (by
                  simp only [decide_eq_true_eq, decide_eq_false_iff_not, Bool.not_eq_true', Bool.not_eq_false', gt_iff_lt, ge_iff_le, ne_eq, Bool.not_true, Bool.not_false] at *
                  unfold statusB
                  repeat' split
                  all_goals first | omega | (simp only [decide_eq_decide, decide_eq_true_eq, decide_eq_false_iff_not, Bool.false_eq, Bool.true_eq]; omega) | rfl), hw.clear⟩
              · refine r_go rfl rfl ?_
                refine r_fieldAddr (off := 3) (o' := 3) rfl rfl rfl rfl ?_
                refine r_go rfl rfl ?_
                refine r_load1 rfl rfl rfl (by rfl) ?_
                refine r_go rfl rfl ?_
                refine r_gtr rfl rfl rfl rfl ?_
                refine r_pick_f rfl rfl rfl ?_
                refine r_assign rfl rfl ?_
                refine r_nil ?_
                refine r_tn ?_
                refine r_cond rfl (fun hc => ?_) (fun hc => ?_)
                · refine r_seq ?_
                  refine r_region ?_
                  refine r_assign rfl rfl ?_
                  refine r_nil ?_
                  refine r_tn ?_
                  refine r_ret ?_
                  refine r_br ?_
                  refine r_tr ?_
                  exact r_done1 (.inl rfl) rfl (res_tmp rfl) fun w hw => ⟨congrArg (fun b => Ending.returned (.bool b)) (by
                    simp only [decide_eq_true_eq, decide_eq_false_iff_not, Bool.not_eq_true', Bool.not_eq_false', gt_iff_lt, ge_iff_le, ne_eq, Bool.not_true, Bool.not_false] at *
                    unfold statusB
                    repeat' split
                    all_goals first | omega | (simp only [decide_eq_decide, decide_eq_true_eq, decide_eq_false_iff_not, Bool.false_eq, Bool.true_eq]; omega) | rfl), hw.clear⟩
                · refine r_seq ?_
                  refine r_region ?_
                  refine r_move rfl rfl ?_
                  refine r_not rfl rfl rfl ?_
                  refine r_move rfl rfl ?_
                  refine r_split 53 rfl (fun hb53 => ?_) (fun hb53 => ?_)
                  · refine r_go rfl rfl ?_
                    refine r_fieldAddr (off := 2) (o' := 2) rfl rfl rfl rfl ?_
                    refine r_go rfl rfl ?_
                    refine r_load1 rfl rfl rfl (by rfl) ?_
                    refine r_go rfl rfl ?_
                    refine r_neq rfl rfl rfl rfl ?_
                    refine r_go rfl rfl ?_
                    refine r_move rfl rfl ?_
                    refine r_split 57 rfl (fun hb57 => ?_) (fun hb57 => ?_)
                    · refine r_pass rfl rfl rfl rfl ?_
                      refine r_pass rfl rfl rfl rfl ?_
                      refine r_pass rfl rfl rfl rfl ?_
                      refine r_go rfl rfl ?_
                      refine r_pick_t rfl rfl rfl ?_
                      refine r_pick_t rfl rfl rfl ?_
                      refine r_assign rfl rfl ?_
                      refine r_nil ?_
                      refine r_tn ?_
                      refine r_cond_t rfl ?_
                      refine r_seq ?_
                      refine r_region ?_
                      refine r_assign rfl rfl ?_
                      refine r_nil ?_
                      refine r_tn ?_
                      refine r_ret ?_
                      refine r_br ?_
                      refine r_tr ?_
                      exact r_done1 (.inl rfl) rfl (res_tmp rfl) fun w hw => ⟨congrArg (fun b => Ending.returned (.bool b)) (by
                        simp only [decide_eq_true_eq, decide_eq_false_iff_not, Bool.not_eq_true', Bool.not_eq_false', gt_iff_lt, ge_iff_le, ne_eq, Bool.not_true, Bool.not_false] at *
                        unfold statusB
                        repeat' split
                        all_goals first | omega | (simp only [decide_eq_decide, decide_eq_true_eq, decide_eq_false_iff_not, Bool.false_eq, Bool.true_eq]; omega) | rfl), hw.clear⟩
                    · refine r_go rfl rfl ?_
                      refine r_fieldAddr (off := 3) (o' := 3) rfl rfl rfl rfl ?_
                      refine r_go rfl rfl ?_
                      refine r_load1 rfl rfl rfl (by rfl) ?_
                      refine r_go rfl rfl ?_
                      refine r_neq rfl rfl rfl rfl ?_
                      refine r_go rfl rfl ?_
                      refine r_pick_f rfl rfl rfl ?_
                      refine r_pick_t rfl rfl rfl ?_
                      refine r_assign rfl rfl ?_
                      refine r_nil ?_
                      refine r_tn ?_
                      refine r_cond rfl (fun hc => ?_) (fun hc => ?_)
                      · refine r_seq ?_
                        refine r_region ?_
                        refine r_assign rfl rfl ?_
                        refine r_nil ?_
                        refine r_tn ?_
                        refine r_ret ?_
                        refine r_br ?_
                        refine r_tr ?_
                        exact r_done1 (.inl rfl) rfl (res_tmp rfl) fun w hw => ⟨congrArg (fun b => Ending.returned (.bool b)) (by
                          simp only [decide_eq_true_eq, decide_eq_false_iff_not, Bool.not_eq_true', Bool.not_eq_false', gt_iff_lt, ge_iff_le, ne_eq, Bool.not_true, Bool.not_false] at *
                          unfold statusB
                          repeat' split
                          all_goals first | omega | (simp only [decide_eq_decide, decide_eq_true_eq, decide_eq_false_iff_not, Bool.false_eq, Bool.true_eq]; omega) | rfl), hw.clear⟩
                      · refine r_seq ?_
                        refine r_region ?_
                        refine r_fieldAddr (off := 0) (o' := 0) rfl rfl rfl rfl ?_
                        refine r_load1 rfl rfl rfl (by rfl) ?_
                        refine r_eql rfl rfl rfl rfl ?_
                        refine r_assign rfl rfl ?_
                        refine r_nil ?_
                        refine r_tn ?_
                        refine r_cond rfl (fun hc => ?_) (fun hc => ?_)
                        · refine r_seq ?_
                          refine r_region ?_
                          refine r_move rfl rfl ?_
                          refine r_assign rfl rfl ?_
                          refine r_nil ?_
                          refine r_tn ?_
                          refine r_ret ?_
                          refine r_br ?_
                          refine r_tr ?_
                          exact r_done1 (.inl rfl) rfl (res_tmp rfl) fun w hw => ⟨congrArg (fun b => Ending.returned (.bool b)) (by
                            simp only [decide_eq_true_eq, decide_eq_false_iff_not, Bool.not_eq_true', Bool.not_eq_false', gt_iff_lt, ge_iff_le, ne_eq, Bool.not_true, Bool.not_false] at *
                            unfold statusB
                            repeat' split
                            all_goals first | omega | (simp only [decide_eq_decide, decide_eq_true_eq, decide_eq_false_iff_not, Bool.false_eq, Bool.true_eq]; omega) | rfl), hw.clear⟩
                        · refine r_skip ?_
                          refine r_bn ?_
                          refine r_tn ?_
                          refine r_seq ?_
                          refine r_region ?_
                          refine r_fieldAddr (off := 1) (o' := 1) rfl rfl rfl rfl ?_
                          refine r_load1 rfl rfl rfl (by rfl) ?_
                          refine r_eql rfl rfl rfl rfl ?_
                          refine r_assign rfl rfl ?_
                          refine r_nil ?_
                          refine r_tn ?_
                          refine r_ret ?_
                          exact r_done1 (.inl rfl) rfl (res_tmp rfl) fun w hw => ⟨congrArg (fun b => Ending.returned (.bool b)) (by
                            simp only [decide_eq_true_eq, decide_eq_false_iff_not, Bool.not_eq_true', Bool.not_eq_false', gt_iff_lt, ge_iff_le, ne_eq, Bool.not_true, Bool.not_false] at *
                            unfold statusB
                            repeat' split
                            all_goals first | omega | (simp only [decide_eq_decide, decide_eq_true_eq, decide_eq_false_iff_not, Bool.false_eq, Bool.true_eq]; omega) | rfl), hw.clear⟩
                  · refine r_pass rfl rfl rfl rfl ?_
                    refine r_pass rfl rfl rfl rfl ?_
                    refine r_pass rfl rfl rfl rfl ?_
                    refine r_pass rfl rfl rfl rfl ?_
                    refine r_passU rfl rfl rfl ?_
                    refine r_passU rfl rfl rfl ?_
                    refine r_passU rfl rfl rfl ?_
                    refine r_pass rfl rfl rfl rfl ?_
                    refine r_pick_f rfl rfl rfl ?_
                    refine r_assign rfl rfl ?_
                    refine r_nil ?_
                    refine r_tn ?_
                    refine r_cond_f rfl ?_
                    refine r_seq ?_
                    refine r_region ?_
                    refine r_fieldAddr (off := 0) (o' := 0) rfl rfl rfl rfl ?_
                    refine r_load1 rfl rfl rfl (by rfl) ?_
                    refine r_eql rfl rfl rfl rfl ?_
                    refine r_assign rfl rfl ?_
                    refine r_nil ?_
                    refine r_tn ?_
                    refine r_cond rfl (fun hc => ?_) (fun hc => ?_)
                    · refine r_seq ?_
                      refine r_region ?_
                      refine r_move rfl rfl ?_
                      refine r_assign rfl rfl ?_
                      refine r_nil ?_
                      refine r_tn ?_
                      refine r_ret ?_
                      refine r_br ?_
                      refine r_tr ?_
                      exact r_done1 (.inl rfl) rfl (res_tmp rfl) fun w hw => ⟨congrArg (fun b => Ending.returned (.bool b)) (by
                        simp only [decide_eq_true_eq, decide_eq_false_iff_not, Bool.not_eq_true', Bool.not_eq_false', gt_iff_lt, ge_iff_le, ne_eq, Bool.not_true, Bool.not_false] at *
                        unfold statusB
                        repeat' split
                        all_goals first | omega | (simp only [decide_eq_decide, decide_eq_true_eq, decide_eq_false_iff_not, Bool.false_eq, Bool.true_eq]; omega) | rfl), hw.clear⟩
                    · refine r_skip ?_
                      refine r_bn ?_
                      refine r_tn ?_
                      refine r_seq ?_
                      refine r_region ?_
                      refine r_fieldAddr (off := 1) (o' := 1) rfl rfl rfl rfl ?_
                      refine r_load1 rfl rfl rfl (by rfl) ?_
                      refine r_eql rfl rfl rfl rfl ?_
                      refine r_assign rfl rfl ?_
                      refine r_nil ?_
                      refine r_tn ?_
                      refine r_ret ?_
                      exact r_done1 (.inl rfl) rfl (res_tmp rfl) fun w hw => ⟨congrArg (fun b => Ending.returned (.bool b)) (by
                        simp only [decide_eq_true_eq, decide_eq_false_iff_not, Bool.not_eq_true', Bool.not_eq_false', gt_iff_lt, ge_iff_le, ne_eq, Bool.not_true, Bool.not_false] at *
                        unfold statusB
                        repeat' split
                        all_goals first | omega | (simp only [decide_eq_decide, decide_eq_true_eq, decide_eq_false_iff_not, Bool.false_eq, Bool.true_eq]; omega) | rfl), hw.clear⟩
    · refine r_pass rfl rfl rfl rfl ?_
      refine r_pass rfl rfl rfl rfl ?_
      refine r_pass rfl rfl rfl rfl ?_
      refine r_pick_f rfl rfl rfl ?_
      refine r_assign rfl rfl ?_
      refine r_nil ?_
      refine r_tn ?_
      refine r_seq ?_
      refine r_block ?_
      refine r_seq ?_
      refine r_region ?_
      refine r_fieldAddr (off := 0) (o' := 0) rfl rfl rfl rfl ?_
      refine r_load1 rfl rfl rfl (by rfl) ?_
      refine r_lss rfl rfl rfl rfl ?_
      refine r_move rfl rfl ?_
      refine r_split 25 rfl (fun hb25 => ?_) (fun hb25 => ?_)
      · refine r_pass rfl rfl rfl rfl ?_
        refine r_pass rfl rfl rfl rfl ?_
        refine r_pass rfl rfl rfl rfl ?_
        refine r_pick_t rfl rfl rfl ?_
        refine r_move rfl rfl ?_
        refine r_pass rfl rfl rfl rfl ?_
        refine r_pass rfl rfl rfl rfl ?_
        refine r_pass rfl rfl rfl rfl ?_
        refine r_pick_t rfl rfl rfl ?_
        refine r_move rfl rfl ?_
        refine r_pass rfl rfl rfl rfl ?_
        refine r_pass rfl rfl rfl rfl ?_
        refine r_pass rfl rfl rfl rfl ?_
        refine r_pick_t rfl rfl rfl ?_
        refine r_move rfl rfl ?_
        refine r_pass rfl rfl rfl rfl ?_
        refine r_pass rfl rfl rfl rfl ?_
        refine r_pass rfl rfl rfl rfl ?_
        refine r_pick_t rfl rfl rfl ?_
        refine r_move rfl rfl ?_
        refine r_pass rfl rfl rfl rfl ?_
        refine r_pass rfl rfl rfl rfl ?_
        refine r_pass rfl rfl rfl rfl ?_
        refine r_pick_t rfl rfl rfl ?_
        refine r_assign rfl rfl ?_
        refine r_nil ?_
        refine r_tn ?_
        refine r_cond_t rfl ?_
        refine r_seq ?_
        refine r_region ?_
        refine r_assign rfl rfl ?_
        refine r_nil ?_
        refine r_tn ?_
        refine r_ret ?_
        refine r_br ?_
        refine r_tr ?_
        exact r_done1 (.inl rfl) rfl (res_tmp rfl) fun w hw => ⟨congrArg (fun b => Ending.returned (.bool b)) (by
          simp only [decide_eq_true_eq, decide_eq_false_iff_not, Bool.not_eq_true', Bool.not_eq_false', gt_iff_lt, ge_iff_le, ne_eq, Bool.not_true, Bool.not_false] at *
          unfold statusB
          repeat' split
          all_goals first | omega | (simp only [decide_eq_decide, decide_eq_true_eq, decide_eq_false_iff_not, Bool.false_eq, Bool.true_eq]; omega) | rfl), hw.clear⟩
      · refine r_go rfl rfl ?_
        refine r_fieldAddr (off := 0) (o' := 0) rfl rfl rfl rfl ?_
        refine r_go rfl rfl ?_
        refine r_load1 rfl rfl rfl (by rfl) ?_
        refine r_go rfl rfl ?_
        refine r_gtr rfl rfl rfl rfl ?_
        refine r_pick_f rfl rfl rfl ?_
        refine r_move rfl rfl ?_
        refine r_split 30 rfl (fun hb30 => ?_) (fun hb30 => ?_)
        · refine r_pass rfl rfl rfl rfl ?_
          refine r_pass rfl rfl rfl rfl ?_
          refine r_pass rfl rfl rfl rfl ?_
          refine r_pick_t rfl rfl rfl ?_
          refine r_move rfl rfl ?_
          refine r_pass rfl rfl rfl rfl ?_
          refine r_pass rfl rfl rfl rfl ?_
          refine r_pass rfl rfl rfl rfl ?_
          refine r_pick_t rfl rfl rfl ?_
          refine r_move rfl rfl ?_
          refine r_pass rfl rfl rfl rfl ?_
          refine r_pass rfl rfl rfl rfl ?_
          refine r_pass rfl rfl rfl rfl ?_
          refine r_pick_t rfl rfl rfl ?_
          refine r_move rfl rfl ?_
          refine r_pass rfl rfl rfl rfl ?_
          refine r_pass rfl rfl rfl rfl ?_
          refine r_pass rfl rfl rfl rfl ?_
          refine r_pick_t rfl rfl rfl ?_
          refine r_assign rfl rfl ?_
          refine r_nil ?_
          refine r_tn ?_
          refine r_cond_t rfl ?_
          refine r_seq ?_
          refine r_region ?_
          refine r_assign rfl rfl ?_
          refine r_nil ?_
          refine r_tn ?_
          refine r_ret ?_
          refine r_br ?_
          refine r_tr ?_
          exact r_done1 (.inl rfl) rfl (res_tmp rfl) fun w hw => ⟨congrArg (fun b => Ending.returned (.bool b)) (by
            simp only [decide_eq_true_eq, decide_eq_false_iff_not, Bool.not_eq_true', Bool.not_eq_false', gt_iff_lt, ge_iff_le, ne_eq, Bool.not_true, Bool.not_false] at *
            unfold statusB
            repeat' split
            all_goals first | omega | (simp only [decide_eq_decide, decide_eq_true_eq, decide_eq_false_iff_not, Bool.false_eq, Bool.true_eq]; omega) | rfl), hw.clear⟩
        · refine r_go rfl rfl ?_
          refine r_fieldAddr (off := 2) (o' := 2) rfl rfl rfl rfl ?_
          refine r_go rfl rfl ?_
          refine r_load1 rfl rfl rfl (by rfl) ?_
          refine r_go rfl rfl ?_
          refine r_lss rfl rfl rfl rfl ?_
          refine r_pick_f rfl rfl rfl ?_
          refine r_move rfl rfl ?_
          refine r_split 35 rfl (fun hb35 => ?_) (fun hb35 => ?_)
          · refine r_pass rfl rfl rfl rfl ?_
            refine r_pass rfl rfl rfl rfl ?_
            refine r_pass rfl rfl rfl rfl ?_
            refine r_pick_t rfl rfl rfl ?_
            refine r_move rfl rfl ?_
            refine r_pass rfl rfl rfl rfl ?_
            refine r_pass rfl rfl rfl rfl ?_
            refine r_pass rfl rfl rfl rfl ?_
            refine r_pick_t rfl rfl rfl ?_
            refine r_move rfl rfl ?_
            refine r_pass rfl rfl rfl rfl ?_
            refine r_pass rfl rfl rfl rfl ?_
            refine r_pass rfl rfl rfl rfl ?_
            refine r_pick_t rfl rfl rfl ?_
            refine r_assign rfl rfl ?_
            refine r_nil ?_
            refine r_tn ?_
            refine r_cond_t rfl ?_
            refine r_seq ?_
            refine r_region ?_
            refine r_assign rfl rfl ?_
            refine r_nil ?_
            refine r_tn ?_
            refine r_ret ?_
            refine r_br ?_
            refine r_tr ?_
            exact r_done1 (.inl rfl) rfl (res_tmp rfl) fun w hw => ⟨congrArg (fun b => Ending.returned (.bool b)) (by
              simp only [decide_eq_true_eq, decide_eq_false_iff_not, Bool.not_eq_true', Bool.not_eq_false', gt_iff_lt, ge_iff_le, ne_eq, Bool.not_true, Bool.not_false] at *
              unfold statusB
              repeat' split
              all_goals first | omega | (simp only [decide_eq_decide, decide_eq_true_eq, decide_eq_false_iff_not, Bool.false_eq, Bool.true_eq]; omega) | rfl), hw.clear⟩
          · refine r_go rfl rfl ?_
            refine r_fieldAddr (off := 2) (o' := 2) rfl rfl rfl rfl ?_
            refine r_go rfl rfl ?_
            refine r_load1 rfl rfl rfl (by rfl) ?_
            refine r_go rfl rfl ?_
            refine r_geq rfl rfl rfl rfl ?_
            refine r_pick_f rfl rfl rfl ?_
            refine r_move rfl rfl ?_
            refine r_split 40 rfl (fun hb40 => ?_) (fun hb40 => ?_)
            · refine r_pass rfl rfl rfl rfl ?_
              refine r_pass rfl rfl rfl rfl ?_
              refine r_pass rfl rfl rfl rfl ?_
              refine r_pick_t rfl rfl rfl ?_
              refine r_move rfl rfl ?_
              refine r_pass rfl rfl rfl rfl ?_
              refine r_pass rfl rfl rfl rfl ?_
              refine r_pass rfl rfl rfl rfl ?_
              refine r_pick_t rfl rfl rfl ?_
              refine r_assign rfl rfl ?_
              refine r_nil ?_
              refine r_tn ?_
              refine r_cond_t rfl ?_
              refine r_seq ?_
              refine r_region ?_
              refine r_assign rfl rfl ?_
              refine r_nil ?_
              refine r_tn ?_
              refine r_ret ?_
              refine r_br ?_
              refine r_tr ?_
              exact r_done1 (.inl rfl) rfl (res_tmp rfl) fun w hw => ⟨congrArg (fun b => Ending.returned (.bool b)) (by
                simp only [decide_eq_true_eq, decide_eq_false_iff_not, Bool.not_eq_true', Bool.not_eq_false', gt_iff_lt, ge_iff_le, ne_eq, Bool.not_true, Bool.not_false] at *
                unfold statusB
                repeat' split
                all_goals first | omega | (simp only [decide_eq_decide, decide_eq_true_eq, decide_eq_false_iff_not, Bool.false_eq, Bool.true_eq]; omega) | rfl), hw.clear⟩
            · refine r_go rfl rfl ?_
              refine r_fieldAddr (off := 3) (o' := 3) rfl rfl rfl rfl ?_
              refine r_go rfl rfl ?_
              refine r_load1 rfl rfl rfl (by rfl) ?_
              refine r_go rfl rfl ?_
              refine r_lss rfl rfl rfl rfl ?_
              refine r_pick_f rfl rfl rfl ?_
              refine r_move rfl rfl ?_
              refine r_split 45 rfl (fun hb45 => ?_) (fun hb45 => ?_)
              · refine r_pass rfl rfl rfl rfl ?_
                refine r_pass rfl rfl rfl rfl ?_
                refine r_pass rfl rfl rfl rfl ?_
                refine r_pick_t rfl rfl rfl ?_
                refine r_assign rfl rfl ?_
                refine r_nil ?_
                refine r_tn ?_
                refine r_cond_t rfl ?_
                refine r_seq ?_
                refine r_region ?_
                refine r_assign rfl rfl ?_
                refine r_nil ?_
                refine r_tn ?_
                refine r_ret ?_
                refine r_br ?_
                refine r_tr ?_
                exact r_done1 (.inl rfl) rfl (res_tmp rfl) fun w hw => ⟨congrArg (fun b => Ending.returned (.bool b)) (by
                  simp only [decide_eq_true_eq, decide_eq_false_iff_not, Bool.not_eq_true', Bool.not_eq_false', gt_iff_lt, ge_iff_le, ne_eq, Bool.not_true, Bool.not_false] at *
                  unfold statusB
                  repeat' split
                  all_goals first | omega | (simp only [decide_eq_decide, decide_eq_true_eq, decide_eq_false_iff_not, Bool.false_eq, Bool.true_eq]; omega) | rfl), hw.clear⟩
              · refine r_go rfl rfl ?_
                refine r_fieldAddr (off := 3) (o' := 3) rfl rfl rfl rfl ?_
                refine r_go rfl rfl ?_
                refine r_load1 rfl rfl rfl (by rfl) ?_
                refine r_go rfl rfl ?_
                refine r_gtr rfl rfl rfl rfl ?_
                refine r_pick_f rfl rfl rfl ?_
                refine r_assign rfl rfl ?_
                refine r_nil ?_
                refine r_tn ?_
                refine r_cond rfl (fun hc => ?_) (fun hc => ?_)
                · refine r_seq ?_
                  refine r_region ?_
                  refine r_assign rfl rfl ?_
                  refine r_nil ?_
                  refine r_tn ?_
                  refine r_ret ?_
                  refine r_br ?_
                  refine r_tr ?_
                  exact r_done1 (.inl rfl) rfl (res_tmp rfl) fun w hw => ⟨congrArg (fun b => Ending.returned (.bool b)) (by
                    simp only [decide_eq_true_eq, decide_eq_false_iff_not, Bool.not_eq_true', Bool.not_eq_false', gt_iff_lt, ge_iff_le, ne_eq, Bool.not_true, Bool.not_false] at *
                    unfold statusB
                    repeat' split
                    all_goals first | omega | (simp only [decide_eq_decide, decide_eq_true_eq, decide_eq_false_iff_not, Bool.false_eq, Bool.true_eq]; omega) | rfl), hw.clear⟩
                · refine r_seq ?_
                  refine r_region ?_
                  refine r_move rfl rfl ?_
                  refine r_not rfl rfl rfl ?_
                  refine r_move rfl rfl ?_
                  refine r_split 53 rfl (fun hb53 => ?_) (fun hb53 => ?_)
                  · refine r_go rfl rfl ?_
                    refine r_fieldAddr (off := 2) (o' := 2) rfl rfl rfl rfl ?_
                    refine r_go rfl rfl ?_
                    refine r_load1 rfl rfl rfl (by rfl) ?_
                    refine r_go rfl rfl ?_
                    refine r_neq rfl rfl rfl rfl ?_
                    refine r_go rfl rfl ?_
                    refine r_move rfl rfl ?_
                    refine r_split 57 rfl (fun hb57 => ?_) (fun hb57 => ?_)
                    · refine r_pass rfl rfl rfl rfl ?_
                      refine r_pass rfl rfl rfl rfl ?_
                      refine r_pass rfl rfl rfl rfl ?_
                      refine r_go rfl rfl ?_
                      refine r_pick_t rfl rfl rfl ?_
                      refine r_pick_t rfl rfl rfl ?_
                      refine r_assign rfl rfl ?_
                      refine r_nil ?_
                      refine r_tn ?_
                      refine r_cond_t rfl ?_
                      refine r_seq ?_
                      refine r_region ?_
                      refine r_assign rfl rfl ?_
                      refine r_nil ?_
                      refine r_tn ?_
                      refine r_ret ?_
                      refine r_br ?_
                      refine r_tr ?_
                      exact r_done1 (.inl rfl) rfl (res_tmp rfl) fun w hw => ⟨congrArg (fun b => Ending.returned (.bool b)) (by
                        simp only [decide_eq_true_eq, decide_eq_false_iff_not, Bool.not_eq_true', Bool.not_eq_false', gt_iff_lt, ge_iff_le, ne_eq, Bool.not_true, Bool.not_false] at *
                        unfold statusB
                        repeat' split
                        all_goals first | omega | (simp only [decide_eq_decide, decide_eq_true_eq, decide_eq_false_iff_not, Bool.false_eq, Bool.true_eq]; omega) | rfl), hw.clear⟩
                    · refine r_go rfl rfl ?_
                      refine r_fieldAddr (off := 3) (o' := 3) rfl rfl rfl rfl ?_
                      refine r_go rfl rfl ?_
                      refine r_load1 rfl rfl rfl (by rfl) ?_
                      refine r_go rfl rfl ?_
                      refine r_neq rfl rfl rfl rfl ?_
                      refine r_go rfl rfl ?_
                      refine r_pick_f rfl rfl rfl ?_
                      refine r_pick_t rfl rfl rfl ?_
                      refine r_assign rfl rfl ?_
                      refine r_nil ?_
                      refine r_tn ?_
                      refine r_cond rfl (fun hc => ?_) (fun hc => ?_)
                      · refine r_seq ?_
                        refine r_region ?_
                        refine r_assign rfl rfl ?_
                        refine r_nil ?_
                        refine r_tn ?_
                        refine r_ret ?_
                        refine r_br ?_
                        refine r_tr ?_
                        exact r_done1 (.inl rfl) rfl (res_tmp rfl) fun w hw => ⟨congrArg (fun b => Ending.returned (.bool b)) (by
                          simp only [decide_eq_true_eq, decide_eq_false_iff_not, Bool.not_eq_true', Bool.not_eq_false', gt_iff_lt, ge_iff_le, ne_eq, Bool.not_true, Bool.not_false] at *
                          unfold statusB
                          repeat' split
                          all_goals first | omega | (simp only [decide_eq_decide, decide_eq_true_eq, decide_eq_false_iff_not, Bool.false_eq, Bool.true_eq]; omega) | rfl), hw.clear⟩
                      · refine r_seq ?_
                        refine r_region ?_
                        refine r_fieldAddr (off := 0) (o' := 0) rfl rfl rfl rfl ?_
                        refine r_load1 rfl rfl rfl (by rfl) ?_
                        refine r_eql rfl rfl rfl rfl ?_
                        refine r_assign rfl rfl ?_
                        refine r_nil ?_
                        refine r_tn ?_
                        refine r_cond rfl (fun hc => ?_) (fun hc => ?_)
                        · refine r_seq ?_
                          refine r_region ?_
                          refine r_move rfl rfl ?_
                          refine r_assign rfl rfl ?_
                          refine r_nil ?_
                          refine r_tn ?_
                          refine r_ret ?_
                          refine r_br ?_
                          refine r_tr ?_
                          exact r_done1 (.inl rfl) rfl (res_tmp rfl) fun w hw => ⟨congrArg (fun b => Ending.returned (.bool b)) (by
                            simp only [decide_eq_true_eq, decide_eq_false_iff_not, Bool.not_eq_true', Bool.not_eq_false', gt_iff_lt, ge_iff_le, ne_eq, Bool.not_true, Bool.not_false] at *
                            unfold statusB
                            repeat' split
                            all_goals first | omega | (simp only [decide_eq_decide, decide_eq_true_eq, decide_eq_false_iff_not, Bool.false_eq, Bool.true_eq]; omega) | rfl), hw.clear⟩
                        · refine r_skip ?_
                          refine r_bn ?_
                          refine r_tn ?_
                          refine r_seq ?_
                          refine r_region ?_
                          refine r_fieldAddr (off := 1) (o' := 1) rfl rfl rfl rfl ?_
                          refine r_load1 rfl rfl rfl (by rfl) ?_
                          refine r_eql rfl rfl rfl rfl ?_
                          refine r_assign rfl rfl ?_
                          refine r_nil ?_
                          refine r_tn ?_
                          refine r_ret ?_
                          exact r_done1 (.inl rfl) rfl (res_tmp rfl) fun w hw => ⟨congrArg (fun b => Ending.returned (.bool b)) (by
                            simp only [decide_eq_true_eq, decide_eq_false_iff_not, Bool.not_eq_true', Bool.not_eq_false', gt_iff_lt, ge_iff_le, ne_eq, Bool.not_true, Bool.not_false] at *
                            unfold statusB
                            repeat' split
                            all_goals first | omega | (simp only [decide_eq_decide, decide_eq_true_eq, decide_eq_false_iff_not, Bool.false_eq, Bool.true_eq]; omega) | rfl), hw.clear⟩
                  · refine r_pass rfl rfl rfl rfl ?_
                    refine r_pass rfl rfl rfl rfl ?_
                    refine r_pass rfl rfl rfl rfl ?_
                    refine r_pass rfl rfl rfl rfl ?_
                    refine r_passU rfl rfl rfl ?_
                    refine r_passU rfl rfl rfl ?_
                    refine r_passU rfl rfl rfl ?_
                    refine r_pass rfl rfl rfl rfl ?_
                    refine r_pick_f rfl rfl rfl ?_
                    refine r_assign rfl rfl ?_
                    refine r_nil ?_
                    refine r_tn ?_
                    refine r_cond_f rfl ?_
                    refine r_seq ?_
                    refine r_region ?_
                    refine r_fieldAddr (off := 0) (o' := 0) rfl rfl rfl rfl ?_
                    refine r_load1 rfl rfl rfl (by rfl) ?_
                    refine r_eql rfl rfl rfl rfl ?_
                    refine r_assign rfl rfl ?_
                    refine r_nil ?_
                    refine r_tn ?_
                    refine r_cond rfl (fun hc => ?_) (fun hc => ?_)
                    · refine r_seq ?_
                      refine r_region ?_
                      refine r_move rfl rfl ?_
                      refine r_assign rfl rfl ?_
                      refine r_nil ?_
                      refine r_tn ?_
                      refine r_ret ?_
                      refine r_br ?_
                      refine r_tr ?_
                      exact r_done1 (.inl rfl) rfl (res_tmp rfl) fun w hw => ⟨congrArg (fun b => Ending.returned (.bool b)) (by
                        simp only [decide_eq_true_eq, decide_eq_false_iff_not, Bool.not_eq_true', Bool.not_eq_false', gt_iff_lt, ge_iff_le, ne_eq, Bool.not_true, Bool.not_false] at *
                        unfold statusB
                        repeat' split
                        all_goals first | omega | (simp only [decide_eq_decide, decide_eq_true_eq, decide_eq_false_iff_not, Bool.false_eq, Bool.true_eq]; omega) | rfl), hw.clear⟩
                    · refine r_skip ?_
                      refine r_bn ?_
                      refine r_tn ?_
                      refine r_seq ?_
                      refine r_region ?_
                      refine r_fieldAddr (off := 1) (o' := 1) rfl rfl rfl rfl ?_
                      refine r_load1 rfl rfl rfl (by rfl) ?_
                      refine r_eql rfl rfl rfl rfl ?_
                      refine r_assign rfl rfl ?_
                      refine r_nil ?_
                      refine r_tn ?_
                      refine r_ret ?_
                      exact r_done1 (.inl rfl) rfl (res_tmp rfl) fun w hw => ⟨congrArg (fun b => Ending.returned (.bool b)) (by
                        simp only [decide_eq_true_eq, decide_eq_false_iff_not, Bool.not_eq_true', Bool.not_eq_false', gt_iff_lt, ge_iff_le, ne_eq, Bool.not_true, Bool.not_false] at *
                        unfold statusB
                        repeat' split
                        all_goals first | omega | (simp only [decide_eq_decide, decide_eq_true_eq, decide_eq_false_iff_not, Bool.false_eq, Bool.true_eq]; omega) | rfl), hw.clear⟩
end
section
open Go Go.RowKit
set_option linter.unusedVariables false
set_option linter.unusedSimpArgs false
set_option maxHeartbeats 2000000
set_option maxRecDepth 4000
attribute [local irreducible] mix

theorem fitsK_no (P : Nat → Nat → Nat → Bool) (hires : Bool) {k : Nat} (h : fitsB (P k) hires = false) : ∀ m, k < m → fitsK P hires m = false
  | 0, hk => by omega
  | m + 1, hk => by
    simp only [fitsK]
    by_cases e : k = m
    · subst e; rw [h, Bool.and_false]
    · rw [fitsK_no P hires h m (by omega)]; rfl
theorem valid_no (r : Rec) {k : Nat} (hk : k < 4) (h : fitsB (r.P k) r.hires = false) : validR r = false := by
  unfold validR; rw [fitsK_no r.P r.hires h 4 hk]; rfl

theorem valid23 (r : Rec) (w : World) (hp : r.pat.length = 16) :
    Calls Try.prog 11 #[.agg (recV r)] w fun e w' => e = .returned (.bool (validR r)) ∧ Sat w [] [] w' := by
  refine enter Try.func11 rfl rfl rfl ?_
  refine r_seq ?_
  refine r_region ?_
  refine r_boxV rfl rfl fun b1 => ?_
  refine r_assign rfl rfl ?_
  refine r_nil ?_
  refine r_tn ?_
  refine r_seq ?_
  refine r_seq ?_
  refine r_region ?_
  refine r_fieldAddr (off := 0) (o' := 0) rfl rfl rfl rfl ?_
  refine r_loadN (m := 512) (vs := planesV r.P) rfl rfl rfl rfl (by rw [recV_size hp]; omega) (rec_planes r hp) ?_
  refine r_move rfl rfl ?_
  refine r_nil ?_
  refine r_tn ?_
  refine r_block ?_
  refine r_loopN (fun k => [(1, .pointer (some ⟨b1, 0, none⟩)), (6, .agg (planesV r.P)), (7, .int .i64 (k : Int))]) (fun k => [.blk b1 (.cells (recV r) 48 (0, 0))]) (fun k => k ≤ 4 ∧ fitsK r.P r.hires k = true) 4 0 ⟨by omega, rfl⟩ ⟨rfl, rfl, rfl, trivial⟩ (fun w hw => hw.sub) fun k hk => ?_
  obtain ⟨hk, hf⟩ := hk
  refine r_seq ?_
  refine r_region ?_
  refine r_lss rfl rfl rfl rfl ?_
  refine r_nil ?_
  refine r_tn ?_
  refine r_seq ?_
  refine r_cond rfl (fun hc => ?_) (fun hc => ?_)
  · refine r_skip ?_
    refine r_tn ?_
    refine r_seq ?_
    refine r_block ?_
    refine r_seq ?_
    refine r_region ?_
    have hk2 : k < 4 := by have h := of_decide_eq_true hc; omega
    refine r_indexAgg (i' := k) (sz := 128) (vs := planeV (r.P k)) rfl rfl rfl rfl rfl rfl rfl hk2 (planesV_plane r.P hk2) ?_
    refine r_allocV (cs := planeV noneQ) (by kernel_rfl) rfl fun b4 => ?_
    refine r_storeV rfl rfl rfl (planeV_size _) (planeV_size _) (planeV_one _) ?_
    refine r_nil ?_
    refine r_tn ?_
    refine r_seq ?_
    refine r_region ?_
    refine r_loadV rfl rfl rfl rfl (planeV_size _) ?_
    refine r_fieldAddr (off := 512) (o' := 512) rfl rfl rfl rfl ?_
    refine r_load1 rfl rfl rfl (rec_hires r) ?_
    refine r_call rfl rfl rfl (by kernel_rfl) rfl (fun w hw => by exact fits23 (r.P k) r.hires w) ?_
    refine r_not rfl rfl rfl ?_
    refine r_nil ?_
    refine r_tn ?_
    refine r_cond rfl (fun hc => ?_) (fun hc => ?_)
    · refine r_seq ?_
      refine r_region ?_
      refine r_assign rfl rfl ?_
      refine r_nil ?_
      refine r_tn ?_
      refine r_ret ?_
      refine r_br ?_
      refine r_tr ?_
      refine r_tr ?_
      refine r_br ?_
      refine r_tr ?_
      exact r_done1 (.inl rfl) rfl (res_tmp rfl) fun w hw => ⟨by rw [show validR r = false from valid_no r hk2 (by simpa using hc)], hw.clear⟩
    · refine r_skip ?_
      refine r_bn ?_
      refine r_tn ?_
      refine r_region ?_
      refine r_add rfl rfl rfl (w64 (by omega)) ?_
      refine r_move rfl rfl ?_
      refine r_nil ?_
      refine r_tn ?_
      exact r_againN (k + 1) ⟨by omega, by simp only [fitsK]; rw [hf]; simpa using hc⟩ (by omega) ⟨rfl, rfl, rfl, trivial⟩ (fun w hw => hw.sub)
  · refine r_exit ?_
    refine r_te ?_
    refine r_te ?_
    refine r_be ?_
    refine r_tn ?_
    refine r_seq ?_
    refine r_region ?_
    refine r_fieldAddr (off := 531) (o' := 531) rfl rfl rfl rfl ?_
    refine r_loadN (m := 4) rfl rfl rfl rfl (by rw [recV_size hp]; omega) (rec_status r hp) ?_
    refine r_call rfl rfl rfl (by kernel_rfl) rfl (fun w hw => by exact status23 r.kind r.cause r.pc r.cycle w) ?_
    refine r_assign rfl rfl ?_
    refine r_nil ?_
    refine r_tn ?_
    refine r_ret ?_
    have hk4 : k = 4 := by have h := of_decide_eq_false hc; omega
    subst hk4
    exact r_done1 (.inl rfl) rfl (res_tmp rfl) fun w hw => ⟨by unfold validR; rw [hf]; rfl, hw.clear⟩

theorem put23 (A : Option Addr) (m c : Nat) (xs : List Value) (n size : Nat) (hn : n < 2 ^ 64) (hs : size ≤ 8) (hx : m ≤ 70368744177664) (w : World) (hS : Sat w ([Res.own 5 1 (.slice A (m) c) (m) (xs)].filterMap Res.foot) [.own 5 1 (.slice A (m) c) (m) (xs)] w) :
    Calls Try.prog 26 #[.slice A m c, .int .u64 (n : Int), .int .i64 (size : Int)] w fun e w' => ∃ i : Option Addr × Nat, e = .returned (.slice i.1 (m + size) i.2) ∧ True ∧ Sat w ([Res.own 5 1 (.slice A (m) c) (m) (xs)].filterMap Res.foot) [.own 5 1 (.slice i.1 (m + size) i.2) (m + size) (xs ++ (be size n).map (Value.int .u8))] w' := by
  refine enterS Try.func26 rfl rfl rfl hS ?_
  refine r_seq ?_
  refine r_region ?_
  refine r_assign rfl rfl ?_
  refine r_nil ?_
  refine r_tn ?_
  refine r_seq ?_
  refine r_seq ?_
  refine r_region ?_
  refine r_move rfl rfl ?_
  refine r_move rfl rfl ?_
  refine r_nil ?_
  refine r_tn ?_
  refine r_block ?_
  refine r_loop2 (fun k A2 c2 => [(0, .slice A2 (m + k) c2), (1, .int .u64 (n : Int)), (2, .int .i64 (size : Int)), (8, .int .i64 (size : Int)), (9, .int .i64 (k : Int))]) (fun k A2 c2 => [.own 5 1 (.slice A2 (m + k) c2) (m + k) (xs ++ ((be size n).take k).map (Value.int .u8))]) (fun k A2 c2 => k ≤ size) size 0 A c (by omega) ⟨rfl, rfl, rfl, rfl, rfl, trivial⟩ (fun w hw => by rw [List.take_zero, List.map_nil, List.append_nil]; exact hw) fun k A2 c2 hk => ?_
  refine r_seq ?_
  refine r_region ?_
  refine r_lss rfl rfl rfl rfl ?_
  refine r_nil ?_
  refine r_tn ?_
  refine r_seq ?_
  refine r_cond rfl (fun hc => ?_) (fun hc => ?_)
  · refine r_skip ?_
    refine r_tn ?_
    refine r_seq ?_
    refine r_block ?_
    refine r_seq ?_
    refine r_region ?_
    have hk2 : k < size := by have h := of_decide_eq_true hc; omega
    refine r_move rfl rfl ?_
    refine r_assign rfl rfl ?_
    refine r_nil ?_
    refine r_tn ?_
    refine r_region ?_
    refine r_move rfl rfl ?_
    refine r_move rfl rfl ?_
    refine r_move rfl rfl ?_
    refine r_sub rfl rfl rfl (w64 (by omega)) ?_
    refine r_move rfl rfl ?_
    refine r_sub rfl rfl rfl (w64 (by omega)) ?_
    refine r_mul (r := ((8 * (size - 1 - k) : Nat) : Int)) rfl rfl rfl ((w64 (by omega)).trans (by omega)) ?_
    refine r_shr (r := ((n >>> (8 * (size - 1 - k)) : Nat) : Int)) rfl rfl rfl (by omega) (shr64 hn _) ?_
    refine r_convert rfl rfl rfl rfl (wrap8 _) ?_
    refine r_lit (sz := 1) (pv := [(0, .int .u8 (((n >>> (8 * (size - 1 - k))) % 256 : Nat) : Int))]) (cells := #[.int .u8 (((n >>> (8 * (size - 1 - k))) % 256 : Nat) : Int)]) rfl rfl rfl rfl rfl rfl (by kernel_rfl) rfl (fun b21 => ?_) (by decide)
    refine r_append (k := 1) (news := [.int .u8 (((n >>> (8 * (size - 1 - k))) % 256 : Nat) : Int)]) (sz := 1) (bytes := 1) rfl rfl rfl rfl rfl rfl (by decide) (fun w hw => own_rd (A := some ⟨b21, 0, none⟩) (m := 1) (c := 1) hw) (by first | rfl | simp) (fun u hu => by simp at hu; first | (obtain ⟨x, _, rfl⟩ := hu; rfl) | (subst hu; rfl) | (rcases hu with rfl | rfl <;> rfl)) (by omega) (by unfold maxLen; omega) fun A22 c22 => ?_
    refine r_assign rfl rfl ?_
    refine r_nil ?_
    refine r_bn ?_
    refine r_tn ?_
    refine r_region ?_
    refine r_add rfl rfl rfl (w64 (by omega)) ?_
    refine r_move rfl rfl ?_
    refine r_nil ?_
    refine r_tn ?_
    exact r_again2 (k + 1) A22 c22 (by omega) (by omega) ⟨rfl, rfl, rfl, rfl, rfl, trivial⟩ (fun w hw => by have h2 : Sat _ _ [.own 5 1 (.slice A22 (m + k + 1) c22) (m + k + 1) ((xs ++ ((be size n).take k).map (Value.int .u8)) ++ [Value.int .u8 (((n >>> (8 * (size - 1 - k))) % 256 : Nat) : Int)])] w := hw.sub; rw [be_take size n k hk2, List.map_append, ← List.append_assoc]; exact h2)
  · refine r_exit ?_
    refine r_te ?_
    refine r_te ?_
    refine r_be ?_
    refine r_tn ?_
    refine r_seq ?_
    refine r_region ?_
    refine r_move rfl rfl ?_
    refine r_assign rfl rfl ?_
    refine r_nil ?_
    refine r_tn ?_
    refine r_ret ?_
    have hk3 : k = size := by have h := of_decide_eq_false hc; omega
    subst hk3
    exact r_done1 (.inl rfl) rfl (res_tmp rfl) fun w hw => ⟨(A2, c2), rfl, trivial, by rw [List.take_of_length_le (by rw [be_len]; omega)] at hw; exact hw.sub⟩

theorem bit_on {f : Nat → Bool} {i : Nat} (h : f i = true) : num f i ||| 2 ^ i = num f (i + 1) := by rw [num_or1]; simp only [num]; rw [h]; rfl
theorem bit_off {f : Nat → Bool} {i : Nat} (h : f i = false) : num f i = num f (i + 1) := by simp only [num]; rw [h]; rfl

theorem bits23 (f : Nat → Bool) (m a c : Nat) (w : World) (hm : m ≤ 8) (ha : Rd w (some ⟨a, 0, none⟩) (boolsN m f)) :
    Calls Try.prog 37 #[.slice (some ⟨a, 0, none⟩) m c] w fun e w' => e = .returned (.int .u8 ((num f m : Nat) : Int)) ∧ Sat w [] [] w' := by
  refine enter Try.func37 rfl rfl rfl ?_
  refine r_seq ?_
  refine r_region ?_
  refine r_assign rfl rfl ?_
  refine r_nil ?_
  refine r_tn ?_
  refine r_seq ?_
  refine r_region ?_
  refine r_assign rfl rfl ?_
  refine r_nil ?_
  refine r_tn ?_
  refine r_seq ?_
  refine r_seq ?_
  refine r_region ?_
  refine r_move rfl rfl ?_
  refine r_len rfl rfl rfl ?_
  refine r_move rfl rfl ?_
  refine r_nil ?_
  refine r_tn ?_
  refine r_block ?_
  refine r_loopN (fun i => [(3, .int .u8 ((num f i : Nat) : Int)), (6, .slice (some ⟨a, 0, none⟩) m c), (7, .int .i64 (m : Int)), (8, .int .i64 (i : Int))]) (fun i => []) (fun i => i ≤ m) m 0 (by omega) ⟨rfl, rfl, rfl, rfl, trivial⟩ (fun w hw => hw) fun i hi => ?_
  refine r_seq ?_
  refine r_region ?_
  refine r_lss rfl rfl rfl rfl ?_
  refine r_nil ?_
  refine r_tn ?_
  refine r_seq ?_
  refine r_cond rfl (fun hc => ?_) (fun hc => ?_)
  · refine r_skip ?_
    refine r_tn ?_
    refine r_seq ?_
    refine r_block ?_
    refine r_seq ?_
    refine r_region ?_
    have hi2 : i < m := by have h := of_decide_eq_true hc; omega
    have hlt := num_lt f i
    have hp8 : (2 : Nat) ^ i ≤ 2 ^ 7 := Nat.pow_le_pow_right (by decide) (by omega)
    refine r_move rfl rfl ?_
    refine r_indexSl (sz := 1) (o' := i) rfl rfl rfl rfl rfl (by omega) (by omega) (by first | (simp; done) | (simp; omega) | omega) ?_
    refine r_loadC (p := ⟨a, i, none⟩) rfl rfl rfl (fun w hw => ((ha.keep hw).cell (boolsN_at f hi2) rfl) |> fun h => by simpa using h) ?_
    refine r_assign rfl rfl ?_
    refine r_assign rfl rfl ?_
    refine r_nil ?_
    refine r_tn ?_
    refine r_seq ?_
    refine r_region ?_
    refine r_move rfl rfl ?_
    refine r_nil ?_
    refine r_tn ?_
    refine r_cond rfl (fun hc => ?_) (fun hc => ?_)
    · refine r_region ?_
      refine r_move rfl rfl ?_
      refine r_move rfl rfl ?_
      refine r_shl (r := ((2 ^ i : Nat) : Int)) rfl rfl rfl (by omega) (shl1 (by omega)) ?_
      refine r_or (r := ((num f i ||| 2 ^ i : Nat) : Int)) rfl rfl rfl (or8 (by omega) (by omega)) ?_
      refine r_assign rfl rfl ?_
      refine r_nil ?_
      refine r_bn ?_
      refine r_tn ?_
      refine r_region ?_
      refine r_add rfl rfl rfl (w64 (by omega)) ?_
      refine r_move rfl rfl ?_
      refine r_nil ?_
      refine r_tn ?_
      exact r_againN (i + 1) (by omega) (by omega) ⟨by first | exact congrArg (fun z : Nat => some (Value.int .u8 (z : Int))) (bit_on hc) | exact congrArg (fun z : Nat => some (Value.int .u8 (z : Int))) (bit_off hc), rfl, rfl, rfl, trivial⟩ (fun w hw => hw)
    · refine r_skip ?_
      refine r_bn ?_
      refine r_tn ?_
      refine r_region ?_
      refine r_add rfl rfl rfl (w64 (by omega)) ?_
      refine r_move rfl rfl ?_
      refine r_nil ?_
      refine r_tn ?_
      exact r_againN (i + 1) (by omega) (by omega) ⟨by first | exact congrArg (fun z : Nat => some (Value.int .u8 (z : Int))) (bit_on hc) | exact congrArg (fun z : Nat => some (Value.int .u8 (z : Int))) (bit_off hc), rfl, rfl, rfl, trivial⟩ (fun w hw => hw)
  · refine r_exit ?_
    refine r_te ?_
    refine r_te ?_
    refine r_be ?_
    refine r_tn ?_
    refine r_seq ?_
    refine r_region ?_
    refine r_move rfl rfl ?_
    refine r_assign rfl rfl ?_
    refine r_nil ?_
    refine r_tn ?_
    refine r_ret ?_
    have hi3 : i = m := by have h := of_decide_eq_false hc; omega
    subst hi3
    exact r_done1 (.inl rfl) rfl (res_tmp rfl) fun w hw => ⟨rfl, hw⟩
end
section
open Go Go.RowKit
set_option linter.unusedVariables false
set_option linter.unusedSimpArgs false
set_option maxHeartbeats 2000000
set_option maxRecDepth 4000
attribute [local irreducible] mix

theorem boolsN_succ (k : Nat) (f : Nat → Bool) : boolsN (k + 1) f = boolsN k f ++ [.bool (f k)] := by
  unfold boolsN; rw [List.range_succ, List.map_append]; rfl

theorem used23 (r : Rec) (w : World) (hp : r.pat.length = 16) :
    Calls Try.prog 38 #[.agg (recV r)] w fun e w' => e = .returned (.int .u8 ((num (usedF r.P) 4 : Nat) : Int)) ∧ Sat w [] [] w' := by
  refine enter Try.func38 rfl rfl rfl ?_
  refine r_seq ?_
  refine r_region ?_
  refine r_boxV rfl rfl fun b1 => ?_
  refine r_assign rfl rfl ?_
  refine r_nil ?_
  refine r_tn ?_
  refine r_seq ?_
  refine r_region ?_
  refine r_assign rfl rfl ?_
  refine r_nil ?_
  refine r_tn ?_
  refine r_seq ?_
  refine r_seq ?_
  refine r_region ?_
  refine r_fieldAddr (off := 0) (o' := 0) rfl rfl rfl rfl ?_
  refine r_loadN (m := 512) (vs := planesV r.P) rfl rfl rfl rfl (by rw [recV_size hp]; omega) (rec_planes r hp) ?_
  refine r_move rfl rfl ?_
  refine r_nil ?_
  refine r_tn ?_
  refine r_block ?_
  refine Run.ownNil 4 1 ?_
  refine r_loop2 (fun k A2 c2 => [(1, .pointer (some ⟨b1, 0, none⟩)), (3, .slice A2 k c2), (7, .agg (planesV r.P)), (8, .int .i64 (k : Int))]) (fun k A2 c2 => [.own 4 1 (.slice A2 k c2) k (boolsN k (usedF r.P))]) (fun k A2 c2 => k ≤ 4) 4 0 none 0 (by omega) ⟨rfl, rfl, rfl, rfl, trivial⟩ (fun w hw => by have h2 : Sat _ _ [.own 4 1 (.slice none 0 0) 0 []] w := hw.sub; exact h2) fun k A2 c2 hk => ?_
  refine r_seq ?_
  refine r_region ?_
  refine r_lss rfl rfl rfl rfl ?_
  refine r_nil ?_
  refine r_tn ?_
  refine r_seq ?_
  refine r_cond rfl (fun hc => ?_) (fun hc => ?_)
  · refine r_skip ?_
    refine r_tn ?_
    refine r_seq ?_
    refine r_block ?_
    refine r_seq ?_
    refine r_region ?_
    have hk2 : k < 4 := by have h := of_decide_eq_true hc; omega
    refine r_indexAgg (i' := k) (sz := 128) (vs := planeV (r.P k)) rfl rfl rfl rfl rfl rfl rfl hk2 (planesV_plane r.P hk2) ?_
    refine r_allocV (cs := planeV noneQ) (by kernel_rfl) rfl fun b5 => ?_
    refine r_storeV rfl rfl rfl (planeV_size _) (planeV_size _) (planeV_one _) ?_
    refine r_nil ?_
    refine r_tn ?_
    refine r_region ?_
    refine r_move rfl rfl ?_
    refine r_loadV rfl rfl rfl rfl (planeV_size _) ?_
    refine r_build (cells := planeV noneQ) rfl rfl (by kernel_rfl) ?_
    refine r_neqAgg (p := usedF r.P k) rfl rfl rfl planeFlat (planeV_ok _) (planeV_ok _) (by rw [plane_eq]; rfl) ?_
    refine r_lit (sz := 1) (pv := [(0, .bool (usedF r.P k))]) (cells := #[.bool (usedF r.P k)]) rfl rfl rfl rfl rfl rfl (by kernel_rfl) rfl (fun b15 => ?_) (by decide)
    refine r_append (k := 1) (news := [.bool (usedF r.P k)]) (sz := 1) (bytes := 1) rfl rfl rfl rfl rfl rfl (by decide) (fun w hw => own_rd (A := some ⟨b15, 0, none⟩) (m := 1) (c := 1) hw) rfl (fun u hu => by simp at hu; subst hu; rfl) (by omega) (by unfold maxLen; omega) fun A16 c16 => ?_
    refine r_assign rfl rfl ?_
    refine r_nil ?_
    refine r_bn ?_
    refine r_tn ?_
    refine r_region ?_
    refine r_add rfl rfl rfl (w64 (by omega)) ?_
    refine r_move rfl rfl ?_
    refine r_nil ?_
    refine r_tn ?_
    exact r_again2 (k + 1) A16 c16 (by omega) (by omega) ⟨rfl, rfl, rfl, rfl, trivial⟩ (fun w hw => by rw [boolsN_succ]; exact hw.sub)
  · refine r_exit ?_
    refine r_te ?_
    refine r_te ?_
    refine r_be ?_
    refine r_tn ?_
    refine r_seq ?_
    refine r_region ?_
    have hk3 : k = 4 := by have h := of_decide_eq_false hc; omega
    subst hk3
    refine r_have (fun w hw => own_some (A := A2) (m := 4) (c := c2) hw (by omega)) fun hg => ?_
    obtain ⟨g, rfl⟩ := hg
    refine r_move rfl rfl ?_
    refine r_call rfl rfl rfl (by kernel_rfl) rfl (fun w hw => by exact bits23 (usedF r.P) 4 g c2 w (by decide) (own_rd (A := some ⟨g, 0, none⟩) (m := 4) (c := c2) hw)) ?_
    refine r_assign rfl rfl ?_
    refine r_nil ?_
    refine r_tn ?_
    refine r_ret ?_
    exact r_done1 (.inl rfl) rfl (res_tmp rfl) fun w hw => ⟨rfl, hw.clear⟩
end
end Go.Proofs.Ytgicjkjppnkodaa
