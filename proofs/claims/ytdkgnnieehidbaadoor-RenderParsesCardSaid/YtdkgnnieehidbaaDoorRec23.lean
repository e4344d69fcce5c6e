/-
  Records (chapter 23): their cells, and what is said of them. No walk.
-/
import Derived.Test.YtdkgnnieehidbaaDoorPlanesB
namespace Go.Proofs.YtdkgnnieehidbaaDoor
open Go Go.RowKit
set_option linter.unusedVariables false
set_option linter.unusedSimpArgs false
set_option maxHeartbeats 2000000
set_option maxRecDepth 4000

/-- the words of four planes -/
def planesL (P : Nat → Nat → Nat → Bool) : List Value := (List.range 512).map fun j => Value.int .u64 ((cellP (P (j / 128)) (j % 128) : Nat) : Int)
def planesV (P : Nat → Nat → Nat → Bool) : Array Value := (planesL P).toArray
theorem planesL_len (P : Nat → Nat → Nat → Bool) : (planesL P).length = 512 := by simp [planesL]
theorem planesL_at (P : Nat → Nat → Nat → Bool) {j : Nat} (h : j < 512) : (planesL P)[j]? = some (.int .u64 ((cellP (P (j / 128)) (j % 128) : Nat) : Int)) := by simp [planesL, h]
theorem planesV_size (P : Nat → Nat → Nat → Bool) : (planesV P).size = 512 := by simp [planesV, planesL]
theorem planesV_plane (P : Nat → Nat → Nat → Bool) {k : Nat} (h : k < 4) : (planesV P).extract (k * 128) (k * 128 + 128) = planeV (P k) := by
  apply Array.ext_getElem?
  intro i
  rw [Array.getElem?_extract, planesV_size]
  by_cases hi : i < 128
  · rw [if_pos (by omega), planeV_at _ hi]
    show (planesL P).toArray[k * 128 + i]? = _
    rw [List.getElem?_toArray, planesL_at P (by omega), show (k * 128 + i) / 128 = k by omega, show (k * 128 + i) % 128 = i by omega]
  · rw [if_neg (by omega), Array.getElem?_eq_none (by rw [planeV_size]; omega)]
structure Rec where
  P : Nat → Nat → Nat → Bool
  hires : Bool
  sound : Bool
  pat : List Int
  pitch : Int
  kind : Int
  cause : Int
  pc : Int
  cycle : Int
def tailL (r : Rec) : List Value := [Value.bool r.hires, .bool r.sound] ++ (r.pat.map (Value.int .u8) ++ [.int .u8 r.pitch, .int .i64 r.kind, .int .i64 r.cause, .int .i64 r.pc, .int .i64 r.cycle])
def recL (r : Rec) : List Value := planesL r.P ++ tailL r
def recV (r : Rec) : Array Value := (recL r).toArray
theorem tailL_len {r : Rec} (h : r.pat.length = 16) : (tailL r).length = 23 := by simp [tailL, h]
theorem recV_size {r : Rec} (h : r.pat.length = 16) : (recV r).size = 535 := by simp [recV, recL, planesL_len, tailL_len h]
theorem recV_tail (r : Rec) (i : Nat) : (recV r)[512 + i]? = (tailL r)[i]? := by
  show (recL r).toArray[512 + i]? = _
  rw [List.getElem?_toArray]
  unfold recL
  rw [List.getElem?_append, planesL_len, if_neg (by omega), Nat.add_sub_cancel_left]
theorem rec_hires (r : Rec) : (recV r)[512]? = some (.bool r.hires) := recV_tail r 0
theorem rec_sound (r : Rec) : (recV r)[513]? = some (.bool r.sound) := recV_tail r 1
theorem tail_pat (r : Rec) (i : Nat) : (tailL r)[2 + i]? = (r.pat.map (Value.int .u8) ++ [Value.int .u8 r.pitch, .int .i64 r.kind, .int .i64 r.cause, .int .i64 r.pc, .int .i64 r.cycle])[i]? := by
  unfold tailL
  rw [List.getElem?_append, if_neg (by simp), show 2 + i - [Value.bool r.hires, Value.bool r.sound].length = i by simp]
theorem tail_end {r : Rec} (h : r.pat.length = 16) (i : Nat) : (tailL r)[18 + i]? = ([Value.int .u8 r.pitch, .int .i64 r.kind, .int .i64 r.cause, .int .i64 r.pc, .int .i64 r.cycle])[i]? := by
  rw [show 18 + i = 2 + (16 + i) by omega, tail_pat, List.getElem?_append, List.length_map, h, if_neg (by omega), Nat.add_sub_cancel_left]
theorem rec_pitch {r : Rec} (h : r.pat.length = 16) : (recV r)[530]? = some (.int .u8 r.pitch) := (recV_tail r 18).trans (tail_end h 0)
theorem rec_kind {r : Rec} (h : r.pat.length = 16) : (recV r)[531]? = some (.int .i64 r.kind) := (recV_tail r 19).trans (tail_end h 1)
theorem rec_cause {r : Rec} (h : r.pat.length = 16) : (recV r)[532]? = some (.int .i64 r.cause) := (recV_tail r 20).trans (tail_end h 2)
theorem rec_pc {r : Rec} (h : r.pat.length = 16) : (recV r)[533]? = some (.int .i64 r.pc) := (recV_tail r 21).trans (tail_end h 3)
theorem rec_cycle {r : Rec} (h : r.pat.length = 16) : (recV r)[534]? = some (.int .i64 r.cycle) := (recV_tail r 22).trans (tail_end h 4)
theorem rec_pat {r : Rec} (h : r.pat.length = 16) {i : Nat} (hi : i < 16) : (recV r)[514 + i]? = some (.int .u8 (r.pat.getD i 0)) := by
  have hi2 : i < r.pat.length := by omega
  rw [show 514 + i = 512 + (2 + i) by omega, recV_tail, tail_pat, List.getElem?_append, List.length_map, if_pos hi2]
  simp [hi2]
theorem rec_planes (r : Rec) (h : r.pat.length = 16) : (recV r).extract 0 512 = planesV r.P := by
  apply Array.ext_getElem?
  intro i
  rw [Array.getElem?_extract, recV_size h]
  by_cases hi : i < 512
  · rw [if_pos (by omega), Nat.zero_add]
    show (recL r).toArray[i]? = (planesL r.P).toArray[i]?
    rw [List.getElem?_toArray, List.getElem?_toArray]
    unfold recL
    rw [List.getElem?_append, planesL_len, if_pos hi]
  · rw [if_neg (by omega), Array.getElem?_eq_none (by rw [planesV_size]; omega)]
theorem rec_status (r : Rec) (h : r.pat.length = 16) : (recV r).extract 531 535 = #[.int .i64 r.kind, .int .i64 r.cause, .int .i64 r.pc, .int .i64 r.cycle] := by
  apply Array.ext_getElem?
  intro i
  rw [Array.getElem?_extract, recV_size h]
  rcases i with _ | _ | _ | _ | i
  · rw [if_pos (by omega)]; exact rec_kind h
  · rw [if_pos (by omega)]; exact rec_cause h
  · rw [if_pos (by omega)]; exact rec_pc h
  · rw [if_pos (by omega)]; exact rec_cycle h
  · rw [if_neg (by omega)]; simp
/-- whether a status is valid -/
def statusB (kind cause pc cycle : Int) : Bool :=
  if kind < 0 ∨ 3 < kind ∨ pc < 0 ∨ 65536 ≤ pc ∨ cycle < 0 ∨ 4611686018427387904 < cycle then false
  else if kind ≠ 2 ∧ kind ≠ 3 ∧ (pc ≠ 0 ∨ cycle ≠ 0) then false
  else if kind = 3 then decide (1 ≤ cause ∧ cause ≤ 4) else decide (cause = 0)
def fitsB (P : Nat → Nat → Bool) (hires : Bool) : Bool := eqQ (scrollQ P 0 0 hires) P
def fitsK (P : Nat → Nat → Nat → Bool) (hires : Bool) : Nat → Bool
  | 0 => true
  | k + 1 => fitsK P hires k && fitsB (P k) hires
def validR (r : Rec) : Bool := fitsK r.P r.hires 4 && statusB r.kind r.cause r.pc r.cycle
/-- the bytes of a number, the most significant first -/
def be (size n : Nat) : List Int := (List.range size).map fun i => (((n >>> (8 * (size - 1 - i))) % 256 : Nat) : Int)
theorem be_len (size n : Nat) : (be size n).length = size := by simp [be]
theorem be_take (size n k : Nat) (hk : k < size) : (be size n).take (k + 1) = (be size n).take k ++ [(((n >>> (8 * (size - 1 - k))) % 256 : Nat) : Int)] := by
  rw [List.take_add_one]
  congr 1
  simp [be, hk]
def usedF (P : Nat → Nat → Nat → Bool) (k : Nat) : Bool := !eqQ (P k) noneQ
theorem num_or1 (b : Nat → Bool) (i : Nat) : num b i ||| 2 ^ i = num b i + 2 ^ i := by
  have h := Nat.two_pow_add_eq_or_of_lt (num_lt b i) 1
  rw [Nat.mul_one] at h
  rw [Nat.or_comm, ← h, Nat.add_comm]
theorem or8 {x y : Nat} (hx : x < 256) (hy : y < 256) : IntKind.u8.wrap (BitVec.ofInt IntKind.u8.bits (x : Int) ||| BitVec.ofInt IntKind.u8.bits (y : Int)).toNat = ((x ||| y : Nat) : Int) := by
  have e : ∀ z : Nat, z < 256 → (BitVec.ofInt IntKind.u8.bits (z : Int)).toNat = z := fun z hz => by
    show (BitVec.ofInt 8 (z : Int)).toNat = z
    rw [BitVec.ofInt_natCast, BitVec.toNat_ofNat]
    exact Nat.mod_eq_of_lt hz
  have h : x ||| y < 2 ^ 8 := Nat.or_lt_two_pow hx hy
  rw [BitVec.toNat_or, e x hx, e y hy]
  exact IntWalk.u8_in _ ⟨by omega, by omega⟩
theorem shl1 {i : Nat} (h : i < 8) : IntKind.u8.wrap (1 * 2 ^ (min ((i : Nat) : Int).toNat IntKind.u8.bits)) = ((2 ^ i : Nat) : Int) := by
  have e : ((i : Nat) : Int).toNat = i := rfl
  have e2 : IntKind.u8.bits = 8 := rfl
  rw [e, e2, Nat.min_eq_left (by omega), Int.one_mul]
  have h2 : (2 : Nat) ^ i < 2 ^ 8 := Nat.pow_lt_pow_right (by decide) h
  have e3 : ((2 : Int) ^ i) = ((2 ^ i : Nat) : Int) := by simp
  rw [e3]
  generalize (2 : Nat) ^ i = z at *
  exact IntWalk.u8_in _ ⟨by omega, by omega⟩
theorem wrap8 (n : Nat) : IntKind.u8.wrap ((n : Nat) : Int) = ((n % 256 : Nat) : Int) := by
  have h : IntKind.u8.wrap ((n : Nat) : Int) = ((n : Nat) : Int) % 256 := by
    unfold IntKind.wrap
    simp [IntKind.signed, IntKind.bits]
  rw [h]; omega

end Go.Proofs.YtdkgnnieehidbaaDoor
