/-
  Rows of pixels (chapter 06): And and Xor pixel by pixel.
-/
import Derived.Test.YtahanpobeekhiaaChecked
import Derived.Test.YtahanpobeekhiaaBytes
import Derived.Test.YtahanpobeekhiaaNum
namespace Go.Proofs.Ytahanpobeekhiaa
open Go Go.RowKit
set_option linter.unusedVariables false
set_option linter.unusedSimpArgs false
set_option maxHeartbeats 2000000

def hiN (p : Nat → Bool) : Nat := num (fun i => p (63 - i)) 64
def loN (p : Nat → Bool) : Nat := num (fun i => p (127 - i)) 64
/-- the row whose lit pixels p tells -/
def rowV (p : Nat → Bool) : Array Value := #[.int .u64 (hiN p : Nat), .int .u64 (loN p : Nat)]
theorem rowV_congr {p q : Nat → Bool} (h : ∀ x, x < 128 → p x = q x) : rowV p = rowV q := by
  unfold rowV hiN loN
  rw [num_congr (fun i hi => h (63 - i) (by omega)), num_congr (fun i hi => h (127 - i) (by omega))]
theorem u64_bits {x y : Nat} (hx : x < 2 ^ 64) (hy : y < 2 ^ 64) :
    IntKind.u64.wrap (BitVec.ofInt IntKind.u64.bits (x : Int) &&& BitVec.ofInt IntKind.u64.bits (y : Int)).toNat = ((x &&& y : Nat) : Int) ∧
    IntKind.u64.wrap (BitVec.ofInt IntKind.u64.bits (x : Int) ||| BitVec.ofInt IntKind.u64.bits (y : Int)).toNat = ((x ||| y : Nat) : Int) ∧
    IntKind.u64.wrap (BitVec.ofInt IntKind.u64.bits (x : Int) ^^^ BitVec.ofInt IntKind.u64.bits (y : Int)).toNat = ((x ^^^ y : Nat) : Int) := by
  have e : ∀ z : Nat, z < 2 ^ 64 → (BitVec.ofInt IntKind.u64.bits (z : Int)).toNat = z := fun z hz => by
    show (BitVec.ofInt 64 (z : Int)).toNat = z
    rw [BitVec.ofInt_natCast, BitVec.toNat_ofNat]
    exact Nat.mod_eq_of_lt hz
  have h1 : x &&& y < 2 ^ 64 := Nat.and_lt_two_pow x hy
  have h2 : x ||| y < 2 ^ 64 := Nat.or_lt_two_pow hx hy
  have h3 : x ^^^ y < 2 ^ 64 := Nat.xor_lt_two_pow hx hy
  refine ⟨?_, ?_, ?_⟩
  · rw [BitVec.toNat_and, e x hx, e y hy]; exact IntWalk.u64_in _ ⟨by omega, by omega⟩
  · rw [BitVec.toNat_or, e x hx, e y hy]; exact IntWalk.u64_in _ ⟨by omega, by omega⟩
  · rw [BitVec.toNat_xor, e x hx, e y hy]; exact IntWalk.u64_in _ ⟨by omega, by omega⟩
theorem num_and (b c : Nat → Bool) (m : Nat) : num b m &&& num c m = num (fun i => b i && c i) m :=
  num_ext (Nat.and_lt_two_pow _ (num_lt c m)) fun i hi => by rw [Nat.testBit_and, num_bit, num_bit]; simp [hi]
theorem num_xor (b c : Nat → Bool) (m : Nat) : num b m ^^^ num c m = num (fun i => b i ^^ c i) m :=
  num_ext (Nat.xor_lt_two_pow (num_lt b m) (num_lt c m)) fun i hi => by rw [Nat.testBit_xor, num_bit, num_bit]; simp [hi]


theorem rowAnd (p q : Nat → Bool) (w : World) :
    Calls Try.prog 28 #[.agg (rowV p), .agg (rowV q)] w fun e w' => e = .returned (.agg (rowV (fun x => p x && q x))) ∧ Sat w [] [] w' := by
  refine enter Try.func28 rfl rfl rfl ?_
  refine r_seq ?_
  refine r_region ?_
  refine r_boxV rfl rfl fun b2 => ?_
  refine r_boxV rfl rfl fun b3 => ?_
  refine r_allocV (cs := #[.int .u64 0, .int .u64 0]) rfl rfl fun b4 => ?_
  refine r_nil ?_
  refine r_tn ?_
  refine r_seq ?_
  refine r_region ?_
  refine r_fieldAddr (off := 0) (o' := 0) rfl rfl rfl rfl ?_
  refine r_load1 rfl rfl rfl (by rfl) ?_
  refine r_fieldAddr (off := 0) (o' := 0) rfl rfl rfl rfl ?_
  refine r_load1 rfl rfl rfl (by rfl) ?_
  refine r_and rfl rfl rfl (((u64_bits (num_lt _ 64) (num_lt _ 64)).1).trans (congrArg (fun z : Nat => (z : Int)) (num_and _ _ 64))) ?_
  refine r_fieldAddr (off := 1) (o' := 1) rfl rfl rfl rfl ?_
  refine r_load1 rfl rfl rfl (by rfl) ?_
  refine r_fieldAddr (off := 1) (o' := 1) rfl rfl rfl rfl ?_
  refine r_load1 rfl rfl rfl (by rfl) ?_
  refine r_and rfl rfl rfl (((u64_bits (num_lt _ 64) (num_lt _ 64)).1).trans (congrArg (fun z : Nat => (z : Int)) (num_and _ _ 64))) ?_
  refine r_build (cells := rowV (fun x => p x && q x)) rfl rfl (by kernel_rfl) ?_
  refine r_storeV rfl rfl rfl rfl rfl rfl ?_
  refine r_nil ?_
  refine r_tn ?_
  refine r_ret ?_
  exact r_done1 (.inl rfl) rfl (res_cellV rfl rfl rfl rfl) fun w hw => ⟨rfl, hw.clear⟩

theorem rowXor (p q : Nat → Bool) (w : World) :
    Calls Try.prog 27 #[.agg (rowV p), .agg (rowV q)] w fun e w' => e = .returned (.agg (rowV (fun x => p x ^^ q x))) ∧ Sat w [] [] w' := by
  refine enter Try.func27 rfl rfl rfl ?_
  refine r_seq ?_
  refine r_region ?_
  refine r_boxV rfl rfl fun b2 => ?_
  refine r_boxV rfl rfl fun b3 => ?_
  refine r_allocV (cs := #[.int .u64 0, .int .u64 0]) rfl rfl fun b4 => ?_
  refine r_nil ?_
  refine r_tn ?_
  refine r_seq ?_
  refine r_region ?_
  refine r_fieldAddr (off := 0) (o' := 0) rfl rfl rfl rfl ?_
  refine r_load1 rfl rfl rfl (by rfl) ?_
  refine r_fieldAddr (off := 0) (o' := 0) rfl rfl rfl rfl ?_
  refine r_load1 rfl rfl rfl (by rfl) ?_
  refine r_xor rfl rfl rfl (((u64_bits (num_lt _ 64) (num_lt _ 64)).2.2).trans (congrArg (fun z : Nat => (z : Int)) (num_xor _ _ 64))) ?_
  refine r_fieldAddr (off := 1) (o' := 1) rfl rfl rfl rfl ?_
  refine r_load1 rfl rfl rfl (by rfl) ?_
  refine r_fieldAddr (off := 1) (o' := 1) rfl rfl rfl rfl ?_
  refine r_load1 rfl rfl rfl (by rfl) ?_
  refine r_xor rfl rfl rfl (((u64_bits (num_lt _ 64) (num_lt _ 64)).2.2).trans (congrArg (fun z : Nat => (z : Int)) (num_xor _ _ 64))) ?_
  refine r_build (cells := rowV (fun x => p x ^^ q x)) rfl rfl (by kernel_rfl) ?_
  refine r_storeV rfl rfl rfl rfl rfl rfl ?_
  refine r_nil ?_
  refine r_tn ?_
  refine r_ret ?_
  exact r_done1 (.inl rfl) rfl (res_cellV rfl rfl rfl rfl) fun w hw => ⟨rfl, hw.clear⟩
end Go.Proofs.Ytahanpobeekhiaa
