/-
  The operations of the arithmetic unit (chapter 18), each by its numbers.
-/
import Derived.Test.YtddoohbgiieiiaaChecked
import Derived.Test.YtddoohbgiieiiaaBytes
namespace Go.Proofs.Ytddoohbgiieiiaa
open Go Go.RowKit
set_option linter.unusedVariables false
set_option linter.unusedSimpArgs false
set_option maxHeartbeats 2000000

theorem plain18 (n : Int) (w : World) :
    Calls Try.prog 24 #[.int .i64 n] w fun e w' => e = .returned (.agg #[.int .i64 n, .int .i64 (-1)]) ∧ Sat w [] [] w' := by
  refine enter Try.func24 rfl rfl rfl ?_
  refine r_seq ?_
  refine r_region ?_
  refine r_alloc rfl rfl fun b2 => ?_
  refine r_nil ?_
  refine r_tn ?_
  refine r_seq ?_
  refine r_region ?_
  refine r_move rfl rfl ?_
  refine r_build (cells := #[.int .i64 n, .int .i64 (-1)]) rfl rfl (by kernel_rfl) ?_
  refine r_storeV rfl rfl rfl rfl rfl rfl ?_
  refine r_nil ?_
  refine r_tn ?_
  refine r_ret ?_
  exact r_done1 (.inl rfl) rfl (res_cellV rfl rfl rfl rfl) fun w hw => ⟨rfl, hw.clear⟩

theorem flagged18 (n : Int) (b : Bool) (w : World) :
    Calls Try.prog 23 #[.int .i64 n, .bool b] w fun e w' => e = .returned (.agg #[.int .i64 n, .int .i64 (if b then 1 else 0)]) ∧ Sat w [] [] w' := by
  cases b
  · refine enter Try.func23 rfl rfl rfl ?_
    refine r_seq ?_
    refine r_region ?_
    refine r_alloc rfl rfl fun b4 => ?_
    refine r_nil ?_
    refine r_tn ?_
    refine r_seq ?_
    refine r_seq ?_
    refine r_region ?_
    refine r_move rfl rfl ?_
    refine r_nil ?_
    refine r_tn ?_
    refine r_cond_f rfl ?_
    refine r_skip ?_
    refine r_tn ?_
    refine r_seq ?_
    refine r_region ?_
    refine r_move rfl rfl ?_
    refine r_build (cells := #[.int .i64 n, .int .i64 0]) rfl rfl (by kernel_rfl) ?_
    refine r_storeV rfl rfl rfl rfl rfl rfl ?_
    refine r_nil ?_
    refine r_tn ?_
    refine r_ret ?_
    exact r_done1 (.inl rfl) rfl (res_cellV rfl rfl rfl rfl) fun w hw => ⟨rfl, hw.clear⟩
  · refine enter Try.func23 rfl rfl rfl ?_
    refine r_seq ?_
    refine r_region ?_
    refine r_alloc rfl rfl fun b4 => ?_
    refine r_nil ?_
    refine r_tn ?_
    refine r_seq ?_
    refine r_seq ?_
    refine r_region ?_
    refine r_move rfl rfl ?_
    refine r_nil ?_
    refine r_tn ?_
    refine r_cond_t rfl ?_
    refine r_seq ?_
    refine r_region ?_
    refine r_move rfl rfl ?_
    refine r_build (cells := #[.int .i64 n, .int .i64 1]) rfl rfl (by kernel_rfl) ?_
    refine r_storeV rfl rfl rfl rfl rfl rfl ?_
    refine r_nil ?_
    refine r_tn ?_
    refine r_ret ?_
    refine r_tr ?_
    exact r_done1 (.inl rfl) rfl (res_cellV rfl rfl rfl rfl) fun w hw => ⟨rfl, hw.clear⟩

def logF (reset : Bool) : Int := if reset then 0 else -1

theorem logic18 (b1 : Nat) (reset : Bool) (n : Int) (w : World) (hb : Rd w (some ⟨b1, 0, none⟩) [.bool reset]) :
    Calls Try.prog 22 #[.int .i64 n, .pointer (some ⟨b1, 0, none⟩)] w fun e w' => e = .returned (.agg #[.int .i64 n, .int .i64 (logF reset)]) ∧ Sat w [] [] w' := by
  cases reset
  · refine enter Try.func22 rfl rfl rfl ?_
    refine r_seq ?_
    refine r_region ?_
    refine r_alloc rfl rfl fun b3 => ?_
    refine r_nil ?_
    refine r_tn ?_
    refine r_seq ?_
    refine r_seq ?_
    refine r_region ?_
    refine r_loadC rfl rfl rfl (fun w hw => (hb.keep hw).cell (j := 0) rfl rfl) ?_
    refine r_nil ?_
    refine r_tn ?_
    refine r_cond_f rfl ?_
    refine r_skip ?_
    refine r_tn ?_
    refine r_seq ?_
    refine r_region ?_
    refine r_move rfl rfl ?_
    refine r_call rfl rfl rfl (by kernel_rfl) rfl (fun w hw => by exact plain18 n w) ?_
    refine r_storeV rfl rfl rfl rfl rfl rfl ?_
    refine r_nil ?_
    refine r_tn ?_
    refine r_ret ?_
    exact r_done1 (.inl rfl) rfl (res_cellV rfl rfl rfl rfl) fun w hw => ⟨rfl, hw.clear⟩
  · refine enter Try.func22 rfl rfl rfl ?_
    refine r_seq ?_
    refine r_region ?_
    refine r_alloc rfl rfl fun b3 => ?_
    refine r_nil ?_
    refine r_tn ?_
    refine r_seq ?_
    refine r_seq ?_
    refine r_region ?_
    refine r_loadC rfl rfl rfl (fun w hw => (hb.keep hw).cell (j := 0) rfl rfl) ?_
    refine r_nil ?_
    refine r_tn ?_
    refine r_cond_t rfl ?_
    refine r_seq ?_
    refine r_region ?_
    refine r_move rfl rfl ?_
    refine r_call rfl rfl rfl (by kernel_rfl) rfl (fun w hw => by exact flagged18 n false w) ?_
    refine r_storeV rfl rfl rfl rfl rfl rfl ?_
    refine r_nil ?_
    refine r_tn ?_
    refine r_ret ?_
    refine r_tr ?_
    exact r_done1 (.inl rfl) rfl (res_cellV rfl rfl rfl rfl) fun w hw => ⟨rfl, hw.clear⟩

theorem bits_nat (x y : Nat) (hx : x < 256) (hy : y < 256) :
    IntKind.i64.wrap (BitVec.ofInt IntKind.i64.bits (x : Int) ||| BitVec.ofInt IntKind.i64.bits (y : Int)).toNat = ((x ||| y : Nat) : Int) ∧
    IntKind.i64.wrap (BitVec.ofInt IntKind.i64.bits (x : Int) &&& BitVec.ofInt IntKind.i64.bits (y : Int)).toNat = ((x &&& y : Nat) : Int) ∧
    IntKind.i64.wrap (BitVec.ofInt IntKind.i64.bits (x : Int) ^^^ BitVec.ofInt IntKind.i64.bits (y : Int)).toNat = ((x ^^^ y : Nat) : Int) := by
  have e : ∀ z : Nat, z < 256 → (BitVec.ofInt IntKind.i64.bits (z : Int)).toNat = z := fun z hz => by
    show (BitVec.ofInt 64 (z : Int)).toNat = z
    rw [BitVec.ofInt_natCast, BitVec.toNat_ofNat]
    omega
  have h1 : x ||| y < 256 := Nat.or_lt_two_pow (n := 8) hx hy
  have h2 : x &&& y < 256 := Nat.and_lt_two_pow (n := 8) x hy
  have h3 : x ^^^ y < 256 := Nat.xor_lt_two_pow (n := 8) hx hy
  refine ⟨?_, ?_, ?_⟩
  · rw [BitVec.toNat_or, e x hx, e y hy]; exact w64 (by omega)
  · rw [BitVec.toNat_and, e x hx, e y hy]; exact w64 (by omega)
  · rw [BitVec.toNat_xor, e x hx, e y hy]; exact w64 (by omega)
/-- what an operation makes of its numbers: the result and the flag (-1: none) -/
def outM (op x y nn s : Int) (reset : Bool) : Option (Int × Int) :=
  if op = 8 then some (nn, -1) else if op = 9 then some (x + nn, -1) else if op = 10 then some (y, -1)
  else if op = 11 then some (((x.toNat ||| y.toNat : Nat) : Int), logF reset) else if op = 12 then some (((x.toNat &&& y.toNat : Nat) : Int), logF reset) else if op = 13 then some (((x.toNat ^^^ y.toNat : Nat) : Int), logF reset)
  else if op = 14 then some (x + y, if decide (255 < x + y) then 1 else 0) else if op = 15 then some (x - y, if decide (y ≤ x) then 1 else 0) else if op = 16 then some (s / 2, if decide (s % 2 = 1) then 1 else 0)
  else if op = 17 then some (y - x, if decide (x ≤ y) then 1 else 0) else if op = 18 then some (2 * s, if decide (128 ≤ s) then 1 else 0) else none


theorem shr_one {s : Int} (h : 0 ≤ s) : s.fdiv (2 ^ (min (1 : Int).toNat IntKind.i64.bits)) = s / 2 := by
  rw [show (min (1 : Int).toNat IntKind.i64.bits) = 1 by rfl]
  exact Int.fdiv_eq_ediv_of_nonneg s (by decide)
theorem shl_one {s : Int} (h : 0 ≤ s ∧ s ≤ 255) : IntKind.i64.wrap (s * 2 ^ (min (1 : Int).toNat IntKind.i64.bits)) = 2 * s := by
  rw [show (min (1 : Int).toNat IntKind.i64.bits) = 1 by rfl, show (2 : Int) ^ 1 = 2 by rfl]
  exact (w64 (by omega)).trans (by omega)
theorem and_one {s : Int} (h : 0 ≤ s ∧ s ≤ 255) : IntKind.i64.wrap (BitVec.ofInt IntKind.i64.bits s &&& BitVec.ofInt IntKind.i64.bits 1).toNat = s % 2 := by
  obtain ⟨n, rfl⟩ := Int.eq_ofNat_of_zero_le h.1
  have h1 := (bits_nat n 1 (by omega) (by decide)).2.1
  rw [show ((1 : Nat) : Int) = 1 by rfl] at h1
  rw [h1, Nat.and_one_is_mod]
  omega


theorem op18_8 (x y nn s : Int) (w : World) (hx : 0 ≤ x ∧ x ≤ 255) (hy : 0 ≤ y ∧ y ≤ 255) (hn : 0 ≤ nn ∧ nn ≤ 255) (hs : 0 ≤ s ∧ s ≤ 255) :
    Calls Try.prog 25 #[.int .i64 x, .int .i64 y, .int .i64 nn, .int .i64 s] w fun e w' => e = .returned (.agg #[.int .i64 nn, .int .i64 (-1)]) ∧ Sat w [] [] w' := by
  refine enter Try.func25 rfl rfl rfl ?_
  refine r_seq ?_
  refine r_region ?_
  refine r_alloc rfl rfl fun b8 => ?_
  refine r_nil ?_
  refine r_tn ?_
  refine r_seq ?_
  refine r_region ?_
  refine r_move rfl rfl ?_
  refine r_call rfl rfl rfl (by kernel_rfl) rfl (fun w hw => by exact plain18 nn w) ?_
  refine r_storeV rfl rfl rfl rfl rfl rfl ?_
  refine r_nil ?_
  refine r_tn ?_
  refine r_ret ?_
  exact r_done1 (.inl rfl) rfl (res_cellV rfl rfl rfl rfl) fun w hw => ⟨rfl, hw.clear⟩

theorem op18_9 (x y nn s : Int) (w : World) (hx : 0 ≤ x ∧ x ≤ 255) (hy : 0 ≤ y ∧ y ≤ 255) (hn : 0 ≤ nn ∧ nn ≤ 255) (hs : 0 ≤ s ∧ s ≤ 255) :
    Calls Try.prog 26 #[.int .i64 x, .int .i64 y, .int .i64 nn, .int .i64 s] w fun e w' => e = .returned (.agg #[.int .i64 (x + nn), .int .i64 (-1)]) ∧ Sat w [] [] w' := by
  refine enter Try.func26 rfl rfl rfl ?_
  refine r_seq ?_
  refine r_region ?_
  refine r_alloc rfl rfl fun b8 => ?_
  refine r_nil ?_
  refine r_tn ?_
  refine r_seq ?_
  refine r_region ?_
  refine r_move rfl rfl ?_
  refine r_move rfl rfl ?_
  refine r_add rfl rfl rfl (w64 (by omega)) ?_
  refine r_call rfl rfl rfl (by kernel_rfl) rfl (fun w hw => by exact plain18 (x + nn) w) ?_
  refine r_storeV rfl rfl rfl rfl rfl rfl ?_
  refine r_nil ?_
  refine r_tn ?_
  refine r_ret ?_
  exact r_done1 (.inl rfl) rfl (res_cellV rfl rfl rfl rfl) fun w hw => ⟨rfl, hw.clear⟩

theorem op18_10 (x y nn s : Int) (w : World) (hx : 0 ≤ x ∧ x ≤ 255) (hy : 0 ≤ y ∧ y ≤ 255) (hn : 0 ≤ nn ∧ nn ≤ 255) (hs : 0 ≤ s ∧ s ≤ 255) :
    Calls Try.prog 27 #[.int .i64 x, .int .i64 y, .int .i64 nn, .int .i64 s] w fun e w' => e = .returned (.agg #[.int .i64 y, .int .i64 (-1)]) ∧ Sat w [] [] w' := by
  refine enter Try.func27 rfl rfl rfl ?_
  refine r_seq ?_
  refine r_region ?_
  refine r_alloc rfl rfl fun b8 => ?_
  refine r_nil ?_
  refine r_tn ?_
  refine r_seq ?_
  refine r_region ?_
  refine r_move rfl rfl ?_
  refine r_call rfl rfl rfl (by kernel_rfl) rfl (fun w hw => by exact plain18 y w) ?_
  refine r_storeV rfl rfl rfl rfl rfl rfl ?_
  refine r_nil ?_
  refine r_tn ?_
  refine r_ret ?_
  exact r_done1 (.inl rfl) rfl (res_cellV rfl rfl rfl rfl) fun w hw => ⟨rfl, hw.clear⟩

theorem op18_11 (b1 b3 : Nat) (reset : Bool) (x y nn s : Int) (w : World) (hb : Rd w (some ⟨b1, 0, none⟩) [.bool reset]) (hb3 : Rd w (some ⟨b3, 0, none⟩) [.func (.func 22) #[] #[.pointer (some ⟨b1, 0, none⟩)]]) (hx : 0 ≤ x ∧ x ≤ 255) (hy : 0 ≤ y ∧ y ≤ 255) (hn : 0 ≤ nn ∧ nn ≤ 255) (hs : 0 ≤ s ∧ s ≤ 255) :
    Calls Try.prog 28 #[.int .i64 x, .int .i64 y, .int .i64 nn, .int .i64 s, .pointer (some ⟨b3, 0, none⟩)] w fun e w' => e = .returned (.agg #[.int .i64 (((x.toNat ||| y.toNat : Nat)) : Int), .int .i64 (logF reset)]) ∧ Sat w [] [] w' := by
  obtain ⟨X, rfl⟩ := Int.eq_ofNat_of_zero_le hx.1
  obtain ⟨Y, rfl⟩ := Int.eq_ofNat_of_zero_le hy.1
  refine enter Try.func28 rfl rfl rfl ?_
  refine r_seq ?_
  refine r_region ?_
  refine r_alloc rfl rfl fun b9 => ?_
  refine r_nil ?_
  refine r_tn ?_
  refine r_seq ?_
  refine r_region ?_
  refine r_loadC rfl rfl rfl (fun w hw => (hb3.keep hw).cell (j := 0) rfl rfl) ?_
  refine r_move rfl rfl ?_
  refine r_move rfl rfl ?_
  refine r_or rfl rfl rfl ((bits_nat X Y (by omega) (by omega)).1) ?_
  refine r_call rfl rfl rfl (by kernel_rfl) rfl (fun w hw => by exact logic18 b1 reset ((X ||| Y : Nat) : Int) w (hb.keep hw)) ?_
  refine r_storeV rfl rfl rfl rfl rfl rfl ?_
  refine r_nil ?_
  refine r_tn ?_
  refine r_ret ?_
  exact r_done1 (.inl rfl) rfl (res_cellV rfl rfl rfl rfl) fun w hw => ⟨rfl, hw.clear⟩

theorem op18_12 (b1 b3 : Nat) (reset : Bool) (x y nn s : Int) (w : World) (hb : Rd w (some ⟨b1, 0, none⟩) [.bool reset]) (hb3 : Rd w (some ⟨b3, 0, none⟩) [.func (.func 22) #[] #[.pointer (some ⟨b1, 0, none⟩)]]) (hx : 0 ≤ x ∧ x ≤ 255) (hy : 0 ≤ y ∧ y ≤ 255) (hn : 0 ≤ nn ∧ nn ≤ 255) (hs : 0 ≤ s ∧ s ≤ 255) :
    Calls Try.prog 29 #[.int .i64 x, .int .i64 y, .int .i64 nn, .int .i64 s, .pointer (some ⟨b3, 0, none⟩)] w fun e w' => e = .returned (.agg #[.int .i64 (((x.toNat &&& y.toNat : Nat)) : Int), .int .i64 (logF reset)]) ∧ Sat w [] [] w' := by
  obtain ⟨X, rfl⟩ := Int.eq_ofNat_of_zero_le hx.1
  obtain ⟨Y, rfl⟩ := Int.eq_ofNat_of_zero_le hy.1
  refine enter Try.func29 rfl rfl rfl ?_
  refine r_seq ?_
  refine r_region ?_
  refine r_alloc rfl rfl fun b9 => ?_
  refine r_nil ?_
  refine r_tn ?_
  refine r_seq ?_
  refine r_region ?_
  refine r_loadC rfl rfl rfl (fun w hw => (hb3.keep hw).cell (j := 0) rfl rfl) ?_
  refine r_move rfl rfl ?_
  refine r_move rfl rfl ?_
  refine r_and rfl rfl rfl ((bits_nat X Y (by omega) (by omega)).2.1) ?_
  refine r_call rfl rfl rfl (by kernel_rfl) rfl (fun w hw => by exact logic18 b1 reset ((X &&& Y : Nat) : Int) w (hb.keep hw)) ?_
  refine r_storeV rfl rfl rfl rfl rfl rfl ?_
  refine r_nil ?_
  refine r_tn ?_
  refine r_ret ?_
  exact r_done1 (.inl rfl) rfl (res_cellV rfl rfl rfl rfl) fun w hw => ⟨rfl, hw.clear⟩

theorem op18_13 (b1 b3 : Nat) (reset : Bool) (x y nn s : Int) (w : World) (hb : Rd w (some ⟨b1, 0, none⟩) [.bool reset]) (hb3 : Rd w (some ⟨b3, 0, none⟩) [.func (.func 22) #[] #[.pointer (some ⟨b1, 0, none⟩)]]) (hx : 0 ≤ x ∧ x ≤ 255) (hy : 0 ≤ y ∧ y ≤ 255) (hn : 0 ≤ nn ∧ nn ≤ 255) (hs : 0 ≤ s ∧ s ≤ 255) :
    Calls Try.prog 30 #[.int .i64 x, .int .i64 y, .int .i64 nn, .int .i64 s, .pointer (some ⟨b3, 0, none⟩)] w fun e w' => e = .returned (.agg #[.int .i64 (((x.toNat ^^^ y.toNat : Nat)) : Int), .int .i64 (logF reset)]) ∧ Sat w [] [] w' := by
  obtain ⟨X, rfl⟩ := Int.eq_ofNat_of_zero_le hx.1
  obtain ⟨Y, rfl⟩ := Int.eq_ofNat_of_zero_le hy.1
  refine enter Try.func30 rfl rfl rfl ?_
  refine r_seq ?_
  refine r_region ?_
  refine r_alloc rfl rfl fun b9 => ?_
  refine r_nil ?_
  refine r_tn ?_
  refine r_seq ?_
  refine r_region ?_
  refine r_loadC rfl rfl rfl (fun w hw => (hb3.keep hw).cell (j := 0) rfl rfl) ?_
  refine r_move rfl rfl ?_
  refine r_move rfl rfl ?_
  refine r_xor rfl rfl rfl ((bits_nat X Y (by omega) (by omega)).2.2) ?_
  refine r_call rfl rfl rfl (by kernel_rfl) rfl (fun w hw => by exact logic18 b1 reset ((X ^^^ Y : Nat) : Int) w (hb.keep hw)) ?_
  refine r_storeV rfl rfl rfl rfl rfl rfl ?_
  refine r_nil ?_
  refine r_tn ?_
  refine r_ret ?_
  exact r_done1 (.inl rfl) rfl (res_cellV rfl rfl rfl rfl) fun w hw => ⟨rfl, hw.clear⟩

theorem op18_14 (x y nn s : Int) (w : World) (hx : 0 ≤ x ∧ x ≤ 255) (hy : 0 ≤ y ∧ y ≤ 255) (hn : 0 ≤ nn ∧ nn ≤ 255) (hs : 0 ≤ s ∧ s ≤ 255) :
    Calls Try.prog 31 #[.int .i64 x, .int .i64 y, .int .i64 nn, .int .i64 s] w fun e w' => e = .returned (.agg #[.int .i64 (x + y), .int .i64 (if decide (255 < x + y) then 1 else 0)]) ∧ Sat w [] [] w' := by
  refine enter Try.func31 rfl rfl rfl ?_
  refine r_seq ?_
  refine r_region ?_
  refine r_alloc rfl rfl fun b8 => ?_
  refine r_nil ?_
  refine r_tn ?_
  refine r_seq ?_
  refine r_region ?_
  refine r_move rfl rfl ?_
  refine r_move rfl rfl ?_
  refine r_add rfl rfl rfl (w64 (by omega)) ?_
  refine r_move rfl rfl ?_
  refine r_move rfl rfl ?_
  refine r_add rfl rfl rfl (w64 (by omega)) ?_
  refine r_gtr rfl rfl rfl rfl ?_
  refine r_call rfl rfl rfl (by kernel_rfl) rfl (fun w hw => by exact flagged18 (x + y) (decide (255 < x + y)) w) ?_
  refine r_storeV rfl rfl rfl rfl rfl rfl ?_
  refine r_nil ?_
  refine r_tn ?_
  refine r_ret ?_
  exact r_done1 (.inl rfl) rfl (res_cellV rfl rfl rfl rfl) fun w hw => ⟨rfl, hw.clear⟩

theorem op18_15 (x y nn s : Int) (w : World) (hx : 0 ≤ x ∧ x ≤ 255) (hy : 0 ≤ y ∧ y ≤ 255) (hn : 0 ≤ nn ∧ nn ≤ 255) (hs : 0 ≤ s ∧ s ≤ 255) :
    Calls Try.prog 32 #[.int .i64 x, .int .i64 y, .int .i64 nn, .int .i64 s] w fun e w' => e = .returned (.agg #[.int .i64 (x - y), .int .i64 (if decide (y ≤ x) then 1 else 0)]) ∧ Sat w [] [] w' := by
  refine enter Try.func32 rfl rfl rfl ?_
  refine r_seq ?_
  refine r_region ?_
  refine r_alloc rfl rfl fun b8 => ?_
  refine r_nil ?_
  refine r_tn ?_
  refine r_seq ?_
  refine r_region ?_
  refine r_move rfl rfl ?_
  refine r_move rfl rfl ?_
  refine r_sub rfl rfl rfl (w64 (by omega)) ?_
  refine r_move rfl rfl ?_
  refine r_move rfl rfl ?_
  refine r_geq rfl rfl rfl rfl ?_
  refine r_call rfl rfl rfl (by kernel_rfl) rfl (fun w hw => by exact flagged18 (x - y) (decide (y ≤ x)) w) ?_
  refine r_storeV rfl rfl rfl rfl rfl rfl ?_
  refine r_nil ?_
  refine r_tn ?_
  refine r_ret ?_
  exact r_done1 (.inl rfl) rfl (res_cellV rfl rfl rfl rfl) fun w hw => ⟨rfl, hw.clear⟩

theorem op18_17 (x y nn s : Int) (w : World) (hx : 0 ≤ x ∧ x ≤ 255) (hy : 0 ≤ y ∧ y ≤ 255) (hn : 0 ≤ nn ∧ nn ≤ 255) (hs : 0 ≤ s ∧ s ≤ 255) :
    Calls Try.prog 33 #[.int .i64 x, .int .i64 y, .int .i64 nn, .int .i64 s] w fun e w' => e = .returned (.agg #[.int .i64 (y - x), .int .i64 (if decide (x ≤ y) then 1 else 0)]) ∧ Sat w [] [] w' := by
  refine enter Try.func33 rfl rfl rfl ?_
  refine r_seq ?_
  refine r_region ?_
  refine r_alloc rfl rfl fun b8 => ?_
  refine r_nil ?_
  refine r_tn ?_
  refine r_seq ?_
  refine r_region ?_
  refine r_move rfl rfl ?_
  refine r_move rfl rfl ?_
  refine r_sub rfl rfl rfl (w64 (by omega)) ?_
  refine r_move rfl rfl ?_
  refine r_move rfl rfl ?_
  refine r_geq rfl rfl rfl rfl ?_
  refine r_call rfl rfl rfl (by kernel_rfl) rfl (fun w hw => by exact flagged18 (y - x) (decide (x ≤ y)) w) ?_
  refine r_storeV rfl rfl rfl rfl rfl rfl ?_
  refine r_nil ?_
  refine r_tn ?_
  refine r_ret ?_
  exact r_done1 (.inl rfl) rfl (res_cellV rfl rfl rfl rfl) fun w hw => ⟨rfl, hw.clear⟩

theorem op18_16 (x y nn s : Int) (w : World) (hx : 0 ≤ x ∧ x ≤ 255) (hy : 0 ≤ y ∧ y ≤ 255) (hn : 0 ≤ nn ∧ nn ≤ 255) (hs : 0 ≤ s ∧ s ≤ 255) :
    Calls Try.prog 34 #[.int .i64 x, .int .i64 y, .int .i64 nn, .int .i64 s] w fun e w' => e = .returned (.agg #[.int .i64 (s / 2), .int .i64 (if decide (s % 2 = 1) then 1 else 0)]) ∧ Sat w [] [] w' := by
  refine enter Try.func34 rfl rfl rfl ?_
  refine r_seq ?_
  refine r_region ?_
  refine r_alloc rfl rfl fun b8 => ?_
  refine r_nil ?_
  refine r_tn ?_
  refine r_seq ?_
  refine r_region ?_
  refine r_move rfl rfl ?_
  refine r_shr rfl rfl rfl (by decide) (show _ = s / 2 from shr_one hs.1) ?_
  refine r_move rfl rfl ?_
  refine r_and rfl rfl rfl (and_one hs) ?_
  refine r_eql rfl rfl rfl rfl ?_
  refine r_call rfl rfl rfl (by kernel_rfl) rfl (fun w hw => by exact flagged18 (s / 2) (decide (s % 2 = 1)) w) ?_
  refine r_storeV rfl rfl rfl rfl rfl rfl ?_
  refine r_nil ?_
  refine r_tn ?_
  refine r_ret ?_
  exact r_done1 (.inl rfl) rfl (res_cellV rfl rfl rfl rfl) fun w hw => ⟨rfl, hw.clear⟩

theorem op18_18 (x y nn s : Int) (w : World) (hx : 0 ≤ x ∧ x ≤ 255) (hy : 0 ≤ y ∧ y ≤ 255) (hn : 0 ≤ nn ∧ nn ≤ 255) (hs : 0 ≤ s ∧ s ≤ 255) :
    Calls Try.prog 35 #[.int .i64 x, .int .i64 y, .int .i64 nn, .int .i64 s] w fun e w' => e = .returned (.agg #[.int .i64 (2 * s), .int .i64 (if decide (128 ≤ s) then 1 else 0)]) ∧ Sat w [] [] w' := by
  refine enter Try.func35 rfl rfl rfl ?_
  refine r_seq ?_
  refine r_region ?_
  refine r_alloc rfl rfl fun b8 => ?_
  refine r_nil ?_
  refine r_tn ?_
  refine r_seq ?_
  refine r_region ?_
  refine r_move rfl rfl ?_
  refine r_shl rfl rfl rfl (by decide) (shl_one hs) ?_
  refine r_move rfl rfl ?_
  refine r_geq rfl rfl rfl rfl ?_
  refine r_call rfl rfl rfl (by kernel_rfl) rfl (fun w hw => by exact flagged18 (2 * s) (decide (128 ≤ s)) w) ?_
  refine r_storeV rfl rfl rfl rfl rfl rfl ?_
  refine r_nil ?_
  refine r_tn ?_
  refine r_ret ?_
  exact r_done1 (.inl rfl) rfl (res_cellV rfl rfl rfl rfl) fun w hw => ⟨rfl, hw.clear⟩

def opsE (b3 : Nat) : Array MapEntry := #[⟨.int .i64 8, .func (.func 25) #[] #[], 0⟩, ⟨.int .i64 9, .func (.func 26) #[] #[], 1⟩, ⟨.int .i64 10, .func (.func 27) #[] #[], 2⟩, ⟨.int .i64 11, .func (.func 28) #[] #[.pointer (some ⟨b3, 0, none⟩)], 3⟩, ⟨.int .i64 12, .func (.func 29) #[] #[.pointer (some ⟨b3, 0, none⟩)], 4⟩, ⟨.int .i64 13, .func (.func 30) #[] #[.pointer (some ⟨b3, 0, none⟩)], 5⟩, ⟨.int .i64 14, .func (.func 31) #[] #[], 6⟩, ⟨.int .i64 15, .func (.func 32) #[] #[], 7⟩, ⟨.int .i64 17, .func (.func 33) #[] #[], 8⟩, ⟨.int .i64 16, .func (.func 34) #[] #[], 9⟩, ⟨.int .i64 18, .func (.func 35) #[] #[], 10⟩]
theorem operations18 (reset : Bool) (w : World) :
    Calls Try.prog 15 #[.bool reset] w fun e w' => ∃ i : Nat × Nat × Nat, e = .returned (.map (some i.1)) ∧ True ∧ Sat w [] [.blk i.1 (.map (opsE i.2.1) 11), .blk i.2.1 (.cells #[.func (.func 22) #[] #[.pointer (some ⟨i.2.2, 0, none⟩)]] 54 (0, 0)), .blk i.2.2 (.cells #[.bool reset] 4 (0, 0))] w' := by
  refine enter Try.func15 rfl rfl rfl ?_
  refine r_seq ?_
  refine r_region ?_
  refine r_box rfl rfl fun b1 => ?_
  refine r_assign rfl rfl ?_
  refine r_nil ?_
  refine r_tn ?_
  refine r_seq ?_
  refine r_region ?_
  refine r_makeFunc rfl rfl rfl ?_
  refine r_alloc rfl rfl fun b3 => ?_
  refine r_store1 rfl rfl rfl rfl rfl (Nat.le_of_ble_eq_true rfl) ?_
  refine r_nil ?_
  refine r_tn ?_
  refine r_seq ?_
  refine r_region ?_
  refine r_makeMap rfl fun b5 => ?_
  refine r_insert rfl rfl rfl rfl rfl rfl rfl ?_
  refine r_insert rfl rfl rfl rfl rfl rfl rfl ?_
  refine r_insert rfl rfl rfl rfl rfl rfl rfl ?_
  refine r_makeFunc rfl rfl rfl ?_
  refine r_insert rfl rfl rfl rfl rfl rfl rfl ?_
  refine r_makeFunc rfl rfl rfl ?_
  refine r_insert rfl rfl rfl rfl rfl rfl rfl ?_
  refine r_makeFunc rfl rfl rfl ?_
  refine r_insert rfl rfl rfl rfl rfl rfl rfl ?_
  refine r_insert rfl rfl rfl rfl rfl rfl rfl ?_
  refine r_insert rfl rfl rfl rfl rfl rfl rfl ?_
  refine r_insert rfl rfl rfl rfl rfl rfl rfl ?_
  refine r_insert rfl rfl rfl rfl rfl rfl rfl ?_
  refine r_insert rfl rfl rfl rfl rfl rfl rfl ?_
  refine r_move rfl rfl ?_
  refine r_assign rfl rfl ?_
  refine r_nil ?_
  refine r_tn ?_
  refine r_ret ?_
  exact r_done1 (.inl rfl) rfl (res_tmp rfl) fun w hw => ⟨(b5, b3, b1), rfl, trivial, hw⟩
end Go.Proofs.Ytddoohbgiieiiaa
