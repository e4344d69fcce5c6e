/-
  Rows of pixels (chapter 06): Sprite.
-/
import Derived.Test.YtahanpobeekhiaaRowE06
namespace Go.Proofs.Ytahanpobeekhiaa
open Go Go.RowKit
set_option linter.unusedVariables false
set_option linter.unusedSimpArgs false
set_option maxHeartbeats 2000000

/-- a pixel plotted: clipped, or wrapped around a width w -/
def plotP (q : Nat → Bool) (at_ w : Nat) (clip : Bool) : Nat → Bool :=
  if at_ < w then setP q at_ true else if clip then q else setP q ((at_ : Int) - w) true
/-- the first pixels of a pattern -/
def sprK (bits count x w : Nat) (clip : Bool) : Nat → Nat → Bool
  | 0 => noneP
  | i + 1 => bif bits.testBit (count - 1 - i) then plotP (sprK bits count x w clip i) (x + i) w clip else sprK bits count x w clip i
theorem shr16 {x : Nat} (hx : x < 65536) (n : Nat) : ((x : Nat) : Int).fdiv (2 ^ (min ((n : Nat) : Int).toNat IntKind.u16.bits)) = ((x >>> n : Nat) : Int) := by
  have e : ((n : Nat) : Int).toNat = n := rfl
  have e2 : IntKind.u16.bits = 16 := rfl
  have hx : x < 2 ^ 16 := hx
  rw [e, e2]
  rw [Int.fdiv_eq_ediv_of_nonneg _ (Int.le_of_lt (Int.pow_pos (by decide)))]
  rw [show ((2 : Int) ^ min n 16) = ((2 ^ min n 16 : Nat) : Int) by simp, ← Int.natCast_ediv]
  congr 1
  rw [Nat.shiftRight_eq_div_pow]
  by_cases h : n ≤ 16
  · rw [Nat.min_eq_left h]
  · rw [Nat.min_eq_right (by omega), Nat.div_eq_of_lt hx, Nat.div_eq_of_lt (Nat.lt_of_lt_of_le hx (Nat.pow_le_pow_right (by decide) (by omega)))]
theorem and16 {x : Nat} (h : x < 65536) : IntKind.u16.wrap (BitVec.ofInt IntKind.u16.bits (x : Int) &&& BitVec.ofInt IntKind.u16.bits 1).toNat = ((x % 2 : Nat) : Int) := by
  have e : ∀ z : Nat, z < 65536 → (BitVec.ofInt IntKind.u16.bits (z : Int)).toNat = z := fun z hz => by
    show (BitVec.ofInt 16 (z : Int)).toNat = z
    rw [BitVec.ofInt_natCast, BitVec.toNat_ofNat]
    exact Nat.mod_eq_of_lt hz
  rw [BitVec.toNat_and, e x h, show (BitVec.ofInt IntKind.u16.bits 1).toNat = 1 from e 1 (by decide), Nat.and_one_is_mod]
  exact IntWalk.u16_in _ ⟨by omega, by omega⟩
theorem bit_dec (x k : Nat) : decide ((((x >>> k) % 2 : Nat) : Int) = 1) = x.testBit k := by
  rw [Nat.testBit_eq_decide_div_mod_eq, Nat.shiftRight_eq_div_pow]
  congr 1
  exact propext ⟨fun h => by omega, fun h => by omega⟩
theorem sh_le (x k : Nat) : x >>> k ≤ x := by rw [Nat.shiftRight_eq_div_pow]; exact Nat.div_le_self _ _


theorem plot06 (q : Nat → Bool) (at_ wd_ : Nat) (clip : Bool) (b1 b2 b3 : Nat) (n1 : b1 ≠ b2) (n3 : b3 ≠ b2) (ha : at_ < 4611686018427387904) (hwd : wd_ < 4611686018427387904) (w : World) (h1 : Rd w (some ⟨b1, 0, none⟩) [.int .i64 wd_]) (h3 : Rd w (some ⟨b3, 0, none⟩) [.bool clip])
    (hS : Sat w [b2] [.blk b2 (.cells (rowV q) 27 (0, 0))] w) :
    Calls Try.prog 52 #[.int .i64 at_, .pointer (some ⟨b1, 0, none⟩), .pointer (some ⟨b2, 0, none⟩), .pointer (some ⟨b3, 0, none⟩)] w fun e w' => e = .returned (.tuple #[]) ∧ Sat w [b2] [.blk b2 (.cells (rowV (plotP q at_ wd_ clip)) 27 (0, 0))] w' := by
  refine enterS Try.func52 rfl rfl rfl hS ?_
  refine r_block ?_
  refine r_seq ?_
  refine r_region ?_
  refine r_move rfl rfl ?_
  refine r_loadC rfl rfl rfl (fun w hw => (h1.keepS hw (by intro a ha; injection ha with ha; subst ha; simpa using n1)).cell (j := 0) rfl rfl) ?_
  refine r_lss rfl rfl rfl rfl ?_
  refine r_assign rfl rfl ?_
  refine r_nil ?_
  refine r_tn ?_
  refine r_cond rfl (fun hc => ?_) (fun hc => ?_)
  · refine r_region ?_
    refine r_loadV rfl rfl rfl rfl rfl ?_
    refine r_move rfl rfl ?_
    refine r_call rfl rfl rfl (by kernel_rfl) rfl (fun w hw => by exact rowSet q (at_ : Int) true w) ?_
    refine r_storeV rfl rfl rfl rfl rfl rfl ?_
    refine r_nil ?_
    refine r_bn ?_
    exact r_done0 (.inr rfl) rfl  fun w hw => ⟨rfl, by unfold plotP; rw [if_pos (show at_ < wd_ by have h := of_decide_eq_true hc; omega)]; exact hw⟩
  · refine r_seq ?_
    refine r_region ?_
    refine r_loadC rfl rfl rfl (fun w hw => (h3.keepS hw (by intro a ha; injection ha with ha; subst ha; simpa using n3)).cell (j := 0) rfl rfl) ?_
    refine r_not rfl rfl rfl ?_
    refine r_assign rfl rfl ?_
    refine r_nil ?_
    refine r_tn ?_
    have hc1 := hc
    refine r_cond rfl (fun hc => ?_) (fun hc => ?_)
    · refine r_region ?_
      refine r_loadV rfl rfl rfl rfl rfl ?_
      refine r_move rfl rfl ?_
      refine r_loadC rfl rfl rfl (fun w hw => (h1.keepS hw (by intro a ha; injection ha with ha; subst ha; simpa using n1)).cell (j := 0) rfl rfl) ?_
      refine r_sub rfl rfl rfl (w64 (by omega)) ?_
      refine r_call rfl rfl rfl (by kernel_rfl) rfl (fun w hw => by exact rowSet q ((at_ : Int) - wd_) true w) ?_
      refine r_storeV rfl rfl rfl rfl rfl rfl ?_
      refine r_nil ?_
      refine r_bn ?_
      exact r_done0 (.inr rfl) rfl  fun w hw => ⟨rfl, by unfold plotP; rw [if_neg (show ¬ at_ < wd_ by have h := of_decide_eq_false hc1; omega), if_neg (by simpa using hc)]; exact hw⟩
    · refine r_skip ?_
      refine r_bn ?_
      exact r_done0 (.inr rfl) rfl  fun w hw => ⟨rfl, by unfold plotP; rw [if_neg (show ¬ at_ < wd_ by have h := of_decide_eq_false hc1; omega), if_pos (by simpa using hc)]; exact hw⟩

theorem rowSprite (bits count x wd_ : Nat) (clip : Bool) (w : World) (hb : bits < 65536) (hcn : count ≤ 64) (hx : x < 2305843009213693952) (hwd : wd_ ≤ 128) :
    Calls Try.prog 22 #[.int .u16 (bits : Int), .int .i64 (count : Int), .int .i64 (x : Int), .int .i64 (wd_ : Int), .bool clip] w fun e w' => e = .returned (.agg (rowV (sprK bits count x wd_ clip count))) ∧ Sat w [] [] w' := by
  refine enter Try.func22 rfl rfl rfl ?_
  refine r_seq ?_
  refine r_region ?_
  refine r_box1 rfl rfl rfl fun b8 => ?_
  refine r_box1 rfl rfl rfl fun b9 => ?_
  refine r_allocV (cs := #[.int .u64 0, .int .u64 0]) rfl rfl fun b10 => ?_
  refine r_nil ?_
  refine r_tn ?_
  refine r_seq ?_
  refine r_region ?_
  refine r_allocV (cs := rowV (sprK bits count x wd_ clip 0)) rfl rfl fun b11 => ?_
  refine r_nil ?_
  refine r_tn ?_
  refine r_seq ?_
  refine r_region ?_
  refine r_makeFunc rfl rfl rfl ?_
  refine r_assign rfl rfl ?_
  refine r_nil ?_
  refine r_tn ?_
  refine r_seq ?_
  refine r_seq ?_
  refine r_region ?_
  refine r_move rfl rfl ?_
  refine r_move rfl rfl ?_
  refine r_nil ?_
  refine r_tn ?_
  refine r_block ?_
  refine r_loopN (fun i => [(0, .int .u16 (bits : Int)), (1, .int .i64 (count : Int)), (2, .int .i64 (x : Int)), (10, .pointer (some ⟨b10, 0, none⟩)), (11, .pointer (some ⟨b11, 0, none⟩)), (12, .func (.func 52) #[] #[.pointer (some ⟨b8, 0, none⟩), .pointer (some ⟨b11, 0, none⟩), .pointer (some ⟨b9, 0, none⟩)]), (15, .int .i64 (count : Int)), (16, .int .i64 (i : Int))]) (fun i => [.blk b8 (.cells #[.int .i64 wd_] 3 (0, 0)), .blk b9 (.cells #[.bool clip] 4 (0, 0)), .blk b10 (.cells #[.int .u64 0, .int .u64 0] 27 (0, 0)), .blk b11 (.cells (rowV (sprK bits count x wd_ clip i)) 27 (0, 0))]) (fun i => i ≤ count) count 0 (by omega) ⟨rfl, rfl, rfl, rfl, rfl, rfl, rfl, rfl, trivial⟩ (fun w hw => hw.sub) fun i hi => ?_
  refine r_seq ?_
  refine r_region ?_
  refine r_lss rfl rfl rfl rfl ?_
  refine r_nil ?_
  refine r_tn ?_
  refine r_seq ?_
  refine r_cond rfl (fun hc => ?_) (fun hc => ?_)
  · refine r_skip ?_
    refine r_tn ?_
    refine r_seq ?_
    refine r_block ?_
    refine r_seq ?_
    refine r_region ?_
    have hi2 : i < count := by have h := of_decide_eq_true hc; omega
    refine r_move rfl rfl ?_
    refine r_assign rfl rfl ?_
    refine r_nil ?_
    refine r_tn ?_
    refine r_seq ?_
    refine r_region ?_
    refine r_move rfl rfl ?_
    refine r_move rfl rfl ?_
    refine r_sub rfl rfl rfl (w64 (by omega)) ?_
    refine r_move rfl rfl ?_
    refine r_sub rfl rfl rfl (w64 (by omega)) ?_
    refine r_convert (r := ((count - 1 - i : Nat) : Int)) rfl rfl rfl rfl ((IntWalk.u64_in _ ⟨by omega, by omega⟩).trans (by omega)) ?_
    refine r_shr (r := ((bits >>> (count - 1 - i) : Nat) : Int)) rfl rfl rfl (by omega) (shr16 hb _) ?_
    refine r_and rfl rfl rfl (and16 (Nat.lt_of_le_of_lt (sh_le _ _) hb)) ?_
    refine r_eql rfl rfl rfl (bit_dec bits (count - 1 - i)) ?_
    refine r_nil ?_
    refine r_tn ?_
    refine r_cond rfl (fun hc => ?_) (fun hc => ?_)
    · refine r_region ?_
      refine r_move rfl rfl ?_
      refine r_move rfl rfl ?_
      refine r_move rfl rfl ?_
      refine r_add (r := ((x + i : Nat) : Int)) rfl rfl rfl ((w64 (by omega)).trans (by omega)) ?_
      refine r_callbw0 (b := b11) rfl rfl rfl (by kernel_rfl) rfl (fun w hw hs => by exact plot06 (sprK bits count x wd_ clip i) (x + i) wd_ clip b8 b11 b9 (Sat.ne (b1 := b8) (b2 := b11) hw) (Sat.ne (b1 := b9) (b2 := b11) hw) (by omega) (by omega) w (Rd.blk (hw.look (HasBlk.pick (b := b8))) (fun j u h => by simpa using h)) (Rd.blk (hw.look (HasBlk.pick (b := b9))) (fun j u h => by simpa using h)) hs) ?_
      refine r_nil ?_
      refine r_bn ?_
      refine r_tn ?_
      refine r_region ?_
      refine r_add rfl rfl rfl (w64 (by omega)) ?_
      refine r_move rfl rfl ?_
      refine r_nil ?_
      refine r_tn ?_
      exact r_againN (i + 1) (by omega) (by omega) ⟨rfl, rfl, rfl, rfl, rfl, rfl, rfl, rfl, trivial⟩ (fun w hw => by have e : sprK bits count x wd_ clip (i + 1) = _ := rfl; simp only [sprK, hc, cond_true, cond_false]; exact hw.sub)
    · refine r_skip ?_
      refine r_bn ?_
      refine r_tn ?_
      refine r_region ?_
      refine r_add rfl rfl rfl (w64 (by omega)) ?_
      refine r_move rfl rfl ?_
      refine r_nil ?_
      refine r_tn ?_
      exact r_againN (i + 1) (by omega) (by omega) ⟨rfl, rfl, rfl, rfl, rfl, rfl, rfl, rfl, trivial⟩ (fun w hw => by have e : sprK bits count x wd_ clip (i + 1) = _ := rfl; simp only [sprK, hc, cond_true, cond_false]; exact hw.sub)
  · refine r_exit ?_
    refine r_te ?_
    refine r_te ?_
    refine r_be ?_
    refine r_tn ?_
    refine r_seq ?_
    refine r_region ?_
    refine r_loadV rfl rfl rfl rfl rfl ?_
    refine r_storeV rfl rfl rfl rfl rfl rfl ?_
    refine r_nil ?_
    refine r_tn ?_
    refine r_ret ?_
    have hi2 : i = count := by have h := of_decide_eq_false hc; omega
    subst hi2
    exact r_done1 (.inl rfl) rfl (res_cellV rfl rfl rfl rfl) fun w hw => ⟨rfl, hw.clear⟩
end Go.Proofs.Ytahanpobeekhiaa
