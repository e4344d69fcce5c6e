/-
  RowMoves, for every pattern.
-/
import Derived.Test.YtahanpobeekhiaaAw06
namespace Go.Proofs.Ytahanpobeekhiaa
open Go Go.RowKit
set_option linter.unusedVariables false
set_option linter.unusedSimpArgs false
set_option maxHeartbeats 2000000

/-- a pattern at a position, clipped -/
theorem spr_clip (bits count x : Nat) (wide : Bool) (hc : count ≤ 64) (y : Nat) (hy : y < 128) : sprK bits count x (wd wide) true count y = (decide (y < wd wide ∧ x ≤ y ∧ y - x < count) && bits.testBit (count - 1 - (y - x))) := by
  have h128 : wd wide ≤ 128 := by cases wide <;> decide
  rw [sprK_any bits count x (wd wide) true h128 y hy count (Nat.le_refl _), Bool.eq_iff_iff]
  simp only [List.any_eq_true, List.mem_range, hit, Bool.and_eq_true, Bool.or_eq_true, decide_eq_true_eq, Bool.not_true, Bool.and_false, Bool.false_and, Bool.false_eq_true, or_false]
  constructor
  · rintro ⟨i, hi, hb, h1, h2⟩
    have e : i = y - x := by omega
    subst e
    exact ⟨⟨by omega, by omega, by omega⟩, hb⟩
  · rintro ⟨⟨h1, h2, h3⟩, hb⟩
    exact ⟨y - x, h3, hb, by omega, by omega⟩
/-- a pattern at a position, wrapped -/
theorem spr_wrap (bits count x : Nat) (wide : Bool) (hc : count ≤ wd wide) (hx : x < wd wide) (y : Nat) (hy : y < 128) : sprK bits count x (wd wide) false count y =
    ((decide (y < wd wide ∧ x ≤ y ∧ y - x < count) && bits.testBit (count - 1 - (y - x))) || (decide (y + wd wide - x < count) && bits.testBit (count - 1 - (y + wd wide - x)))) := by
  have h128 : wd wide ≤ 128 := by cases wide <;> decide
  rw [sprK_any bits count x (wd wide) false h128 y hy count (Nat.le_refl _), Bool.eq_iff_iff]
  simp only [List.any_eq_true, List.mem_range, hit, Bool.and_eq_true, Bool.or_eq_true, decide_eq_true_eq, Bool.not_false, Bool.and_true, Bool.not_eq_true', decide_eq_false_iff_not]
  constructor
  · rintro ⟨i, hi, hb, h1 | h1⟩
    · have e : i = y - x := by omega
      subst e
      exact .inl ⟨⟨by omega, by omega, by omega⟩, hb⟩
    · have e : i = y + wd wide - x := by omega
      subst e
      exact .inr ⟨by omega, hb⟩
  · rintro (⟨⟨h1, h2, h3⟩, hb⟩ | ⟨h1, hb⟩)
    · exact ⟨y - x, h3, hb, .inl (by omega)⟩
    · exact ⟨y + wd wide - x, h1, hb, .inr (by omega)⟩
theorem mv_shift (bits count : Nat) (n : Int) (wide : Bool) (hc : count ≤ 64) (y : Nat) (hy : y < 128) : shiftP (sprK bits count 0 (wd wide) true count) n wide y =
    (decide (y < wd wide ∧ 0 ≤ (y : Int) - n ∧ (y : Int) - n < wd wide ∧ (y : Int) - n < count) && bits.testBit (count - 1 - ((y : Int) - n).toNat)) := by
  have h128 : wd wide ≤ 128 := by cases wide <;> decide
  unfold shiftP
  by_cases h1 : y < wd wide
  · by_cases h2 : 0 ≤ (y : Int) - n
    · by_cases h3 : (y : Int) - n < 128
      · rw [spr_clip bits count 0 wide hc _ (by omega)]
        simp only [decide_eq_true h1, decide_eq_true h2, decide_eq_true h3, Bool.true_and, Nat.sub_zero]
        congr 1; congr 1
        exact propext ⟨fun h => ⟨h1, h2, by omega, by omega⟩, fun h => ⟨by omega, by omega, by omega⟩⟩
      · rw [decide_eq_false h3, decide_eq_false (p := y < wd wide ∧ _) (fun h => by omega)]; simp
    · rw [decide_eq_false h2, decide_eq_false (p := y < wd wide ∧ _) (fun h => h2 h.2.1)]; simp
  · rw [decide_eq_false h1, decide_eq_false (p := y < wd wide ∧ _) (fun h => h1 h.1)]; simp
theorem mv_clip (bits count at_ : Nat) (wide : Bool) (hlt : at_ < wd wide) (hc : count ≤ 64) (y : Nat) (hy : y < 128) : sprK bits count at_ (wd wide) true count y = shiftP (sprK bits count 0 (wd wide) true count) (at_ : Int) wide y := by
  rw [spr_clip bits count at_ wide hc y hy, mv_shift bits count at_ wide hc y hy]
  by_cases h : at_ ≤ y
  · rw [show ((y : Int) - (at_ : Int)).toNat = y - at_ by omega]
    congr 1; congr 1
    exact propext ⟨fun h => ⟨h.1, by omega, by omega, by omega⟩, fun h => ⟨h.1, by omega, by omega⟩⟩
  · rw [decide_eq_false (p := y < wd wide ∧ _) (fun h2 => h h2.2.1), decide_eq_false (p := y < wd wide ∧ _) (fun h2 => h (by omega))]; simp
theorem mv_lost (bits count at_ : Nat) (wide : Bool) (hlt : at_ < wd wide) (hc : count ≤ 64) (y : Nat) (hy : y < 128) : (sprK bits count at_ (wd wide) true count y && shiftP (sprK bits count 0 (wd wide) true count) ((at_ : Int) - (wd wide : Nat)) wide y) = noneP y := by
  have h64 : 64 ≤ wd wide := by cases wide <;> decide
  rw [spr_clip bits count at_ wide hc y hy, mv_shift bits count _ wide hc y hy]
  by_cases h : at_ ≤ y
  · rw [decide_eq_false (p := _ ∧ 0 ≤ (y : Int) - _ ∧ _) (fun h2 => by omega)]; simp [noneP]
  · rw [decide_eq_false (p := y < wd wide ∧ at_ ≤ y ∧ _) (fun h2 => h h2.2.1)]; simp [noneP]
theorem mv_wrap (bits count at_ : Nat) (wide : Bool) (hlt : at_ < wd wide) (hc : count ≤ 64) (y : Nat) (hy : y < 128) : sprK bits count at_ (wd wide) false count y = (sprK bits count at_ (wd wide) true count y ^^ shiftP (sprK bits count 0 (wd wide) true count) ((at_ : Int) - (wd wide : Nat)) wide y) := by
  have h64 : 64 ≤ wd wide := by cases wide <;> decide
  rw [spr_wrap bits count at_ wide (by omega) hlt y hy, spr_clip bits count at_ wide hc y hy, mv_shift bits count _ wide hc y hy]
  rw [show ((y : Int) - ((at_ : Int) - (wd wide : Nat))).toNat = y + wd wide - at_ by omega]
  by_cases h : at_ ≤ y
  · rw [decide_eq_false (p := y + wd wide - at_ < count) (fun h2 => by omega), decide_eq_false (p := _ ∧ 0 ≤ (y : Int) - _ ∧ _) (fun h2 => by omega)]; simp
  · rw [decide_eq_false (p := y < wd wide ∧ at_ ≤ y ∧ _) (fun h2 => h h2.2.1)]
    simp only [Bool.false_and, Bool.false_or, Bool.false_xor]
    congr 1; congr 1
    exact propext ⟨fun h => ⟨by omega, by omega, by omega, by omega⟩, fun h => by omega⟩

theorem moves_big (bits at_ : Nat) (n : Int) (wide : Bool) (W : World) (hb : bits < 65536) (hn : 0 ≤ n ∧ n ≤ 255) (ha2 : n.tmod (wd wide : Nat) = (at_ : Int)) (hlt : at_ < wd wide) :
    Calls Try.prog 7 #[.int .u16 (bits : Int), .bool true, .int .u8 n, .bool wide] W fun e w' => e = .returned (.bool true) ∧ Sat W [] [] w' := by
  have h128 : wd wide ≤ 128 := by cases wide <;> decide
  have h64 : 64 ≤ wd wide := by cases wide <;> decide
  refine enter Try.func7 rfl rfl rfl ?_
  refine r_seq ?_
  refine r_region ?_
  refine r_assign rfl rfl ?_
  refine r_nil ?_
  refine r_tn ?_
  refine r_seq ?_
  refine r_seq ?_
  refine r_region ?_
  refine r_call rfl rfl rfl (by kernel_rfl) rfl (fun w hw => by exact awake06 w) ?_
  refine r_not rfl rfl rfl ?_
  refine r_nil ?_
  refine r_tn ?_
  refine r_cond_f rfl ?_
  refine r_skip ?_
  refine r_tn ?_
  refine r_seq ?_
  refine r_region ?_
  refine r_move rfl rfl ?_
  refine r_call rfl rfl rfl (by kernel_rfl) rfl (fun w hw => by exact width06 wide w) ?_
  refine r_assign rfl rfl ?_
  refine r_nil ?_
  refine r_tn ?_
  refine r_seq ?_
  refine r_region ?_
  refine r_move rfl rfl ?_
  refine r_convert rfl rfl rfl rfl (w64 (by omega)) ?_
  refine r_move rfl rfl ?_
  refine r_rem (r := (at_ : Int)) rfl rfl rfl (by omega) ha2 ?_
  refine r_assign rfl rfl ?_
  refine r_nil ?_
  refine r_tn ?_
  refine r_seq ?_
  refine r_region ?_
  refine r_assign rfl rfl ?_
  refine r_nil ?_
  refine r_tn ?_
  refine r_seq ?_
  refine r_seq ?_
  refine r_region ?_
  refine r_move rfl rfl ?_
  refine r_nil ?_
  refine r_tn ?_
  refine r_cond_t rfl ?_
  refine r_region ?_
  refine r_assign rfl rfl ?_
  refine r_nil ?_
  refine r_tn ?_
  refine r_seq ?_
  refine r_region ?_
  refine r_move rfl rfl ?_
  refine r_move rfl rfl ?_
  refine r_move rfl rfl ?_
  refine r_call rfl rfl rfl (by kernel_rfl) rfl (fun w hw => by exact rowSprite bits 16 0 (wd wide) true w hb (by omega) (by omega) (by omega)) ?_
  refine r_allocV (cs := #[.int .u64 0, .int .u64 0]) rfl rfl fun b12 => ?_
  refine r_storeV rfl rfl rfl rfl rfl rfl ?_
  refine r_nil ?_
  refine r_tn ?_
  refine r_seq ?_
  refine r_region ?_
  refine r_move rfl rfl ?_
  refine r_move rfl rfl ?_
  refine r_move rfl rfl ?_
  refine r_move rfl rfl ?_
  refine r_call rfl rfl rfl (by kernel_rfl) rfl (fun w hw => by exact rowSprite bits 16 at_ (wd wide) true w hb (by omega) (by omega) (by omega)) ?_
  refine r_allocV (cs := #[.int .u64 0, .int .u64 0]) rfl rfl fun b13 => ?_
  refine r_storeV rfl rfl rfl rfl rfl rfl ?_
  refine r_nil ?_
  refine r_tn ?_
  refine r_seq ?_
  refine r_region ?_
  refine r_move rfl rfl ?_
  refine r_move rfl rfl ?_
  refine r_move rfl rfl ?_
  refine r_move rfl rfl ?_
  refine r_call rfl rfl rfl (by kernel_rfl) rfl (fun w hw => by exact rowSprite bits 16 at_ (wd wide) false w hb (by omega) (by omega) (by omega)) ?_
  refine r_allocV (cs := #[.int .u64 0, .int .u64 0]) rfl rfl fun b14 => ?_
  refine r_storeV rfl rfl rfl rfl rfl rfl ?_
  refine r_nil ?_
  refine r_tn ?_
  refine r_seq ?_
  refine r_region ?_
  refine r_loadV rfl rfl rfl rfl rfl ?_
  refine r_move rfl rfl ?_
  refine r_move rfl rfl ?_
  refine r_sub rfl rfl rfl (w64 (by omega)) ?_
  refine r_move rfl rfl ?_
  refine r_call rfl rfl rfl (by kernel_rfl) rfl (fun w hw => by exact rowShift (sprK bits 16 0 (wd wide) true 16) ((at_ : Int) - (wd wide : Nat)) wide w (by omega)) ?_
  refine r_allocV (cs := #[.int .u64 0, .int .u64 0]) rfl rfl fun b15 => ?_
  refine r_storeV rfl rfl rfl rfl rfl rfl ?_
  refine r_nil ?_
  refine r_tn ?_
  refine r_seq ?_
  refine r_mixedD { xb := [], rb := [b13, b14], rs := [45, 58], fs := [], acs := [49, 61] } (by kernel_rfl) (by kernel_rfl) (fun w hw k hk => by
    simp only [List.mem_cons, List.not_mem_nil, or_false] at hk
    rcases hk with rfl | rfl <;> exact Sat.lt hw) ?_
  refine r_loadV rfl rfl rfl rfl rfl ?_
  refine r_loadV rfl rfl rfl rfl rfl ?_
  refine r_move rfl rfl ?_
  refine r_move rfl rfl ?_
  refine r_call rfl rfl rfl (by kernel_rfl) rfl (fun w hw => by exact rowShift (sprK bits 16 0 (wd wide) true 16) (at_ : Int) wide w (by omega)) ?_
  refine r_eqlAgg rfl rfl rfl rowFlat (rowV_ok _) (rowV_ok _) (by rw [rowV_congr (p := (sprK bits 16 at_ (wd wide) true 16)) (q := (shiftP (sprK bits 16 0 (wd wide) true 16) (at_ : Int) wide)) (fun y hy => mv_clip bits 16 at_ wide hlt (by omega) y hy), row_self]) ?_
  refine r_move rfl rfl ?_
  refine r_go rfl rfl ?_
  refine r_loadV rfl rfl rfl rfl rfl ?_
  refine r_go rfl rfl ?_
  refine r_loadV rfl rfl rfl rfl rfl ?_
  refine r_go rfl rfl ?_
  refine r_call rfl rfl rfl (by kernel_rfl) rfl (fun w hw => by exact rowAnd (sprK bits 16 at_ (wd wide) true 16) (shiftP (sprK bits 16 0 (wd wide) true 16) ((at_ : Int) - (wd wide : Nat)) wide) w) ?_
  refine r_go rfl rfl ?_
  refine r_call (v := .bool true) rfl rfl rfl (by kernel_rfl) rfl (fun w hw => by have h := rowEmpty (fun x => (sprK bits 16 at_ (wd wide) true 16) x && (shiftP (sprK bits 16 0 (wd wide) true 16) ((at_ : Int) - (wd wide : Nat)) wide) x) w; rw [show (eqB (fun x => (sprK bits 16 at_ (wd wide) true 16) x && (shiftP (sprK bits 16 0 (wd wide) true 16) ((at_ : Int) - (wd wide : Nat)) wide) x) noneP) = true from (eqB_iff _ _).2 fun y hy => mv_lost bits 16 at_ wide hlt (by omega) y hy] at h; exact h) ?_
  refine r_pick_t rfl rfl rfl ?_
  refine r_move rfl rfl ?_
  refine r_go rfl rfl ?_
  refine r_loadV rfl rfl rfl rfl rfl ?_
  refine r_go rfl rfl ?_
  refine r_loadV rfl rfl rfl rfl rfl ?_
  refine r_go rfl rfl ?_
  refine r_loadV rfl rfl rfl rfl rfl ?_
  refine r_go rfl rfl ?_
  refine r_call rfl rfl rfl (by kernel_rfl) rfl (fun w hw => by exact rowXor (sprK bits 16 at_ (wd wide) true 16) (shiftP (sprK bits 16 0 (wd wide) true 16) ((at_ : Int) - (wd wide : Nat)) wide) w) ?_
  refine r_go rfl rfl ?_
  refine r_eqlAgg rfl rfl rfl rowFlat (rowV_ok _) (rowV_ok _) (by rw [rowV_congr (p := (sprK bits 16 at_ (wd wide) false 16)) (q := (fun x => (sprK bits 16 at_ (wd wide) true 16) x ^^ (shiftP (sprK bits 16 0 (wd wide) true 16) ((at_ : Int) - (wd wide : Nat)) wide) x)) (fun y hy => mv_wrap bits 16 at_ wide hlt (by omega) y hy), row_self]) ?_
  refine r_pick_t rfl rfl rfl ?_
  refine r_assign rfl rfl ?_
  refine r_nil ?_
  refine r_tn ?_
  refine r_ret ?_
  exact r_done1 (.inl rfl) rfl (res_tmp rfl) fun w hw => ⟨rfl, hw.clear⟩
theorem moves_small (bits at_ : Nat) (n : Int) (wide : Bool) (W : World) (hb : bits < 65536) (hn : 0 ≤ n ∧ n ≤ 255) (ha2 : n.tmod (wd wide : Nat) = (at_ : Int)) (hlt : at_ < wd wide) :
    Calls Try.prog 7 #[.int .u16 (bits : Int), .bool false, .int .u8 n, .bool wide] W fun e w' => e = .returned (.bool true) ∧ Sat W [] [] w' := by
  have h128 : wd wide ≤ 128 := by cases wide <;> decide
  have h64 : 64 ≤ wd wide := by cases wide <;> decide
  refine enter Try.func7 rfl rfl rfl ?_
  refine r_seq ?_
  refine r_region ?_
  refine r_assign rfl rfl ?_
  refine r_nil ?_
  refine r_tn ?_
  refine r_seq ?_
  refine r_seq ?_
  refine r_region ?_
  refine r_call rfl rfl rfl (by kernel_rfl) rfl (fun w hw => by exact awake06 w) ?_
  refine r_not rfl rfl rfl ?_
  refine r_nil ?_
  refine r_tn ?_
  refine r_cond_f rfl ?_
  refine r_skip ?_
  refine r_tn ?_
  refine r_seq ?_
  refine r_region ?_
  refine r_move rfl rfl ?_
  refine r_call rfl rfl rfl (by kernel_rfl) rfl (fun w hw => by exact width06 wide w) ?_
  refine r_assign rfl rfl ?_
  refine r_nil ?_
  refine r_tn ?_
  refine r_seq ?_
  refine r_region ?_
  refine r_move rfl rfl ?_
  refine r_convert rfl rfl rfl rfl (w64 (by omega)) ?_
  refine r_move rfl rfl ?_
  refine r_rem (r := (at_ : Int)) rfl rfl rfl (by omega) ha2 ?_
  refine r_assign rfl rfl ?_
  refine r_nil ?_
  refine r_tn ?_
  refine r_seq ?_
  refine r_region ?_
  refine r_assign rfl rfl ?_
  refine r_nil ?_
  refine r_tn ?_
  refine r_seq ?_
  refine r_seq ?_
  refine r_region ?_
  refine r_move rfl rfl ?_
  refine r_nil ?_
  refine r_tn ?_
  refine r_cond_f rfl ?_
  refine r_skip ?_
  refine r_tn ?_
  refine r_seq ?_
  refine r_region ?_
  refine r_move rfl rfl ?_
  refine r_move rfl rfl ?_
  refine r_move rfl rfl ?_
  refine r_call rfl rfl rfl (by kernel_rfl) rfl (fun w hw => by exact rowSprite bits 8 0 (wd wide) true w hb (by omega) (by omega) (by omega)) ?_
  refine r_allocV (cs := #[.int .u64 0, .int .u64 0]) rfl rfl fun b12 => ?_
  refine r_storeV rfl rfl rfl rfl rfl rfl ?_
  refine r_nil ?_
  refine r_tn ?_
  refine r_seq ?_
  refine r_region ?_
  refine r_move rfl rfl ?_
  refine r_move rfl rfl ?_
  refine r_move rfl rfl ?_
  refine r_move rfl rfl ?_
  refine r_call rfl rfl rfl (by kernel_rfl) rfl (fun w hw => by exact rowSprite bits 8 at_ (wd wide) true w hb (by omega) (by omega) (by omega)) ?_
  refine r_allocV (cs := #[.int .u64 0, .int .u64 0]) rfl rfl fun b13 => ?_
  refine r_storeV rfl rfl rfl rfl rfl rfl ?_
  refine r_nil ?_
  refine r_tn ?_
  refine r_seq ?_
  refine r_region ?_
  refine r_move rfl rfl ?_
  refine r_move rfl rfl ?_
  refine r_move rfl rfl ?_
  refine r_move rfl rfl ?_
  refine r_call rfl rfl rfl (by kernel_rfl) rfl (fun w hw => by exact rowSprite bits 8 at_ (wd wide) false w hb (by omega) (by omega) (by omega)) ?_
  refine r_allocV (cs := #[.int .u64 0, .int .u64 0]) rfl rfl fun b14 => ?_
  refine r_storeV rfl rfl rfl rfl rfl rfl ?_
  refine r_nil ?_
  refine r_tn ?_
  refine r_seq ?_
  refine r_region ?_
  refine r_loadV rfl rfl rfl rfl rfl ?_
  refine r_move rfl rfl ?_
  refine r_move rfl rfl ?_
  refine r_sub rfl rfl rfl (w64 (by omega)) ?_
  refine r_move rfl rfl ?_
  refine r_call rfl rfl rfl (by kernel_rfl) rfl (fun w hw => by exact rowShift (sprK bits 8 0 (wd wide) true 8) ((at_ : Int) - (wd wide : Nat)) wide w (by omega)) ?_
  refine r_allocV (cs := #[.int .u64 0, .int .u64 0]) rfl rfl fun b15 => ?_
  refine r_storeV rfl rfl rfl rfl rfl rfl ?_
  refine r_nil ?_
  refine r_tn ?_
  refine r_seq ?_
  refine r_mixedD { xb := [], rb := [b13, b14], rs := [45, 58], fs := [], acs := [49, 61] } (by kernel_rfl) (by kernel_rfl) (fun w hw k hk => by
    simp only [List.mem_cons, List.not_mem_nil, or_false] at hk
    rcases hk with rfl | rfl <;> exact Sat.lt hw) ?_
  refine r_loadV rfl rfl rfl rfl rfl ?_
  refine r_loadV rfl rfl rfl rfl rfl ?_
  refine r_move rfl rfl ?_
  refine r_move rfl rfl ?_
  refine r_call rfl rfl rfl (by kernel_rfl) rfl (fun w hw => by exact rowShift (sprK bits 8 0 (wd wide) true 8) (at_ : Int) wide w (by omega)) ?_
  refine r_eqlAgg rfl rfl rfl rowFlat (rowV_ok _) (rowV_ok _) (by rw [rowV_congr (p := (sprK bits 8 at_ (wd wide) true 8)) (q := (shiftP (sprK bits 8 0 (wd wide) true 8) (at_ : Int) wide)) (fun y hy => mv_clip bits 8 at_ wide hlt (by omega) y hy), row_self]) ?_
  refine r_move rfl rfl ?_
  refine r_go rfl rfl ?_
  refine r_loadV rfl rfl rfl rfl rfl ?_
  refine r_go rfl rfl ?_
  refine r_loadV rfl rfl rfl rfl rfl ?_
  refine r_go rfl rfl ?_
  refine r_call rfl rfl rfl (by kernel_rfl) rfl (fun w hw => by exact rowAnd (sprK bits 8 at_ (wd wide) true 8) (shiftP (sprK bits 8 0 (wd wide) true 8) ((at_ : Int) - (wd wide : Nat)) wide) w) ?_
  refine r_go rfl rfl ?_
  refine r_call (v := .bool true) rfl rfl rfl (by kernel_rfl) rfl (fun w hw => by have h := rowEmpty (fun x => (sprK bits 8 at_ (wd wide) true 8) x && (shiftP (sprK bits 8 0 (wd wide) true 8) ((at_ : Int) - (wd wide : Nat)) wide) x) w; rw [show (eqB (fun x => (sprK bits 8 at_ (wd wide) true 8) x && (shiftP (sprK bits 8 0 (wd wide) true 8) ((at_ : Int) - (wd wide : Nat)) wide) x) noneP) = true from (eqB_iff _ _).2 fun y hy => mv_lost bits 8 at_ wide hlt (by omega) y hy] at h; exact h) ?_
  refine r_pick_t rfl rfl rfl ?_
  refine r_move rfl rfl ?_
  refine r_go rfl rfl ?_
  refine r_loadV rfl rfl rfl rfl rfl ?_
  refine r_go rfl rfl ?_
  refine r_loadV rfl rfl rfl rfl rfl ?_
  refine r_go rfl rfl ?_
  refine r_loadV rfl rfl rfl rfl rfl ?_
  refine r_go rfl rfl ?_
  refine r_call rfl rfl rfl (by kernel_rfl) rfl (fun w hw => by exact rowXor (sprK bits 8 at_ (wd wide) true 8) (shiftP (sprK bits 8 0 (wd wide) true 8) ((at_ : Int) - (wd wide : Nat)) wide) w) ?_
  refine r_go rfl rfl ?_
  refine r_eqlAgg rfl rfl rfl rowFlat (rowV_ok _) (rowV_ok _) (by rw [rowV_congr (p := (sprK bits 8 at_ (wd wide) false 8)) (q := (fun x => (sprK bits 8 at_ (wd wide) true 8) x ^^ (shiftP (sprK bits 8 0 (wd wide) true 8) ((at_ : Int) - (wd wide : Nat)) wide) x)) (fun y hy => mv_wrap bits 8 at_ wide hlt (by omega) y hy), row_self]) ?_
  refine r_pick_t rfl rfl rfl ?_
  refine r_assign rfl rfl ?_
  refine r_nil ?_
  refine r_tn ?_
  refine r_ret ?_
  exact r_done1 (.inl rfl) rfl (res_tmp rfl) fun w hw => ⟨rfl, hw.clear⟩
theorem RowMoves_walk (bits : Int) (big : Bool) (n : Int) (wide : Bool) (W : World) (hb : (Lit.int .u16 bits).wf = true) (hn : (Lit.int .u8 n).wf = true) :
    Calls Try.prog 7 #[.int .u16 bits, .bool big, .int .u8 n, .bool wide] W fun e w' => e = .returned (.bool true) ∧ Sat W [] [] w' := by
  have h1 := wfu16 hb
  have h2 := wfu8 hn
  have h64 : 64 ≤ wd wide := by cases wide <;> decide
  obtain ⟨b, rfl⟩ := Int.eq_ofNat_of_zero_le h1.1
  have e : n.tmod (wd wide : Nat) = (((n % (wd wide : Nat)).toNat : Nat) : Int) := by
    rw [Int.tmod_eq_emod_of_nonneg h2.1]
    have := Int.emod_nonneg n (show ((wd wide : Nat) : Int) ≠ 0 by omega)
    omega
  have hlt : (n % (wd wide : Nat)).toNat < wd wide := by
    have := Int.emod_lt_of_pos n (show (0 : Int) < ((wd wide : Nat) : Int) by omega)
    omega
  cases big
  · exact moves_small b _ n wide W (by omega) h2 e hlt
  · exact moves_big b _ n wide W (by omega) h2 e hlt
end Go.Proofs.Ytahanpobeekhiaa
