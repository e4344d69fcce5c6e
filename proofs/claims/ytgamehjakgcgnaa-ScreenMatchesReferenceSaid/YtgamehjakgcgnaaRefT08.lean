/-
  Screens (chapter 08): the reference: Clear, Resolution, Scroll.
-/
import Derived.Test.YtgamehjakgcgnaaRefS08
namespace Go.Proofs.Ytgamehjakgcgnaa
open Go Go.RowKit
set_option linter.unusedVariables false
set_option linter.unusedSimpArgs false
set_option maxHeartbeats 2000000
set_option maxRecDepth 4000
attribute [local irreducible] mix
attribute [local irreducible] plS4 setF stP

theorem refClear08 (P0 : Nat → Nat → Nat → Bool) (i0 : RSc) (hires : Bool) (m : Nat) (hm : m < 16) (w : World) (h0 : RefS w P0 i0) :
    Calls Try.prog 30 #[.agg (rsV i0 hires (m : Int))] w fun e w' => ∃ i : RSc, e = .returned (.agg (rsV i hires (m : Int))) ∧ (Tells P0 i0 (stP (fun _ _ => noneQ) P0 (sel m)).1 i) ∧ Sat w [] (i.R) w' := by
  refine enter Try.func30 rfl rfl rfl ?_
  refine r_seq ?_
  refine r_region ?_
  refine r_boxV rfl rfl fun b1 => ?_
  refine r_allocV (cs := #[.slice none 0 0, .bool false, .int .i64 0]) (by kernel_rfl) rfl fun b2 => ?_
  refine r_nil ?_
  refine r_tn ?_
  refine r_seq ?_
  refine r_seq ?_
  refine r_region ?_
  refine r_assign rfl rfl ?_
  refine r_nil ?_
  refine r_tn ?_
  refine r_block ?_
  refine r_loop4 (fun k A cc (f : Nat → Nat) (R : List Res) => [(1, .pointer (some ⟨b1, 0, none⟩)), (2, .pointer (some ⟨b2, 0, none⟩)), (3, .int .i64 (k : Int))]) (fun k A cc f R => (.blk b1 (.cells #[.slice A 4 cc, .bool hires, .int .i64 (m : Int)] 36 (0, 0)) :: .blk b2 (.cells #[.slice none 0 0, .bool false, .int .i64 0] 36 (0, 0)) :: R)) (fun k A cc f R => k ≤ 4 ∧ Tells P0 i0 (stP (fun _ _ => noneQ) P0 (selK m k)).1 ⟨A, cc, f, R⟩) 4 0 i0.A i0.c i0.f [] ⟨by omega, fun w1 h1 _ => by rw [show selK m 0 = [] from rfl, stP_nil]; exact h1⟩ ⟨rfl, rfl, rfl, trivial⟩ (fun w hw => by have h2 : Sat _ _ [.blk b1 (.cells (rsV i0 hires (m : Int)) 36 (0, 0)), .blk b2 (.cells #[.slice none 0 0, .bool false, .int .i64 0] 36 (0, 0))] w := hw.sub; exact h2) fun k A cc f R hk => ?_
  obtain ⟨hk, hT⟩ := hk
  refine r_seq ?_
  refine r_seq ?_
  refine r_region ?_
  refine r_move rfl rfl ?_
  refine r_lss rfl rfl rfl rfl ?_
  refine r_nil ?_
  refine r_tn ?_
  refine r_cond rfl (fun hc => ?_) (fun hc => ?_)
  · refine r_skip ?_
    refine r_tn ?_
    refine r_seq ?_
    refine r_block ?_
    refine r_seq ?_
    refine r_region ?_
    have hk2 : k < 4 := by have h := of_decide_eq_true hc; omega
    clear hc
    refine r_fieldAddr (off := 2) (o' := 2) rfl rfl rfl rfl ?_
    refine r_load1 rfl rfl rfl (by rfl) ?_
    refine r_move rfl rfl ?_
    refine r_call rfl rfl rfl (by kernel_rfl) rfl (fun w hw => by exact on08 m k hm (by omega) w) ?_
    refine r_nil ?_
    refine r_tn ?_
    refine r_cond rfl (fun hc => ?_) (fun hc => ?_)
    · refine r_mixedD { xb := [], rb := [b1], rs := [12], fs := [], acs := [14] } (by kernel_rfl) (by kernel_rfl) (fun w hw k hk => by
        simp only [List.mem_cons, List.not_mem_nil, or_false] at hk
        rcases hk with rfl <;> exact Sat.lt hw) ?_
      have hb : m.testBit k = true := hc
      clear hc
      refine r_loadV rfl rfl rfl rfl rfl ?_
      refine r_move rfl rfl ?_
      refine r_callx rfl rfl rfl (by kernel_rfl) rfl (fun w hw => by exact refBlankN08 w) ?_
      rintro b14 _
      refine r_callx rfl rfl rfl (by kernel_rfl) rfl (fun w hw => by exact refWith08 f A cc hires (m : Int) k b14 hk2 w (hT w (h0.keep hw) (fun x hx => hw.ok x (by simp [hx]))).1) ?_
      rintro ⟨A15, c15⟩ _
      refine r_storeV rfl rfl rfl rfl rfl rfl ?_
      refine r_nil ?_
      refine r_bn ?_
      refine r_tn ?_
      refine r_region ?_
      refine r_move rfl rfl ?_
      refine r_add rfl rfl rfl (w64 (by omega)) ?_
      refine r_assign rfl rfl ?_
      refine r_nil ?_
      refine r_tn ?_
      first | exact r_again4 (k + 1) A15 c15 (setF f k b14) (.own 64 1 (.slice A15 4 c15) 4 (plS4 (setF f k b14) 4) :: .own 4 1 (.slice (some ⟨b14, 0, none⟩) 8192 8192) 8192 (boolsN 8192 (flatP (noneQ))) :: R) ⟨by omega, fun w1 h1 h2 => by rw [selK_yes hk2 hb, stP_snoc]; exact refS_step (i := ⟨A, cc, f, R⟩) (hT w1 h1 (fun x hx => h2 x (.tail _ (.tail _ hx)))) (okAll_rd (T := 64) (sz := 1) (n := 4) (c := c15) h2 (.head _)) (okAll_rd (T := 4) (sz := 1) (n := 8192) (c := 8192) h2 (.tail _ (.head _)))⟩ (by omega) ⟨rfl, rfl, rfl, trivial⟩ (fun w hw => by have h2 : Sat _ _ (.blk b1 (.cells #[.slice A15 4 c15, .bool hires, .int .i64 (m : Int)] 36 (0, 0)) :: .blk b2 (.cells #[.slice none 0 0, .bool false, .int .i64 0] 36 (0, 0)) :: .own 64 1 (.slice A15 4 c15) 4 (plS4 (setF f k b14) 4) :: .own 4 1 (.slice (some ⟨b14, 0, none⟩) 8192 8192) 8192 (boolsN 8192 (flatP (noneQ))) :: R) w := hw.sub; exact h2) | exact r_again4 (k + 1) A cc f R ⟨by omega, by rw [selK_no hk2 hc]; exact hT⟩ (by omega) ⟨rfl, rfl, rfl, trivial⟩ (fun w hw => hw.sub)
    · refine r_skip ?_
      refine r_bn ?_
      refine r_tn ?_
      refine r_region ?_
      refine r_move rfl rfl ?_
      refine r_add rfl rfl rfl (w64 (by omega)) ?_
      refine r_assign rfl rfl ?_
      refine r_nil ?_
      refine r_tn ?_
      first | exact r_again4 (k + 1) A15 c15 (setF f k b14) (.own 64 1 (.slice A15 4 c15) 4 (plS4 (setF f k b14) 4) :: .own 4 1 (.slice (some ⟨b14, 0, none⟩) 8192 8192) 8192 (boolsN 8192 (flatP (noneQ))) :: R) ⟨by omega, fun w1 h1 h2 => by rw [selK_yes hk2 hb, stP_snoc]; exact refS_step (i := ⟨A, cc, f, R⟩) (hT w1 h1 (fun x hx => h2 x (.tail _ (.tail _ hx)))) (okAll_rd (T := 64) (sz := 1) (n := 4) (c := c15) h2 (.head _)) (okAll_rd (T := 4) (sz := 1) (n := 8192) (c := 8192) h2 (.tail _ (.head _)))⟩ (by omega) ⟨rfl, rfl, rfl, trivial⟩ (fun w hw => by have h2 : Sat _ _ (.blk b1 (.cells #[.slice A15 4 c15, .bool hires, .int .i64 (m : Int)] 36 (0, 0)) :: .blk b2 (.cells #[.slice none 0 0, .bool false, .int .i64 0] 36 (0, 0)) :: .own 64 1 (.slice A15 4 c15) 4 (plS4 (setF f k b14) 4) :: .own 4 1 (.slice (some ⟨b14, 0, none⟩) 8192 8192) 8192 (boolsN 8192 (flatP (noneQ))) :: R) w := hw.sub; exact h2) | exact r_again4 (k + 1) A cc f R ⟨by omega, by rw [selK_no hk2 hc]; exact hT⟩ (by omega) ⟨rfl, rfl, rfl, trivial⟩ (fun w hw => hw.sub)
  · refine r_exit ?_
    refine r_te ?_
    refine r_te ?_
    refine r_be ?_
    refine r_tn ?_
    refine r_seq ?_
    refine r_region ?_
    have hk3 : k = 4 := by have h := of_decide_eq_false hc; omega
    subst hk3
    refine r_loadV rfl rfl rfl rfl rfl ?_
    refine r_storeV rfl rfl rfl rfl rfl rfl ?_
    refine r_nil ?_
    refine r_tn ?_
    refine r_ret ?_
    exact r_done1 (.inl rfl) rfl (res_cellV rfl rfl rfl rfl) fun w hw => ⟨⟨A, cc, f, R⟩, rfl, hT, hw.sub⟩

theorem refResol08 (i0 : RSc) (hires0 hires : Bool) (m : Int) (w : World) :
    Calls Try.prog 31 #[.agg (rsV i0 hires0 m), .bool hires] w fun e w' => ∃ i : RSc, e = .returned (.agg (rsV i hires m)) ∧ (∀ w1, OkAll i.R w1 → RefS w1 (fun _ => noneQ) i) ∧ Sat w [] (i.R) w' := by
  refine enter Try.func31 rfl rfl rfl ?_
  refine r_seq ?_
  refine r_region ?_
  refine r_boxV rfl rfl fun b2 => ?_
  refine r_allocV (cs := #[.slice none 0 0, .bool false, .int .i64 0]) (by kernel_rfl) rfl fun b4 => ?_
  refine r_nil ?_
  refine r_tn ?_
  refine r_seq ?_
  refine r_region ?_
  refine r_callx rfl rfl rfl (by kernel_rfl) rfl (fun w hw => by exact refNew08 w) ?_
  rintro i hi
  refine Run.less (fun w hw => hw.perm List.perm_append_comm) ?_
  refine r_allocV (cs := #[.slice none 0 0, .bool false, .int .i64 0]) (by kernel_rfl) rfl fun b5 => ?_
  refine r_storeV rfl rfl rfl rfl rfl rfl ?_
  refine r_nil ?_
  refine r_tn ?_
  refine r_seq ?_
  refine r_region ?_
  refine r_fieldAddr (off := 0) (o' := 0) rfl rfl rfl rfl ?_
  refine r_load1 rfl rfl rfl (by rfl) ?_
  refine r_move rfl rfl ?_
  refine r_fieldAddr (off := 2) (o' := 2) rfl rfl rfl rfl ?_
  refine r_load1 rfl rfl rfl (by rfl) ?_
  refine r_build (cells := rsV i hires m) rfl rfl (by kernel_rfl) ?_
  refine r_storeV rfl rfl rfl rfl rfl rfl ?_
  refine r_nil ?_
  refine r_tn ?_
  refine r_ret ?_
  exact r_done1 (.inl rfl) rfl (res_cellV rfl rfl rfl rfl) fun w hw => ⟨i, rfl, hi, hw.sub⟩

theorem refScrS08 (P0 : Nat → Nat → Nat → Bool) (i0 : RSc) (hires : Bool) (m : Nat) (hm : m < 16) (dx dy : Int) (hin : ∀ k, k < 4 → ∀ y x, y < 64 → x < 128 → P0 k y x = true → x < wd hires ∧ y < ht hires) (hdx : -4611686018427387904 ≤ dx ∧ dx ≤ 4611686018427387904) (hdy : -4611686018427387904 ≤ dy ∧ dy ≤ 4611686018427387904) (w : World) (h0 : RefS w P0 i0) :
    Calls Try.prog 32 #[.agg (rsV i0 hires (m : Int)), .int .i64 dx, .int .i64 dy] w fun e w' => ∃ i : RSc, e = .returned (.agg (rsV i hires (m : Int))) ∧ (Tells P0 i0 (stP (fun _ p => scrollQ p dx dy hires) P0 (sel m)).1 i) ∧ Sat w [] (i.R) w' := by
  refine enter Try.func32 rfl rfl rfl ?_
  refine r_seq ?_
  refine r_region ?_
  refine r_boxV rfl rfl fun b3 => ?_
  refine r_allocV (cs := #[.slice none 0 0, .bool false, .int .i64 0]) (by kernel_rfl) rfl fun b6 => ?_
  refine r_nil ?_
  refine r_tn ?_
  refine r_seq ?_
  refine r_seq ?_
  refine r_region ?_
  refine r_assign rfl rfl ?_
  refine r_nil ?_
  refine r_tn ?_
  refine r_block ?_
  refine r_loop4 (fun k A cc (f : Nat → Nat) (R : List Res) => [(3, .pointer (some ⟨b3, 0, none⟩)), (1, .int .i64 dx), (2, .int .i64 dy), (6, .pointer (some ⟨b6, 0, none⟩)), (7, .int .i64 (k : Int))]) (fun k A cc f R => (.blk b3 (.cells #[.slice A 4 cc, .bool hires, .int .i64 (m : Int)] 36 (0, 0)) :: .blk b6 (.cells #[.slice none 0 0, .bool false, .int .i64 0] 36 (0, 0)) :: R)) (fun k A cc f R => k ≤ 4 ∧ Tells P0 i0 (stP (fun _ p => scrollQ p dx dy hires) P0 (selK m k)).1 ⟨A, cc, f, R⟩) 4 0 i0.A i0.c i0.f [] ⟨by omega, fun w1 h1 _ => by rw [show selK m 0 = [] from rfl, stP_nil]; exact h1⟩ ⟨rfl, rfl, rfl, rfl, rfl, trivial⟩ (fun w hw => by have h2 : Sat _ _ [.blk b3 (.cells (rsV i0 hires (m : Int)) 36 (0, 0)), .blk b6 (.cells #[.slice none 0 0, .bool false, .int .i64 0] 36 (0, 0))] w := hw.sub; exact h2) fun k A cc f R hk => ?_
  obtain ⟨hk, hT⟩ := hk
  refine r_seq ?_
  refine r_seq ?_
  refine r_region ?_
  refine r_move rfl rfl ?_
  refine r_lss rfl rfl rfl rfl ?_
  refine r_nil ?_
  refine r_tn ?_
  refine r_cond rfl (fun hc => ?_) (fun hc => ?_)
  · refine r_skip ?_
    refine r_tn ?_
    refine r_seq ?_
    refine r_block ?_
    refine r_seq ?_
    refine r_region ?_
    have hk2 : k < 4 := by have h := of_decide_eq_true hc; omega
    clear hc
    refine r_fieldAddr (off := 2) (o' := 2) rfl rfl rfl rfl ?_
    refine r_load1 rfl rfl rfl (by rfl) ?_
    refine r_move rfl rfl ?_
    refine r_call rfl rfl rfl (by kernel_rfl) rfl (fun w hw => by exact on08 m k hm (by omega) w) ?_
    refine r_nil ?_
    refine r_tn ?_
    refine r_cond rfl (fun hc => ?_) (fun hc => ?_)
    · refine r_mixedD { xb := [], rb := [b3], rs := [16], fs := [], acs := [27] } (by kernel_rfl) (by kernel_rfl) (fun w hw k hk => by
        simp only [List.mem_cons, List.not_mem_nil, or_false] at hk
        rcases hk with rfl <;> exact Sat.lt hw) ?_
      have hb : m.testBit k = true := hc
      clear hc
      refine r_have (p := ∃ b o, A = some ⟨b, o, none⟩) (fun w hw => rs_some (hT w (h0.keep hw) (fun x hx => hw.ok x (by simp [hx]))).1) fun hA => ?_
      obtain ⟨ba, oa, rfl⟩ := hA
      refine r_loadV rfl rfl rfl rfl rfl ?_
      refine r_move rfl rfl ?_
      refine r_fieldAddr (off := 0) (o' := 0) rfl rfl rfl rfl ?_
      refine r_load1 rfl rfl rfl (by rfl) ?_
      refine r_move rfl rfl ?_
      refine r_indexSl (sz := 1) (o' := oa + k) rfl rfl rfl rfl rfl (by omega) (by omega) (by omega) ?_
      refine r_loadC (p := ⟨ba, oa + k, none⟩) (v := .slice (some ⟨f k, 0, none⟩) 8192 8192) rfl rfl rfl (fun w hw => (hT w (h0.keep hw) (fun x hx => hw.ok x (by simp [hx]))).1.cell (plS4_at f hk2) rfl) ?_
      refine r_move rfl rfl ?_
      refine r_move rfl rfl ?_
      refine r_fieldAddr (off := 1) (o' := 1) rfl rfl rfl rfl ?_
      refine r_load1 rfl rfl rfl (by rfl) ?_
      refine r_callx rfl rfl rfl (by kernel_rfl) rfl (fun w hw => by exact refScroll07 ((stP (fun _ p => scrollQ p dx dy hires) P0 (selK m k)).1 k) dx dy hires (f k) 8192 w ((hT w (h0.keep hw) (fun x hx => hw.ok x (by simp [hx]))).2 k hk2) hdx hdy (by rw [stP_at (fun _ p => scrollQ p dx dy hires) P0 m k (by omega) k, if_neg (by omega)]; exact hin k hk2)) ?_
      rintro b27 _
      refine r_callx rfl rfl rfl (by kernel_rfl) rfl (fun w hw => by exact refWith08 f (some ⟨ba, oa, none⟩) cc hires (m : Int) k b27 hk2 w (hT w (h0.keep hw) (fun x hx => hw.ok x (by simp [hx]))).1) ?_
      rintro ⟨A28, c28⟩ _
      refine r_storeV rfl rfl rfl rfl rfl rfl ?_
      refine r_nil ?_
      refine r_bn ?_
      refine r_tn ?_
      refine r_region ?_
      refine r_move rfl rfl ?_
      refine r_add rfl rfl rfl (w64 (by omega)) ?_
      refine r_assign rfl rfl ?_
      refine r_nil ?_
      refine r_tn ?_
      first | exact r_again4 (k + 1) A28 c28 (setF f k b27) (.own 64 1 (.slice A28 4 c28) 4 (plS4 (setF f k b27) 4) :: .own 4 1 (.slice (some ⟨b27, 0, none⟩) 8192 8192) 8192 (boolsN 8192 (flatP (scrollQ ((stP (fun _ p => scrollQ p dx dy hires) P0 (selK m k)).1 k) dx dy hires))) :: R) ⟨by omega, fun w1 h1 h2 => by rw [selK_yes hk2 hb, stP_snoc]; exact refS_step (i := ⟨some ⟨ba, oa, none⟩, cc, f, R⟩) (hT w1 h1 (fun x hx => h2 x (.tail _ (.tail _ hx)))) (okAll_rd (T := 64) (sz := 1) (n := 4) (c := c28) h2 (.head _)) (okAll_rd (T := 4) (sz := 1) (n := 8192) (c := 8192) h2 (.tail _ (.head _)))⟩ (by omega) ⟨rfl, rfl, rfl, rfl, rfl, trivial⟩ (fun w hw => by have h2 : Sat _ _ (.blk b3 (.cells #[.slice A28 4 c28, .bool hires, .int .i64 (m : Int)] 36 (0, 0)) :: .blk b6 (.cells #[.slice none 0 0, .bool false, .int .i64 0] 36 (0, 0)) :: .own 64 1 (.slice A28 4 c28) 4 (plS4 (setF f k b27) 4) :: .own 4 1 (.slice (some ⟨b27, 0, none⟩) 8192 8192) 8192 (boolsN 8192 (flatP (scrollQ ((stP (fun _ p => scrollQ p dx dy hires) P0 (selK m k)).1 k) dx dy hires))) :: R) w := hw.sub; exact h2) | exact r_again4 (k + 1) A cc f R ⟨by omega, by rw [selK_no hk2 hc]; exact hT⟩ (by omega) ⟨rfl, rfl, rfl, rfl, rfl, trivial⟩ (fun w hw => hw.sub)
    · refine r_skip ?_
      refine r_bn ?_
      refine r_tn ?_
      refine r_region ?_
      refine r_move rfl rfl ?_
      refine r_add rfl rfl rfl (w64 (by omega)) ?_
      refine r_assign rfl rfl ?_
      refine r_nil ?_
      refine r_tn ?_
      first | exact r_again4 (k + 1) A28 c28 (setF f k b27) (.own 64 1 (.slice A28 4 c28) 4 (plS4 (setF f k b27) 4) :: .own 4 1 (.slice (some ⟨b27, 0, none⟩) 8192 8192) 8192 (boolsN 8192 (flatP (scrollQ ((stP (fun _ p => scrollQ p dx dy hires) P0 (selK m k)).1 k) dx dy hires))) :: R) ⟨by omega, fun w1 h1 h2 => by rw [selK_yes hk2 hb, stP_snoc]; exact refS_step (i := ⟨some ⟨ba, oa, none⟩, cc, f, R⟩) (hT w1 h1 (fun x hx => h2 x (.tail _ (.tail _ hx)))) (okAll_rd (T := 64) (sz := 1) (n := 4) (c := c28) h2 (.head _)) (okAll_rd (T := 4) (sz := 1) (n := 8192) (c := 8192) h2 (.tail _ (.head _)))⟩ (by omega) ⟨rfl, rfl, rfl, rfl, rfl, trivial⟩ (fun w hw => by have h2 : Sat _ _ (.blk b3 (.cells #[.slice A28 4 c28, .bool hires, .int .i64 (m : Int)] 36 (0, 0)) :: .blk b6 (.cells #[.slice none 0 0, .bool false, .int .i64 0] 36 (0, 0)) :: .own 64 1 (.slice A28 4 c28) 4 (plS4 (setF f k b27) 4) :: .own 4 1 (.slice (some ⟨b27, 0, none⟩) 8192 8192) 8192 (boolsN 8192 (flatP (scrollQ ((stP (fun _ p => scrollQ p dx dy hires) P0 (selK m k)).1 k) dx dy hires))) :: R) w := hw.sub; exact h2) | exact r_again4 (k + 1) A cc f R ⟨by omega, by rw [selK_no hk2 hc]; exact hT⟩ (by omega) ⟨rfl, rfl, rfl, rfl, rfl, trivial⟩ (fun w hw => hw.sub)
  · refine r_exit ?_
    refine r_te ?_
    refine r_te ?_
    refine r_be ?_
    refine r_tn ?_
    refine r_seq ?_
    refine r_region ?_
    have hk3 : k = 4 := by have h := of_decide_eq_false hc; omega
    subst hk3
    refine r_loadV rfl rfl rfl rfl rfl ?_
    refine r_storeV rfl rfl rfl rfl rfl rfl ?_
    refine r_nil ?_
    refine r_tn ?_
    refine r_ret ?_
    exact r_done1 (.inl rfl) rfl (res_cellV rfl rfl rfl rfl) fun w hw => ⟨⟨A, cc, f, R⟩, rfl, hT, hw.sub⟩
end Go.Proofs.Ytgamehjakgcgnaa
