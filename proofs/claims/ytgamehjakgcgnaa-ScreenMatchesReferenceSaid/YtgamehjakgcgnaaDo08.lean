/-
  Screens (chapter 08): do, needs, awake.
-/
import Derived.Test.YtgamehjakgcgnaaStep08
namespace Go.Proofs.Ytgamehjakgcgnaa
open Go Go.RowKit
set_option linter.unusedVariables false
set_option linter.unusedSimpArgs false
set_option maxHeartbeats 2000000
set_option maxRecDepth 4000
attribute [local irreducible] mix

/-- the remainder that is not negative -/
def mN (a : Int) (m : Nat) : Nat := (a % (m : Int)).toNat
theorem mN_cast {a : Int} {m : Nat} (hm : 0 < m) : ((mN a m : Nat) : Int) = a % (m : Int) := Int.toNat_of_nonneg (Int.emod_nonneg _ (by omega))
theorem mN_lt {a : Int} {m : Nat} (hm : 0 < m) : mN a m < m := by
  have h1 := mN_cast (a := a) hm
  have h2 := Int.emod_lt_of_pos a (b := (m : Int)) (by omega)
  omega
theorem modN08 (a : Int) (m : Nat) (hm : m = 16 ∨ m = 33 ∨ m = 256) (w : World) : Calls Try.prog 17 #[.int .i64 a, .int .i64 (m : Int)] w fun e w' => e = .returned (.int .i64 ((mN a m : Nat) : Int)) ∧ Sat w [] [] w' := by
  rw [mN_cast (by omega)]
  exact mod08 a m hm w
def ffD (hires : Bool) (x y n : Nat) (big clip : Bool) (d : List Int) (j : Nat) (p : Nat → Nat → Bool) : Nat → Nat → Bool := xorQ p (sprD ⟨fun _ => noneQ, hires, 0⟩ big clip x y ((d.drop (j * perN n big)).take (perN n big)))
def hhD (hires : Bool) (x y n : Nat) (big clip : Bool) (d : List Int) (j : Nat) (p : Nat → Nat → Bool) : Bool := hitK p (sprD ⟨fun _ => noneQ, hires, 0⟩ big clip x y ((d.drop (j * perN n big)).take (perN n big))) 64
/-- a screen after drawing a sprite, and whether there is a collision -/
def drwP (s : Scr) (x y n : Nat) (big clip : Bool) (d : List Int) : Scr := ⟨(stP (ffD s.hires x y n big clip d) s.P (sel s.mask)).1, s.hires, s.mask⟩
def drwH (s : Scr) (x y n : Nat) (big clip : Bool) (d : List Int) : Bool := stH (ffD s.hires x y n big clip d) (hhD s.hires x y n big clip d) s.P (sel s.mask)
theorem drawF08 (s : Scr) (hm : s.mask < 16) (x y n : Nat) (hn : n < 16) (big clip : Bool) (A : Option Addr) (c : Nat) (d : List Int) (hd : d.length = (sel s.mask).length * perN n big) (hmc : d.length ≤ c) (hd8 : ∀ z ∈ d, 0 ≤ z ∧ z ≤ 255) (w : World) (hR : Rd w A (d.map (Value.int .u8))) :
    Calls Try.prog 20 #[.agg (scrV s), .int .i64 (x : Int), .int .i64 (y : Int), .int .i64 (n : Int), .bool big, .bool clip, .slice A ((sel s.mask).length * perN n big) c] w fun e w' => e = .returned (.tuple #[.agg (scrV (drwP s x y n big clip d)), .bool (drwH s x y n big clip d)]) ∧ Sat w [] [] w' := by
  have h2 := perN_le (n := n) (by omega) big
  have h3 := selK_len s.mask 4
  have h4 : (sel s.mask).length * perN n big ≤ 4 * 32 := Nat.mul_le_mul h3 h2
  have h := drawS08 s hm x y n (perN n big) big clip A c d (per_cast n big) (by cases big <;> simp [perN] <;> omega) hd hmc hd8 (by omega) w hR
  rw [hd] at h
  exact h
def doS (s : Scr) (t : StepD) : Scr × Bool :=
  if t.kind = 0 then (⟨s.P, s.hires, mN t.mask 16⟩, false)
  else if t.kind = 1 then (⟨(stP (fun _ _ => noneQ) s.P (sel s.mask)).1, s.hires, s.mask⟩, false)
  else if t.kind = 2 then (⟨fun _ => noneQ, t.hires, s.mask⟩, false)
  else if t.kind = 3 then (⟨(stP (fun _ p => scrollQ p (((mN t.x 33 : Nat) : Int) - 16) (((mN t.y 33 : Nat) : Int) - 16) s.hires) s.P (sel s.mask)).1, s.hires, s.mask⟩, false)
  else (drwP s (mN t.x 256) (mN t.y 256) (mN t.n 16) t.big t.clip (fillL t.d ((sel s.mask).length * perN (mN t.n 16) t.big)), drwH s (mN t.x 256) (mN t.y 256) (mN t.n 16) t.big t.clip (fillL t.d ((sel s.mask).length * perN (mN t.n 16) t.big)))
theorem doS_mask {s : Scr} (h : s.mask < 16) (t : StepD) : (doS s t).1.mask < 16 := by
  unfold doS
  split
  · exact mN_lt (by omega)
  · split
    · exact h
    · split
      · exact h
      · split
        · exact h
        · exact h
def scrLs : List LeafK := List.replicate 512 (.i .u64) ++ [.b, .i .i64]
theorem scrFlat : flatT Try.prog 32 scrLs := ⟨by kernel_rfl, by kernel_rfl, by kernel_rfl⟩
theorem cellsOk_app8 : ∀ {k1 k2 : List LeafK} {v1 v2 : List Value}, cellsOk k1 v1 = true → cellsOk k2 v2 = true → cellsOk (k1 ++ k2) (v1 ++ v2) = true
  | [], _, [], _, _, h => h
  | [], _, _ :: _, _, h, _ => by simp [cellsOk] at h
  | _ :: _, _, [], _, h, _ => by simp [cellsOk] at h
  | k :: ks, k2, v :: vs, v2, h, h2 => by
    simp only [cellsOk, Bool.and_eq_true] at h
    simp only [List.cons_append, cellsOk, Bool.and_eq_true]
    exact ⟨h.1, cellsOk_app8 h.2 h2⟩
theorem scrV_ok (s : Scr) : cellsOk scrLs (scrV s).toList = true := by
  have h : ∀ (P : Nat → Nat → Nat → Bool) (l : List Nat), cellsOk (List.replicate l.length (.i .u64)) (l.map fun j => Value.int .u64 ((cellP (P (j / 128)) (j % 128) : Nat) : Int)) = true := by
    intro P l
    induction l with
    | nil => rfl
    | cons j l ih => rw [List.length_cons, List.replicate_succ, List.map_cons]; simp only [cellsOk, ih, Bool.and_true]; rfl
  have h1 := h s.P (List.range 512)
  rw [List.length_range] at h1
  exact cellsOk_app8 h1 rfl
theorem scr_self (s : Scr) : cellsEq (scrV s).toList (scrV s).toList = true := cellsEq_self (scrV_ok s)
def scr1 : Scr := ⟨fun _ => noneQ, false, 1⟩
def scrT3 : Scr := ⟨fun _ => noneQ, false, 3⟩
def scrA : Scr := drwP scrT3 65 33 1 false true [128, 64]
def scrB : Scr := drwP scrA 1 1 1 false true [128, 0]
theorem scrA_lt : scrA.mask < 16 := by show 3 < 16; decide
theorem scrA_mask : scrA.mask = 3 := rfl
theorem scrA_hit : drwH scrT3 65 33 1 false true [128, 64] = false := by kernel_rfl
theorem scrB_hit : drwH scrA 1 1 1 false true [128, 0] = true := by kernel_rfl
theorem scrA_clear : (⟨(stP (fun _ _ => noneQ) scrA.P (sel scrA.mask)).1, scrA.hires, scrA.mask⟩ : Scr) = scrT3 := by
  have h : (stP (fun _ _ => noneQ) scrA.P (sel scrA.mask)).1 = fun _ => noneQ := by
    funext i
    match i with
    | 0 => rfl
    | 1 => rfl
    | i + 2 => rfl
  rw [h]; rfl
theorem colN08 (s : Scr) (x y : Int) (v : Nat) (hv : num (fun i => pixQ (s.P i) x y) 4 = v) (w : World) : Calls Try.prog 22 #[.agg (scrV s), .int .i64 x, .int .i64 y] w fun e w' => e = .returned (.int .i64 (v : Int)) ∧ Sat w [] [] w' := by
  rw [← hv]; exact color08 s x y w
theorem drawA08 (A : Option Addr) (w : World) (hR : Rd w A [.int .u8 128, .int .u8 64]) : Calls Try.prog 20 #[.agg (scrV scrT3), .int .i64 65, .int .i64 33, .int .i64 1, .bool false, .bool true, .slice A 2 2] w fun e w' => e = .returned (.tuple #[.agg (scrV scrA), .bool false]) ∧ Sat w [] [] w' := by
  have h := drawF08 scrT3 (by decide) 65 33 1 (by decide) false true A 2 [128, 64] rfl (by decide) (by decide) w hR
  rw [scrA_hit] at h
  exact h
theorem drawB08 (A : Option Addr) (w : World) (hR : Rd w A [.int .u8 128, .int .u8 0]) : Calls Try.prog 20 #[.agg (scrV scrA), .int .i64 1, .int .i64 1, .int .i64 1, .bool false, .bool true, .slice A 2 2] w fun e w' => e = .returned (.tuple #[.agg (scrV scrB), .bool true]) ∧ Sat w [] [] w' := by
  have h := drawF08 scrA (by decide) 1 1 1 (by decide) false true A 2 [128, 0] rfl (by decide) (by decide) w hR
  rw [scrB_hit] at h
  exact h
attribute [local irreducible] scrV stP planeV stH sprD drwP drwH scrA scrB fillL


theorem needs08 (s : Scr) (hm : s.mask < 16) (t : StepD) (w : World) :
    Calls Try.prog 11 #[.agg (scrV s), .agg (stepL t).toArray] w fun e w' => e = .returned (.bool true) ∧ Sat w [] [] w' := by
  refine enter Try.func11 rfl rfl rfl ?_
  refine r_seq ?_
  refine r_region ?_
  refine r_boxV rfl rfl fun b2 => ?_
  refine r_boxV rfl rfl fun b3 => ?_
  refine r_assign rfl rfl ?_
  refine r_nil ?_
  refine r_tn ?_
  refine r_seq ?_
  refine r_region ?_
  refine r_fieldAddr (off := 5) (o' := 5) rfl rfl rfl rfl ?_
  refine r_load1 rfl rfl rfl (by rfl) ?_
  refine r_call rfl rfl rfl (by kernel_rfl) rfl (fun w hw => by exact modN08 t.n 16 (.inl rfl) w) ?_
  refine r_assign rfl rfl ?_
  refine r_nil ?_
  refine r_tn ?_
  refine r_seq ?_
  refine r_mixedD { xb := [], rb := [b2, b3], rs := [15, 18], fs := [], acs := [13] } (by kernel_rfl) (by kernel_rfl) (fun w hw k hk => by
    simp only [List.mem_cons, List.not_mem_nil, or_false] at hk
    rcases hk with rfl | rfl <;> exact Sat.lt hw) ?_
  refine r_loadV rfl rfl rfl rfl (scrV_size _) ?_
  refine r_move rfl rfl ?_
  refine r_fieldAddr (off := 6) (o' := 6) rfl rfl rfl rfl ?_
  refine r_load1 rfl rfl rfl (by rfl) ?_
  refine r_call rfl rfl rfl (by kernel_rfl) rfl (fun w hw => by exact need08 s hm (mN t.n 16) (by have h := mN_lt (a := t.n) (m := 16) (by omega); omega) t.big w) ?_
  refine r_fieldAddr (off := 513) (o' := 513) rfl rfl rfl rfl ?_
  refine r_load1 rfl rfl rfl (scr_mask s) ?_
  refine r_move rfl rfl ?_
  refine r_fieldAddr (off := 6) (o' := 6) rfl rfl rfl rfl ?_
  refine r_load1 rfl rfl rfl (by rfl) ?_
  refine r_call rfl rfl rfl (by kernel_rfl) rfl (fun w hw => by exact refNeed08 s.mask (mN t.n 16) hm (by have h := mN_lt (a := t.n) (m := 16) (by omega); omega) t.big w) ?_
  refine r_eql (p := true) rfl rfl rfl (by simp) ?_
  refine r_assign rfl rfl ?_
  refine r_nil ?_
  refine r_tn ?_
  refine r_ret ?_
  exact r_done1 (.inl rfl) rfl (res_tmp rfl) fun w hw => ⟨rfl, hw.clear⟩

theorem do08 (s : Scr) (hm : s.mask < 16) (t : StepD) (w : World) (ok : okStep w t) :
    Calls Try.prog 12 #[.agg (scrV s), .agg (stepL t).toArray] w fun e w' => e = .returned (.tuple #[.agg (scrV (doS s t).1), .bool (doS s t).2]) ∧ Sat w [] [] w' := by
  obtain ⟨kd, mk, hi, x, y, n_, big, clip, A, c, d⟩ := t
  have hR : Rd w A (d.map (Value.int .u8)) := ok.2.2.2.2.2.1
  have hd8 : ∀ z ∈ d, 0 ≤ z ∧ z ≤ 255 := ok.2.2.2.2.2.2.1
  refine enter Try.func12 rfl rfl rfl ?_
  refine r_seq ?_
  refine r_region ?_
  refine r_boxV rfl rfl fun b2 => ?_
  refine r_boxV rfl rfl fun b3 => ?_
  refine r_allocV (cs := scrV scr0) (by kernel_rfl) rfl fun b4 => ?_
  refine r_assign rfl rfl ?_
  refine r_nil ?_
  refine r_tn ?_
  refine r_seq ?_
  refine r_region ?_
  refine r_fieldAddr (off := 5) (o' := 5) rfl rfl rfl rfl ?_
  refine r_load1 rfl rfl rfl (by rfl) ?_
  refine r_call rfl rfl rfl (by kernel_rfl) rfl (fun w hw => by exact modN08 n_ 16 (.inl rfl) w) ?_
  refine r_assign rfl rfl ?_
  refine r_nil ?_
  refine r_tn ?_
  refine r_seq ?_
  refine r_seq ?_
  refine r_region ?_
  refine r_fieldAddr (off := 0) (o' := 0) rfl rfl rfl rfl ?_
  refine r_load1 rfl rfl rfl (by rfl) ?_
  refine r_nil ?_
  refine r_tn ?_
  refine r_block ?_
  refine r_seq ?_
  refine r_region ?_
  refine r_eql (p := decide (kd = 0)) rfl rfl rfl rfl ?_
  refine r_assign rfl rfl ?_
  refine r_nil ?_
  refine r_tn ?_
  refine r_cond rfl (fun hc => ?_) (fun hc => ?_)
  · refine r_seq ?_
    refine r_mixedD { xb := [], rb := [b2], rs := [14], fs := [], acs := [17] } (by kernel_rfl) (by kernel_rfl) (fun w hw k hk => by
      simp only [List.mem_cons, List.not_mem_nil, or_false] at hk
      rcases hk with rfl <;> exact Sat.lt hw) ?_
    refine r_loadV rfl rfl rfl rfl (scrV_size _) ?_
    refine r_fieldAddr (off := 1) (o' := 1) rfl rfl rfl rfl ?_
    refine r_load1 rfl rfl rfl (by rfl) ?_
    refine r_call rfl rfl rfl (by kernel_rfl) rfl (fun w hw => by exact modN08 mk 16 (.inl rfl) w) ?_
    refine r_call rfl rfl rfl (by kernel_rfl) rfl (fun w hw => by exact select08 s (mN mk 16) w) ?_
    refine r_storeV rfl rfl rfl (scrV_size _) (scrV_size _) (scrV_one _) ?_
    refine r_assign rfl rfl ?_
    refine r_nil ?_
    refine r_tn ?_
    refine r_ret ?_
    refine r_br ?_
    refine r_tr ?_
    rw [show doS s ⟨kd, mk, hi, x, y, n_, big, clip, A, c, d⟩ = (⟨s.P, s.hires, mN mk 16⟩, false) from by unfold doS; simp_all]
    exact r_done2 (.inl rfl) rfl (res_cellV rfl rfl rfl (scrV_size _)) (res_tmp rfl) fun w hw => ⟨rfl, hw.clear⟩
  · refine r_seq ?_
    refine r_region ?_
    refine r_eql (p := decide (kd = 1)) rfl rfl rfl rfl ?_
    refine r_assign rfl rfl ?_
    refine r_nil ?_
    refine r_tn ?_
    refine r_cond rfl (fun hc => ?_) (fun hc => ?_)
    · refine r_seq ?_
      refine r_region ?_
      refine r_loadV rfl rfl rfl rfl (scrV_size _) ?_
      refine r_call rfl rfl rfl (by kernel_rfl) rfl (fun w hw => by exact clear08 s hm w) ?_
      refine r_storeV rfl rfl rfl (scrV_size _) (scrV_size _) (scrV_one _) ?_
      refine r_assign rfl rfl ?_
      refine r_nil ?_
      refine r_tn ?_
      refine r_ret ?_
      refine r_br ?_
      refine r_tr ?_
      rw [show doS s ⟨kd, mk, hi, x, y, n_, big, clip, A, c, d⟩ = (⟨(stP (fun _ _ => noneQ) s.P (sel s.mask)).1, s.hires, s.mask⟩, false) from by unfold doS; simp_all]
      exact r_done2 (.inl rfl) rfl (res_cellV rfl rfl rfl (scrV_size _)) (res_tmp rfl) fun w hw => ⟨rfl, hw.clear⟩
    · refine r_seq ?_
      refine r_region ?_
      refine r_eql (p := decide (kd = 2)) rfl rfl rfl rfl ?_
      refine r_assign rfl rfl ?_
      refine r_nil ?_
      refine r_tn ?_
      refine r_cond rfl (fun hc => ?_) (fun hc => ?_)
      · refine r_seq ?_
        refine r_region ?_
        refine r_loadV rfl rfl rfl rfl (scrV_size _) ?_
        refine r_fieldAddr (off := 2) (o' := 2) rfl rfl rfl rfl ?_
        refine r_load1 rfl rfl rfl (by rfl) ?_
        refine r_call rfl rfl rfl (by kernel_rfl) rfl (fun w hw => by exact resol08 s hi w) ?_
        refine r_storeV rfl rfl rfl (scrV_size _) (scrV_size _) (scrV_one _) ?_
        refine r_assign rfl rfl ?_
        refine r_nil ?_
        refine r_tn ?_
        refine r_ret ?_
        refine r_br ?_
        refine r_tr ?_
        rw [show doS s ⟨kd, mk, hi, x, y, n_, big, clip, A, c, d⟩ = (⟨fun _ => noneQ, hi, s.mask⟩, false) from by unfold doS; simp_all]
        exact r_done2 (.inl rfl) rfl (res_cellV rfl rfl rfl (scrV_size _)) (res_tmp rfl) fun w hw => ⟨rfl, hw.clear⟩
      · refine r_seq ?_
        refine r_region ?_
        refine r_eql (p := decide (kd = 3)) rfl rfl rfl rfl ?_
        refine r_assign rfl rfl ?_
        refine r_nil ?_
        refine r_tn ?_
        refine r_cond rfl (fun hc => ?_) (fun hc => ?_)
        · refine r_seq ?_
          refine r_mixedD { xb := [], rb := [b2, b3], rs := [31, 37], fs := [], acs := [34, 38] } (by kernel_rfl) (by kernel_rfl) (fun w hw k hk => by
            simp only [List.mem_cons, List.not_mem_nil, or_false] at hk
            rcases hk with rfl | rfl <;> exact Sat.lt hw) ?_
          refine r_loadV rfl rfl rfl rfl (scrV_size _) ?_
          refine r_fieldAddr (off := 3) (o' := 3) rfl rfl rfl rfl ?_
          refine r_load1 rfl rfl rfl (by rfl) ?_
          refine r_call rfl rfl rfl (by kernel_rfl) rfl (fun w hw => by exact modN08 x 33 (.inr (.inl rfl)) w) ?_
          refine r_sub (r := ((mN x 33 : Nat) : Int) - 16) rfl rfl rfl (by have h := mN_lt (a := x) (m := 33) (by omega); exact w64 (by omega)) ?_
          refine r_fieldAddr (off := 4) (o' := 4) rfl rfl rfl rfl ?_
          refine r_load1 rfl rfl rfl (by rfl) ?_
          refine r_call rfl rfl rfl (by kernel_rfl) rfl (fun w hw => by exact modN08 y 33 (.inr (.inl rfl)) w) ?_
          refine r_sub (r := ((mN y 33 : Nat) : Int) - 16) rfl rfl rfl (by have h := mN_lt (a := y) (m := 33) (by omega); exact w64 (by omega)) ?_
          refine r_call rfl rfl rfl (by kernel_rfl) rfl (fun w hw => by exact scrollS08 s hm (((mN x 33 : Nat) : Int) - 16) (((mN y 33 : Nat) : Int) - 16) w (by have h := mN_lt (a := x) (m := 33) (by omega); omega) (by have h := mN_lt (a := y) (m := 33) (by omega); omega)) ?_
          refine r_storeV rfl rfl rfl (scrV_size _) (scrV_size _) (scrV_one _) ?_
          refine r_assign rfl rfl ?_
          refine r_nil ?_
          refine r_tn ?_
          refine r_ret ?_
          refine r_br ?_
          refine r_tr ?_
          rw [show doS s ⟨kd, mk, hi, x, y, n_, big, clip, A, c, d⟩ = (⟨(stP (fun _ p => scrollQ p (((mN x 33 : Nat) : Int) - 16) (((mN y 33 : Nat) : Int) - 16) s.hires) s.P (sel s.mask)).1, s.hires, s.mask⟩, false) from by unfold doS; simp_all]
          exact r_done2 (.inl rfl) rfl (res_cellV rfl rfl rfl (scrV_size _)) (res_tmp rfl) fun w hw => ⟨rfl, hw.clear⟩
        · refine r_skip ?_
          refine r_bn ?_
          refine r_tn ?_
          refine r_seq ?_
          refine r_mixedD { xb := [], rb := [b2, b3], rs := [41, 46, 50, 52, 54, 55, 58], fs := [], acs := [44, 47, 59, 60] } (by kernel_rfl) (by kernel_rfl) (fun w hw k hk => by
            simp only [List.mem_cons, List.not_mem_nil, or_false] at hk
            rcases hk with rfl | rfl <;> exact Sat.lt hw) ?_
          refine r_loadV rfl rfl rfl rfl (scrV_size _) ?_
          refine r_fieldAddr (off := 3) (o' := 3) rfl rfl rfl rfl ?_
          refine r_load1 rfl rfl rfl (by rfl) ?_
          refine r_call rfl rfl rfl (by kernel_rfl) rfl (fun w hw => by exact modN08 x 256 (.inr (.inr rfl)) w) ?_
          refine r_fieldAddr (off := 4) (o' := 4) rfl rfl rfl rfl ?_
          refine r_load1 rfl rfl rfl (by rfl) ?_
          refine r_call rfl rfl rfl (by kernel_rfl) rfl (fun w hw => by exact modN08 y 256 (.inr (.inr rfl)) w) ?_
          refine r_move rfl rfl ?_
          refine r_fieldAddr (off := 6) (o' := 6) rfl rfl rfl rfl ?_
          refine r_load1 rfl rfl rfl (by rfl) ?_
          refine r_fieldAddr (off := 7) (o' := 7) rfl rfl rfl rfl ?_
          refine r_load1 rfl rfl rfl (by rfl) ?_
          refine r_fieldAddr (off := 8) (o' := 8) rfl rfl rfl rfl ?_
          refine r_load1 rfl rfl rfl (by rfl) ?_
          refine r_loadV rfl rfl rfl rfl (scrV_size _) ?_
          refine r_move rfl rfl ?_
          refine r_fieldAddr (off := 6) (o' := 6) rfl rfl rfl rfl ?_
          refine r_load1 rfl rfl rfl (by rfl) ?_
          refine r_call rfl rfl rfl (by kernel_rfl) rfl (fun w hw => by exact need08 s hm (mN n_ 16) (by have h := mN_lt (a := n_) (m := 16) (by omega); omega) big w) ?_
          refine r_callx rfl rfl rfl (by kernel_rfl) rfl (fun w hw => by exact fill08 d ((sel s.mask).length * perN (mN n_ 16) big) A c (by have h := mN_lt (a := n_) (m := 16) (by omega); have h2 := perN_le (n := mN n_ 16) (by omega) big; have h3 := selK_len s.mask 4; have h4 : (sel s.mask).length * perN (mN n_ 16) big ≤ 4 * 32 := Nat.mul_le_mul h3 h2; omega) w (hR.keep hw)) ?_
          rintro b60 _
          refine r_call rfl rfl rfl (by kernel_rfl) rfl (fun w hw => by exact drawF08 s hm (mN x 256) (mN y 256) (mN n_ 16) (mN_lt (by omega)) big clip (some ⟨b60, 0, none⟩) ((sel s.mask).length * perN (mN n_ 16) big) (fillL d ((sel s.mask).length * perN (mN n_ 16) big)) (fillL_len _ _) (by rw [fillL_len]; exact Nat.le_refl _) (fillL_bytes hd8 _) w (own_rd (A := some ⟨b60, 0, none⟩) (m := (sel s.mask).length * perN (mN n_ 16) big) (c := (sel s.mask).length * perN (mN n_ 16) big) hw)) ?_
          refine r_extract rfl rfl rfl ?_
          refine r_extract rfl rfl rfl ?_
          refine r_storeV rfl rfl rfl (scrV_size _) (scrV_size _) (scrV_one _) ?_
          refine r_assign rfl rfl ?_
          refine r_nil ?_
          refine r_tn ?_
          refine r_ret ?_
          rw [show doS s ⟨kd, mk, hi, x, y, n_, big, clip, A, c, d⟩ = (drwP s (mN x 256) (mN y 256) (mN n_ 16) big clip (fillL d ((sel s.mask).length * perN (mN n_ 16) big)), drwH s (mN x 256) (mN y 256) (mN n_ 16) big clip (fillL d ((sel s.mask).length * perN (mN n_ 16) big))) from by unfold doS; simp_all]
          exact r_done2 (.inl rfl) rfl (res_cellV rfl rfl rfl (scrV_size _)) (res_tmp rfl) fun w hw => ⟨rfl, hw.clear⟩

theorem awake08  (w : World) :
    Calls Try.prog 8 #[] w fun e w' => e = .returned (.bool true) ∧ Sat w [] [] w' := by
  refine enter Try.func8 rfl rfl rfl ?_
  refine r_seq ?_
  refine r_region ?_
  refine r_assign rfl rfl ?_
  refine r_nil ?_
  refine r_tn ?_
  refine r_seq ?_
  refine r_region ?_
  refine r_call rfl rfl rfl (by kernel_rfl) rfl (fun w hw => by exact new08 w) ?_
  refine r_allocV (cs := scrV scr0) (by kernel_rfl) rfl fun b1 => ?_
  refine r_storeV rfl rfl rfl (scrV_size _) (scrV_size _) (scrV_one _) ?_
  refine r_nil ?_
  refine r_tn ?_
  refine r_seq ?_
  refine r_region ?_
  refine r_loadV rfl rfl rfl rfl (scrV_size _) ?_
  refine r_call rfl rfl rfl (by kernel_rfl) rfl (fun w hw => by exact select08 scr1 3 w) ?_
  refine r_allocV (cs := scrV scr0) (by kernel_rfl) rfl fun b2 => ?_
  refine r_storeV rfl rfl rfl (scrV_size _) (scrV_size _) (scrV_one _) ?_
  refine r_nil ?_
  refine r_tn ?_
  refine r_seq ?_
  refine r_region ?_
  refine r_loadV rfl rfl rfl rfl (scrV_size _) ?_
  refine r_lit (sz := 1) (pv := [(0, .int .u8 128), (1, .int .u8 64)]) (cells := #[.int .u8 128, .int .u8 64]) rfl rfl rfl rfl rfl rfl (by kernel_rfl) rfl (fun b12 => ?_) (by decide)
  refine r_call rfl rfl rfl (by kernel_rfl) rfl (fun w hw => by exact drawA08 (some ⟨b12, 0, none⟩) w (own_rd (A := some ⟨b12, 0, none⟩) (m := 2) (c := 2) hw)) ?_
  refine r_move rfl rfl ?_
  refine r_extract rfl rfl rfl ?_
  refine r_extract rfl rfl rfl ?_
  refine r_allocV (cs := scrV scr0) (by kernel_rfl) rfl fun b3 => ?_
  refine r_storeV rfl rfl rfl (scrV_size _) (scrV_size _) (scrV_one _) ?_
  refine r_assign rfl rfl ?_
  refine r_nil ?_
  refine r_tn ?_
  refine r_seq ?_
  refine r_region ?_
  refine r_loadV rfl rfl rfl rfl (scrV_size _) ?_
  refine r_lit (sz := 1) (pv := [(0, .int .u8 128), (1, .int .u8 0)]) (cells := #[.int .u8 128, .int .u8 0]) rfl rfl rfl rfl rfl rfl (by kernel_rfl) rfl (fun b18 => ?_) (by decide)
  refine r_call rfl rfl rfl (by kernel_rfl) rfl (fun w hw => by exact drawB08 (some ⟨b18, 0, none⟩) w (own_rd (A := some ⟨b18, 0, none⟩) (m := 2) (c := 2) hw)) ?_
  refine r_move rfl rfl ?_
  refine r_extract rfl rfl rfl ?_
  refine r_extract rfl rfl rfl ?_
  refine r_allocV (cs := scrV scr0) (by kernel_rfl) rfl fun b5 => ?_
  refine r_storeV rfl rfl rfl (scrV_size _) (scrV_size _) (scrV_one _) ?_
  refine r_assign rfl rfl ?_
  refine r_nil ?_
  refine r_tn ?_
  refine r_seq ?_
  refine r_mixedD { xb := [], rb := [b2], rs := [60], fs := [], acs := [59] } (by kernel_rfl) (by kernel_rfl) (fun w hw k hk => by
    simp only [List.mem_cons, List.not_mem_nil, or_false] at hk
    rcases hk with rfl <;> exact Sat.lt hw) ?_
  refine r_loadV rfl rfl rfl rfl (scrV_size _) ?_
  refine r_build (cells := scrV scr1) rfl rfl (by kernel_rfl) ?_
  refine r_eqlAgg (p := true) rfl rfl rfl scrFlat (scrV_ok _) (scrV_ok _) (scr_self _) ?_
  refine r_move rfl rfl ?_
  refine r_go rfl rfl ?_
  refine r_loadV rfl rfl rfl rfl (scrV_size _) ?_
  refine r_go rfl rfl ?_
  refine r_call rfl rfl rfl (by kernel_rfl) rfl (fun w hw => by exact need08 scrT3 (by decide) 5 (by decide) false w) ?_
  refine r_go rfl rfl ?_
  refine r_eql (p := true) rfl rfl rfl (rfl) ?_
  refine r_pick_t rfl rfl rfl ?_
  refine r_move rfl rfl ?_
  refine r_go rfl rfl ?_
  refine r_loadV rfl rfl rfl rfl (scrV_size _) ?_
  refine r_go rfl rfl ?_
  refine r_call rfl rfl rfl (by kernel_rfl) rfl (fun w hw => by exact need08 scrT3 (by decide) 0 (by decide) true w) ?_
  refine r_go rfl rfl ?_
  refine r_eql (p := true) rfl rfl rfl (rfl) ?_
  refine r_pick_t rfl rfl rfl ?_
  refine r_move rfl rfl ?_
  refine r_go rfl rfl ?_
  refine r_loadV rfl rfl rfl rfl (scrV_size _) ?_
  refine r_go rfl rfl ?_
  refine r_call rfl rfl rfl (by kernel_rfl) rfl (fun w hw => by exact colN08 scrA 1 1 1 (by kernel_rfl) w) ?_
  refine r_go rfl rfl ?_
  refine r_eql (p := true) rfl rfl rfl (rfl) ?_
  refine r_pick_t rfl rfl rfl ?_
  refine r_move rfl rfl ?_
  refine r_go rfl rfl ?_
  refine r_loadV rfl rfl rfl rfl (scrV_size _) ?_
  refine r_go rfl rfl ?_
  refine r_call rfl rfl rfl (by kernel_rfl) rfl (fun w hw => by exact colN08 scrA 2 1 2 (by kernel_rfl) w) ?_
  refine r_go rfl rfl ?_
  refine r_eql (p := true) rfl rfl rfl (rfl) ?_
  refine r_pick_t rfl rfl rfl ?_
  refine r_move rfl rfl ?_
  refine r_go rfl rfl ?_
  refine r_move rfl rfl ?_
  refine r_go rfl rfl ?_
  refine r_not (r := true) rfl rfl rfl ?_
  refine r_pick_t rfl rfl rfl ?_
  refine r_move rfl rfl ?_
  refine r_go rfl rfl ?_
  refine r_loadV rfl rfl rfl rfl (scrV_size _) ?_
  refine r_go rfl rfl ?_
  refine r_call rfl rfl rfl (by kernel_rfl) rfl (fun w hw => by exact colN08 scrB 1 1 0 (by kernel_rfl) w) ?_
  refine r_go rfl rfl ?_
  refine r_eql (p := true) rfl rfl rfl (rfl) ?_
  refine r_pick_t rfl rfl rfl ?_
  refine r_move rfl rfl ?_
  refine r_go rfl rfl ?_
  refine r_move rfl rfl ?_
  refine r_pick_t rfl rfl rfl ?_
  refine r_move rfl rfl ?_
  refine r_go rfl rfl ?_
  refine r_loadV rfl rfl rfl rfl (scrV_size _) ?_
  refine r_go rfl rfl ?_
  refine r_call rfl rfl rfl (by kernel_rfl) rfl (fun w hw => by exact clear08 scrA scrA_lt w) ?_
  refine r_go rfl rfl ?_
  refine r_loadV rfl rfl rfl rfl (scrV_size _) ?_
  refine r_go rfl rfl ?_
  refine r_eqlAgg (p := true) rfl rfl rfl scrFlat (scrV_ok _) (scrV_ok _) (by rw [scrA_clear]; exact scr_self _) ?_
  refine r_pick_t rfl rfl rfl ?_
  refine r_move rfl rfl ?_
  refine r_go rfl rfl ?_
  refine r_loadV rfl rfl rfl rfl (scrV_size _) ?_
  refine r_go rfl rfl ?_
  refine r_call rfl rfl rfl (by kernel_rfl) rfl (fun w hw => by exact resol08 scrA true w) ?_
  refine r_go rfl rfl ?_
  refine r_build (cells := scrV ⟨fun _ => noneQ, true, 3⟩) rfl rfl (by kernel_rfl) ?_
  refine r_go rfl rfl ?_
  refine r_eqlAgg (p := true) rfl rfl rfl scrFlat (scrV_ok _) (scrV_ok _) (by rw [scrA_mask]; exact scr_self _) ?_
  refine r_pick_t rfl rfl rfl ?_
  refine r_move rfl rfl ?_
  refine r_go rfl rfl ?_
  refine r_loadV rfl rfl rfl rfl (scrV_size _) ?_
  refine r_go rfl rfl ?_
  refine r_call rfl rfl rfl (by kernel_rfl) rfl (fun w hw => by exact scrollS08 scrA scrA_lt 4 0 w (by decide) (by decide)) ?_
  refine r_go rfl rfl ?_
  refine r_call rfl rfl rfl (by kernel_rfl) rfl (fun w hw => by exact colN08 ⟨(stP (fun _ p => scrollQ p 4 0 scrA.hires) scrA.P (sel scrA.mask)).1, scrA.hires, scrA.mask⟩ 5 1 1 (by kernel_rfl) w) ?_
  refine r_go rfl rfl ?_
  refine r_eql (p := true) rfl rfl rfl (rfl) ?_
  refine r_pick_t rfl rfl rfl ?_
  refine r_assign rfl rfl ?_
  refine r_nil ?_
  refine r_tn ?_
  refine r_ret ?_
  exact r_done1 (.inl rfl) rfl (res_tmp rfl) fun w hw => ⟨rfl, hw.clear⟩
end Go.Proofs.Ytgamehjakgcgnaa
