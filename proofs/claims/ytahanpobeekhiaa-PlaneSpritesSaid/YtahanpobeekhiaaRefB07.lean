/-
  The reference for planes (chapter 07): Sprite.
-/
import Derived.Test.YtahanpobeekhiaaRef07
namespace Go.Proofs.Ytahanpobeekhiaa
open Go Go.RowKit
set_option linter.unusedVariables false
set_option linter.unusedSimpArgs false
set_option maxHeartbeats 2000000
attribute [local irreducible] mix

def atOf (y i : Nat) (hires : Bool) : Nat := if ht hires ≤ y + i then y + i - ht hires else y + i
theorem atOf_lt {y i : Nat} (hires : Bool) (hy : y < ht hires) (hi : i < 16) : atOf y i hires < 64 := by
  have h1 : ht hires ≤ 64 := by cases hires <;> decide
  have h2 : 32 ≤ ht hires := by cases hires <;> decide
  unfold atOf; split <;> omega
/-- the first pixels of a row put into a plane -/
def setPart (f : Nat → Bool) (at_ : Nat) (q : Nat → Bool) (j z : Nat) : Bool := if 128 * at_ ≤ z ∧ z < 128 * at_ + j then q (z - 128 * at_) else f z
theorem setPart_zero (f : Nat → Bool) (at_ : Nat) (q : Nat → Bool) : setPart f at_ q 0 = f := by
  funext z; unfold setPart; rw [if_neg (by omega)]
theorem setPart_succ (f : Nat → Bool) (at_ : Nat) (q : Nat → Bool) (j : Nat) : (fun z => if z = 128 * at_ + j then q j else setPart f at_ q j z) = setPart f at_ q (j + 1) := by
  funext z
  unfold setPart
  by_cases h : z = 128 * at_ + j
  · rw [if_pos h, if_pos (by omega), show z - 128 * at_ = j by omega]
  · rw [if_neg h]
    by_cases h2 : 128 * at_ ≤ z ∧ z < 128 * at_ + j
    · rw [if_pos h2, if_pos (by omega)]
    · rw [if_neg h2, if_neg (by omega)]
theorem rsp_skip (f : Nat → Bool) {l : List Int} {count x y i : Nat} {hires clip : Bool} (hf : ∀ z, z < 8192 → f z = flatP (sprQ l count x y hires clip i) z) (hy : y < ht hires) (hge : ht hires ≤ y + i) (hc : clip = true) (z : Nat) (hz : z < 8192) : f z = flatP (sprQ l count x y hires clip (i + 1)) z := by
  rw [hf z hz]; unfold flatP; rw [sprQ_break hc hy hge (Nat.le_succ i)]
theorem rsp_put (f : Nat → Bool) {l : List Int} {count x y i j : Nat} {hires clip : Bool} (hf : ∀ z, z < 8192 → f z = flatP (sprQ l count x y hires clip i) z) (hy : y < ht hires) (hnc : ht hires ≤ y + i → clip = false) (hi : i < 16) (hh : 32 ≤ ht hires) (hh2 : ht hires ≤ 64) (hj : j = 128) (z : Nat) (hz : z < 8192) :
    setPart f (atOf y i hires) (sprK (bitsAt l i) count x (wd hires) clip count) j z = flatP (sprQ l count x y hires clip (i + 1)) z := by
  subst hj
  have e : flatP (sprQ l count x y hires clip (i + 1)) z = setRow (sprQ l count x y hires clip i) (atOf y i hires) (sprK (bitsAt l i) count x (wd hires) clip count) (z / 128) (z % 128) := by
    unfold flatP atOf
    by_cases h : ht hires ≤ y + i
    · rw [if_pos h, sprQ_wrap (hnc h) hy h hi (by omega)]
    · rw [if_neg h, sprQ_straight hy h]
  rw [e]
  unfold setPart setRow
  by_cases h : z / 128 = atOf y i hires
  · rw [if_pos h, if_pos (by omega), show z - 128 * atOf y i hires = z % 128 by omega]
  · rw [if_neg h, if_neg (by omega), hf z hz]; rfl
theorem refSprite07 (A : Option Addr) (c : Nat) (l : List Int) (count x y : Nat) (hires clip : Bool) (w : World) (hA : Rd w A (l.map (Value.int .u16))) (hw : l.all (fun z => decide (0 ≤ z) && decide (z ≤ 65535)) = true) (hl : l.length ≤ 16) (hcn : count ≤ 64) (hx : x < wd hires) (hy : y < ht hires) :
    Calls Try.prog 39 #[.slice A l.length c, .int .i64 (count : Int), .int .i64 (x : Int), .int .i64 (y : Int), .bool hires, .bool clip] w fun e w' => ∃ b : Nat, e = .returned (.slice (some ⟨b, 0, none⟩) 8192 8192) ∧ True ∧ Sat w [] [.own 4 1 (.slice (some ⟨b, 0, none⟩) 8192 8192) 8192 (boolsN 8192 (flatP (sprQ l count x y hires clip l.length)))] w' := by
  have hwd : wd hires ≤ 128 := by cases hires <;> decide
  have hwd2 : 64 ≤ wd hires := by cases hires <;> decide
  have hht : ht hires ≤ 64 := by cases hires <;> decide
  have hht2 : 32 ≤ ht hires := by cases hires <;> decide
  refine enter Try.func39 rfl rfl rfl ?_
  refine r_seq ?_
  refine r_region ?_
  refine r_assign rfl rfl ?_
  refine r_nil ?_
  refine r_tn ?_
  refine r_seq ?_
  refine r_region ?_
  refine r_callx rfl rfl rfl (by kernel_rfl) rfl (fun w hw => refBlank07 w) ?_
  rintro b19 _
  refine r_assign rfl rfl ?_
  refine r_nil ?_
  refine r_tn ?_
  refine r_seq ?_
  refine r_region ?_
  refine r_move rfl rfl ?_
  refine r_call rfl rfl rfl (by kernel_rfl) rfl (fun w hw => by exact refHeight07 hires w) ?_
  refine r_assign rfl rfl ?_
  refine r_nil ?_
  refine r_tn ?_
  refine r_seq ?_
  refine r_seq ?_
  refine r_region ?_
  refine r_assign rfl rfl ?_
  refine r_nil ?_
  refine r_tn ?_
  refine r_block ?_
  refine r_loop1 (fun i (f : Nat → Bool) => [(0, .slice A l.length c), (1, .int .i64 (count : Int)), (2, .int .i64 (x : Int)), (3, .int .i64 (y : Int)), (4, .bool hires), (5, .bool clip), (13, .slice (some ⟨b19, 0, none⟩) 8192 8192), (14, .int .i64 (ht hires : Nat)), (15, .int .i64 (i : Int))]) (fun i f => [.own 4 1 (.slice (some ⟨b19, 0, none⟩) 8192 8192) 8192 (boolsN 8192 (f))]) (fun i f => i ≤ l.length ∧ ∀ z, z < 8192 → f z = flatP (sprQ l count x y hires clip i) z) l.length 0 (fun _ => false) ⟨by omega, fun z hz => by unfold flatP; rw [sprQ_zero]; rfl⟩ ⟨rfl, rfl, rfl, rfl, rfl, rfl, rfl, rfl, rfl, trivial⟩ (fun w hw => hw.sub) fun i f hf => ?_
  obtain ⟨hi, hf⟩ := hf
  refine r_seq ?_
  refine r_seq ?_
  refine r_region ?_
  refine r_move rfl rfl ?_
  refine r_move rfl rfl ?_
  refine r_len rfl rfl rfl ?_
  refine r_lss rfl rfl rfl rfl ?_
  refine r_nil ?_
  refine r_tn ?_
  refine r_cond rfl (fun hc => ?_) (fun hc => ?_)
  · refine r_skip ?_
    refine r_tn ?_
    refine r_seq ?_
    refine r_block ?_
    refine r_seq ?_
    have hi2 : i < l.length := by have h := of_decide_eq_true hc; omega
    clear hc
    obtain ⟨hz0, hz1⟩ := bitsAt_rng hw i
    have hji : (l.map (Value.int .u16))[i]? = some (.int .u16 ((bitsAt l i : Nat) : Int)) := bitsAt_get hw hi2
    obtain ⟨ba, oa, rfl, hca⟩ := hA i _ hji
    
    refine r_mixedD { xb := [], rb := [ba], rs := [31], fs := [], acs := [35] } (by kernel_rfl) (by kernel_rfl) (fun w hw k hk => by
      simp only [List.mem_cons, List.not_mem_nil, or_false] at hk
      subst hk
      exact Nat.lt_of_lt_of_le (World.block_lt_of_cell? _ _ hca) hw.size) ?_
    refine r_move rfl rfl ?_
    refine r_move rfl rfl ?_
    refine r_indexSl (sz := 1) (o' := oa + i) rfl rfl rfl rfl rfl (by omega) (by omega) (by simp) ?_
    refine r_loadC (p := ⟨ba, oa + i, none⟩) rfl rfl rfl (fun w hw => ((hA.keep hw).cell hji rfl)) ?_
    refine r_move rfl rfl ?_
    refine r_move rfl rfl ?_
    refine r_move rfl rfl ?_
    refine r_call rfl rfl rfl (by kernel_rfl) rfl (fun w hw => by exact width06 hires w) ?_
    refine r_move rfl rfl ?_
    refine r_callx rfl rfl rfl (by kernel_rfl) rfl (fun w hw => refSprite (bitsAt l i) count x (wd hires) clip w (by omega) (by omega) (by omega) (by omega)) ?_
    rintro b37 _
    refine r_assign rfl rfl ?_
    refine r_nil ?_
    refine r_tn ?_
    refine r_seq ?_
    refine r_region ?_
    refine r_move rfl rfl ?_
    refine r_move rfl rfl ?_
    refine r_add (r := ((y + i : Nat) : Int)) rfl rfl rfl ((w64 (by omega)).trans (by omega)) ?_
    refine r_assign rfl rfl ?_
    refine r_nil ?_
    refine r_tn ?_
    refine r_seq ?_
    refine r_seq ?_
    refine r_region ?_
    refine r_move rfl rfl ?_
    refine r_move rfl rfl ?_
    refine r_geq (p := decide (ht hires ≤ y + i)) rfl rfl rfl (by congr 1; exact propext ⟨fun _ => by omega, fun _ => by omega⟩) ?_
    refine r_move rfl rfl ?_
    refine r_split 44 rfl (fun hb44 => ?_) (fun hb44 => ?_)
    · refine r_go rfl rfl ?_
      refine r_move rfl rfl ?_
      refine r_pick_t rfl rfl rfl ?_
      refine r_nil ?_
      refine r_tn ?_
      refine r_cond rfl (fun hc => ?_) (fun hc => ?_)
      · refine r_exit ?_
        refine r_te ?_
        refine r_be ?_
        refine r_tn ?_
        refine r_region ?_
        refine r_move rfl rfl ?_
        refine r_add rfl rfl rfl (w64 (by omega)) ?_
        refine r_assign rfl rfl ?_
        refine r_nil ?_
        refine r_tn ?_
        first
          | exact r_again1 (i + 1) (setPart f (atOf y i hires) (sprK (bitsAt l i) count x (wd hires) clip count) j) ⟨by omega, fun z hz => rsp_put f hf hy hnc (by omega) hht2 hht (by have h := of_decide_eq_false hc; omega) z hz⟩ (by omega) ⟨rfl, rfl, rfl, rfl, rfl, rfl, rfl, rfl, rfl, trivial⟩ (fun w hw => hw.sub)
          | exact r_again1 (i + 1) f ⟨by omega, fun z hz => rsp_skip f hf hy (of_decide_eq_true hb44) (show clip = true from hc) z hz⟩ (by omega) ⟨rfl, rfl, rfl, rfl, rfl, rfl, rfl, rfl, rfl, trivial⟩ (fun w hw => hw.sub)
      · refine r_skip ?_
        refine r_tn ?_
        refine r_seq ?_
        refine r_cut (fun _ : { u : Unit // ht hires ≤ y + i → clip = false } => ([(0, .slice (some ⟨ba, oa, none⟩) l.length c), (1, .int .i64 (count : Int)), (2, .int .i64 (x : Int)), (3, .int .i64 (y : Int)), (4, .bool hires), (5, .bool clip), (13, .slice (some ⟨b19, 0, none⟩) 8192 8192), (14, .int .i64 (ht hires : Nat)), (15, .int .i64 (i : Int)), (16, .slice (some ⟨b37, 0, none⟩) 128 128), (17, .int .i64 ((atOf y i hires : Nat) : Int))], [.own 4 1 (.slice (some ⟨b19, 0, none⟩) 8192 8192) 8192 (boolsN 8192 (f)), .own 4 1 (.slice (some ⟨b37, 0, none⟩) 128 128) 128 (boolsN 128 ((sprK (bitsAt l i) count x (wd hires) clip count)))])) ?_ ?_
        · refine r_seq ?_
          refine r_region ?_
          refine r_move rfl rfl ?_
          refine r_move rfl rfl ?_
          refine r_geq (p := decide (ht hires ≤ y + i)) rfl rfl rfl (by congr 1; exact propext ⟨fun _ => by omega, fun _ => by omega⟩) ?_
          refine r_nil ?_
          refine r_tn ?_
          try have hcc := hc
          refine r_cond rfl (fun hc => ?_) (fun hc => ?_)
          · refine r_region ?_
            refine r_move rfl rfl ?_
            refine r_move rfl rfl ?_
            have hge : ht hires ≤ y + i := of_decide_eq_true hc
            refine r_sub (r := ((y + i - ht hires : Nat) : Int)) rfl rfl rfl ((w64 (by omega)).trans (by omega)) ?_
            refine r_assign rfl rfl ?_
            refine r_nil ?_
            refine r_tn ?_
            exact r_at ⟨(), fun h => by first | exact hcc | (rw [hb44] at hc; cases hc)⟩ ⟨rfl, rfl, rfl, rfl, rfl, rfl, rfl, rfl, rfl, rfl, by show some _ = some _; unfold atOf; rw [if_pos (of_decide_eq_true hc)], trivial⟩ (fun w hw => hw.sub)
          · refine r_skip ?_
            refine r_tn ?_
            exact r_at ⟨(), fun h => absurd h (of_decide_eq_false hc)⟩ ⟨rfl, rfl, rfl, rfl, rfl, rfl, rfl, rfl, rfl, rfl, by show some _ = some _; unfold atOf; rw [if_neg (of_decide_eq_false hc)], trivial⟩ (fun w hw => hw.sub)
        rintro ⟨_, hnc⟩
        have hatl := atOf_lt hires hy (show i < 16 by omega)
        refine r_seq ?_
        refine r_region ?_
        refine r_assign rfl rfl ?_
        refine r_nil ?_
        refine r_tn ?_
        refine r_block ?_
        refine r_loopN (fun j => [(0, .slice (some ⟨ba, oa, none⟩) l.length c), (1, .int .i64 (count : Int)), (2, .int .i64 (x : Int)), (3, .int .i64 (y : Int)), (4, .bool hires), (5, .bool clip), (13, .slice (some ⟨b19, 0, none⟩) 8192 8192), (14, .int .i64 (ht hires : Nat)), (15, .int .i64 (i : Int)), (16, .slice (some ⟨b37, 0, none⟩) 128 128), (17, .int .i64 ((atOf y i hires : Nat) : Int)), (18, .int .i64 (j : Int))]) (fun j => [.own 4 1 (.slice (some ⟨b19, 0, none⟩) 8192 8192) 8192 (boolsN 8192 (setPart f (atOf y i hires) (sprK (bitsAt l i) count x (wd hires) clip count) j)), .own 4 1 (.slice (some ⟨b37, 0, none⟩) 128 128) 128 (boolsN 128 ((sprK (bitsAt l i) count x (wd hires) clip count)))]) (fun j => j ≤ 128) 128 0 (by omega) ⟨rfl, rfl, rfl, rfl, rfl, rfl, rfl, rfl, rfl, rfl, rfl, rfl, trivial⟩ (fun w hw => by rw [setPart_zero]; exact hw.sub) fun j hj => ?_
        refine r_seq ?_
        refine r_seq ?_
        refine r_region ?_
        refine r_move rfl rfl ?_
        refine r_lss rfl rfl rfl rfl ?_
        refine r_nil ?_
        refine r_tn ?_
        refine r_cond rfl (fun hc => ?_) (fun hc => ?_)
        · refine r_skip ?_
          refine r_tn ?_
          refine r_seq ?_
          refine r_block ?_
          refine r_region ?_
          have hj2 : j < 128 := by have h := of_decide_eq_true hc; omega
          refine r_move rfl rfl ?_
          refine r_move rfl rfl ?_
          refine r_mul rfl rfl rfl (w64 (by omega)) ?_
          refine r_move rfl rfl ?_
          refine r_add rfl rfl rfl (w64 (by omega)) ?_
          refine r_move rfl rfl ?_
          refine r_move rfl rfl ?_
          refine r_indexSl (sz := 1) (o' := j) rfl rfl rfl rfl rfl (by omega) (by omega) (by first | (simp; done) | (simp; omega) | omega) ?_
          refine r_loadC (p := ⟨b37, j, none⟩) rfl rfl rfl (fun w hw => ((own_rd (A := some ⟨b37, 0, none⟩) (m := 128) (c := 128) hw).cell (boolsN_at (sprK (bitsAt l i) count x (wd hires) clip count) hj2) rfl) |> fun h => by simpa using h) ?_
          refine r_indexSl (sz := 1) (o' := 128 * atOf y i hires + j) rfl rfl rfl rfl rfl (by omega) (by omega) (by first | (simp; done) | (simp; omega) | omega) ?_
          refine r_storeOwn (m := 8192) (c := 8192) rfl rfl rfl rfl rfl (by omega) ?_
          rw [boolsN_set]
          rw [setPart_succ]
          refine r_nil ?_
          refine r_bn ?_
          refine r_tn ?_
          refine r_region ?_
          refine r_move rfl rfl ?_
          refine r_add rfl rfl rfl (w64 (by omega)) ?_
          refine r_assign rfl rfl ?_
          refine r_nil ?_
          refine r_tn ?_
          exact r_againN (j + 1) (by omega) (by omega) ⟨rfl, rfl, rfl, rfl, rfl, rfl, rfl, rfl, rfl, rfl, rfl, rfl, trivial⟩ (fun w hw => hw.sub)
        · refine r_exit ?_
          refine r_te ?_
          refine r_te ?_
          refine r_be ?_
          refine r_bn ?_
          refine r_tn ?_
          refine r_region ?_
          refine r_move rfl rfl ?_
          refine r_add rfl rfl rfl (w64 (by omega)) ?_
          refine r_assign rfl rfl ?_
          refine r_nil ?_
          refine r_tn ?_
          first
            | exact r_again1 (i + 1) (setPart f (atOf y i hires) (sprK (bitsAt l i) count x (wd hires) clip count) j) ⟨by omega, fun z hz => rsp_put f hf hy hnc (by omega) hht2 hht (by have h := of_decide_eq_false hc; omega) z hz⟩ (by omega) ⟨rfl, rfl, rfl, rfl, rfl, rfl, rfl, rfl, rfl, trivial⟩ (fun w hw => hw.sub)
            | exact r_again1 (i + 1) f ⟨by omega, fun z hz => rsp_skip f hf hy (of_decide_eq_true hb44) (show clip = true from hc) z hz⟩ (by omega) ⟨rfl, rfl, rfl, rfl, rfl, rfl, rfl, rfl, rfl, trivial⟩ (fun w hw => hw.sub)
    · refine r_pass rfl rfl rfl rfl ?_
      refine r_pick_f rfl rfl rfl ?_
      refine r_nil ?_
      refine r_tn ?_
      refine r_cond_f rfl ?_
      refine r_skip ?_
      refine r_tn ?_
      refine r_seq ?_
      refine r_cut (fun _ : { u : Unit // ht hires ≤ y + i → clip = false } => ([(0, .slice (some ⟨ba, oa, none⟩) l.length c), (1, .int .i64 (count : Int)), (2, .int .i64 (x : Int)), (3, .int .i64 (y : Int)), (4, .bool hires), (5, .bool clip), (13, .slice (some ⟨b19, 0, none⟩) 8192 8192), (14, .int .i64 (ht hires : Nat)), (15, .int .i64 (i : Int)), (16, .slice (some ⟨b37, 0, none⟩) 128 128), (17, .int .i64 ((atOf y i hires : Nat) : Int))], [.own 4 1 (.slice (some ⟨b19, 0, none⟩) 8192 8192) 8192 (boolsN 8192 (f)), .own 4 1 (.slice (some ⟨b37, 0, none⟩) 128 128) 128 (boolsN 128 ((sprK (bitsAt l i) count x (wd hires) clip count)))])) ?_ ?_
      · refine r_seq ?_
        refine r_region ?_
        refine r_move rfl rfl ?_
        refine r_move rfl rfl ?_
        refine r_geq (p := decide (ht hires ≤ y + i)) rfl rfl rfl (by congr 1; exact propext ⟨fun _ => by omega, fun _ => by omega⟩) ?_
        refine r_nil ?_
        refine r_tn ?_
        try have hcc := hc
        refine r_cond rfl (fun hc => ?_) (fun hc => ?_)
        · refine r_region ?_
          refine r_move rfl rfl ?_
          refine r_move rfl rfl ?_
          have hge : ht hires ≤ y + i := of_decide_eq_true hc
          refine r_sub (r := ((y + i - ht hires : Nat) : Int)) rfl rfl rfl ((w64 (by omega)).trans (by omega)) ?_
          refine r_assign rfl rfl ?_
          refine r_nil ?_
          refine r_tn ?_
          exact r_at ⟨(), fun h => by first | exact hcc | (rw [hb44] at hc; cases hc)⟩ ⟨rfl, rfl, rfl, rfl, rfl, rfl, rfl, rfl, rfl, rfl, by show some _ = some _; unfold atOf; rw [if_pos (of_decide_eq_true hc)], trivial⟩ (fun w hw => hw.sub)
        · refine r_skip ?_
          refine r_tn ?_
          exact r_at ⟨(), fun h => absurd h (of_decide_eq_false hc)⟩ ⟨rfl, rfl, rfl, rfl, rfl, rfl, rfl, rfl, rfl, rfl, by show some _ = some _; unfold atOf; rw [if_neg (of_decide_eq_false hc)], trivial⟩ (fun w hw => hw.sub)
      rintro ⟨_, hnc⟩
      have hatl := atOf_lt hires hy (show i < 16 by omega)
      refine r_seq ?_
      refine r_region ?_
      refine r_assign rfl rfl ?_
      refine r_nil ?_
      refine r_tn ?_
      refine r_block ?_
      refine r_loopN (fun j => [(0, .slice (some ⟨ba, oa, none⟩) l.length c), (1, .int .i64 (count : Int)), (2, .int .i64 (x : Int)), (3, .int .i64 (y : Int)), (4, .bool hires), (5, .bool clip), (13, .slice (some ⟨b19, 0, none⟩) 8192 8192), (14, .int .i64 (ht hires : Nat)), (15, .int .i64 (i : Int)), (16, .slice (some ⟨b37, 0, none⟩) 128 128), (17, .int .i64 ((atOf y i hires : Nat) : Int)), (18, .int .i64 (j : Int))]) (fun j => [.own 4 1 (.slice (some ⟨b19, 0, none⟩) 8192 8192) 8192 (boolsN 8192 (setPart f (atOf y i hires) (sprK (bitsAt l i) count x (wd hires) clip count) j)), .own 4 1 (.slice (some ⟨b37, 0, none⟩) 128 128) 128 (boolsN 128 ((sprK (bitsAt l i) count x (wd hires) clip count)))]) (fun j => j ≤ 128) 128 0 (by omega) ⟨rfl, rfl, rfl, rfl, rfl, rfl, rfl, rfl, rfl, rfl, rfl, rfl, trivial⟩ (fun w hw => by rw [setPart_zero]; exact hw.sub) fun j hj => ?_
      refine r_seq ?_
      refine r_seq ?_
      refine r_region ?_
      refine r_move rfl rfl ?_
      refine r_lss rfl rfl rfl rfl ?_
      refine r_nil ?_
      refine r_tn ?_
      refine r_cond rfl (fun hc => ?_) (fun hc => ?_)
      · refine r_skip ?_
        refine r_tn ?_
        refine r_seq ?_
        refine r_block ?_
        refine r_region ?_
        have hj2 : j < 128 := by have h := of_decide_eq_true hc; omega
        refine r_move rfl rfl ?_
        refine r_move rfl rfl ?_
        refine r_mul rfl rfl rfl (w64 (by omega)) ?_
        refine r_move rfl rfl ?_
        refine r_add rfl rfl rfl (w64 (by omega)) ?_
        refine r_move rfl rfl ?_
        refine r_move rfl rfl ?_
        refine r_indexSl (sz := 1) (o' := j) rfl rfl rfl rfl rfl (by omega) (by omega) (by first | (simp; done) | (simp; omega) | omega) ?_
        refine r_loadC (p := ⟨b37, j, none⟩) rfl rfl rfl (fun w hw => ((own_rd (A := some ⟨b37, 0, none⟩) (m := 128) (c := 128) hw).cell (boolsN_at (sprK (bitsAt l i) count x (wd hires) clip count) hj2) rfl) |> fun h => by simpa using h) ?_
        refine r_indexSl (sz := 1) (o' := 128 * atOf y i hires + j) rfl rfl rfl rfl rfl (by omega) (by omega) (by first | (simp; done) | (simp; omega) | omega) ?_
        refine r_storeOwn (m := 8192) (c := 8192) rfl rfl rfl rfl rfl (by omega) ?_
        rw [boolsN_set]
        rw [setPart_succ]
        refine r_nil ?_
        refine r_bn ?_
        refine r_tn ?_
        refine r_region ?_
        refine r_move rfl rfl ?_
        refine r_add rfl rfl rfl (w64 (by omega)) ?_
        refine r_assign rfl rfl ?_
        refine r_nil ?_
        refine r_tn ?_
        exact r_againN (j + 1) (by omega) (by omega) ⟨rfl, rfl, rfl, rfl, rfl, rfl, rfl, rfl, rfl, rfl, rfl, rfl, trivial⟩ (fun w hw => hw.sub)
      · refine r_exit ?_
        refine r_te ?_
        refine r_te ?_
        refine r_be ?_
        refine r_bn ?_
        refine r_tn ?_
        refine r_region ?_
        refine r_move rfl rfl ?_
        refine r_add rfl rfl rfl (w64 (by omega)) ?_
        refine r_assign rfl rfl ?_
        refine r_nil ?_
        refine r_tn ?_
        first
          | exact r_again1 (i + 1) (setPart f (atOf y i hires) (sprK (bitsAt l i) count x (wd hires) clip count) j) ⟨by omega, fun z hz => rsp_put f hf hy hnc (by omega) hht2 hht (by have h := of_decide_eq_false hc; omega) z hz⟩ (by omega) ⟨rfl, rfl, rfl, rfl, rfl, rfl, rfl, rfl, rfl, trivial⟩ (fun w hw => hw.sub)
          | exact r_again1 (i + 1) f ⟨by omega, fun z hz => rsp_skip f hf hy (of_decide_eq_true hb44) (show clip = true from hc) z hz⟩ (by omega) ⟨rfl, rfl, rfl, rfl, rfl, rfl, rfl, rfl, rfl, trivial⟩ (fun w hw => hw.sub)
  · refine r_exit ?_
    refine r_te ?_
    refine r_te ?_
    refine r_be ?_
    refine r_tn ?_
    refine r_seq ?_
    refine r_region ?_
    refine r_move rfl rfl ?_
    refine r_assign rfl rfl ?_
    refine r_nil ?_
    refine r_tn ?_
    refine r_ret ?_
    have hi3 : i = l.length := by have h := of_decide_eq_false hc; omega
    subst hi3
    exact r_done1 (.inl rfl) rfl (res_tmp rfl) fun w hw => ⟨b19, rfl, trivial, by rw [boolsN_congr hf] at hw; exact hw⟩
end Go.Proofs.Ytahanpobeekhiaa
