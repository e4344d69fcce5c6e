/-
  Records (chapter 23): the reader s decode.
-/
import Derived.Test.YtgicjkjppnkodaaRecC
namespace Go.Proofs.Ytgicjkjppnkodaa
section
open Go Go.RowKit
set_option linter.unusedVariables false
set_option linter.unusedSimpArgs false
set_option maxHeartbeats 2000000
set_option maxRecDepth 4000
attribute [local irreducible] mix

def dsz : Nat → Nat
  | 0 => 1
  | 1 => 1
  | 2 => 16
  | 3 => 1
  | 4 => 1
  | 5 => 2
  | 6 => 8
  | 7 => 1
  | _ => 0
def dL (l : List Int) : Nat → List Int
  | 0 => l
  | k + 1 => rdL (dL l k) (dsz k)
def dB (l : List Int) : Nat → Bool
  | 0 => false
  | k + 1 => rdB (dL l k) (dsz k) (dB l k)
def dV (l : List Int) (k : Nat) : Nat := rdV (dL l k) (dsz k)
def dPat (l : List Int) : List Int := if 16 ≤ (dL l 2).length then (dL l 2).take 16 else List.replicate 16 0
theorem rec_eta {r : Rec} {Q : Nat → Nat → Nat → Bool} (h : r.P = Q) : { r with P := Q } = r := by subst h; rfl
theorem dPat_yes {l : List Int} (h : 16 ≤ (dL l 2).length) : dPat l = (dL l 2).take 16 := by unfold dPat; rw [if_pos h]
theorem dPat_no {l : List Int} (h : ¬ 16 ≤ (dL l 2).length) : dPat l = List.replicate 16 0 := by unfold dPat; rw [if_neg h]
theorem dPat_len (l : List Int) : (dPat l).length = 16 := by
  unfold dPat
  split
  · rw [List.length_take]; omega
  · simp
theorem dL3_no {l : List Int} (h : ¬ 16 ≤ (dL l 2).length) : dL l 3 = [] := by
  show rdL (dL l 2) 16 = []
  unfold rdL; rw [if_neg h]
theorem dB3_no {l : List Int} (h : ¬ 16 ≤ (dL l 2).length) : dB l 3 = true := by
  show rdB (dL l 2) 16 (dB l 2) = true
  unfold rdB; rw [if_neg h]
theorem dL_bytes {l : List Int} (h : bytesB l) : ∀ k, bytesB (dL l k)
  | 0 => h
  | k + 1 => rdL_bytes (dL_bytes h k) _
theorem dL_le (l : List Int) : ∀ k, (dL l k).length ≤ l.length
  | 0 => Nat.le_refl _
  | k + 1 => Nat.le_trans (rdL_le _ _) (dL_le l k)
theorem dV_lt {l : List Int} (h : bytesB l) (k : Nat) (hk : dsz k ≤ 8) : dV l k < 2 ^ 64 := rdV_lt (dL_bytes h k) hk
theorem dV_byte {l : List Int} (h : bytesB l) (k : Nat) (hk : dsz k = 1) : dV l k < 256 := by
  unfold dV rdV
  rw [hk]
  split
  · exact beN_lt (dL_bytes h k) 1
  · decide
theorem dV_two {l : List Int} (h : bytesB l) (k : Nat) (hk : dsz k = 2) : dV l k < 65536 := by
  unfold dV rdV
  rw [hk]
  split
  · exact beN_lt (dL_bytes h k) 2
  · decide
def fBit (l : List Int) (m : Nat) : Bool := decide (((dV l 0 &&& m : Nat) : Int) ≠ 0)
def plS (u : Nat) (s : List Int × Bool) : Nat → List Int × Bool
  | 0 => s
  | k + 1 => if u.testBit k then rowsS (plS u s k) 64 else plS u s k
def plP (u : Nat) (s : List Int × Bool) (n i : Nat) : Nat → Nat → Bool := if i < n ∧ u.testBit i then partQ (rowsP (plS u s i)) 64 else noneQ
theorem plP_zero (u : Nat) (s : List Int × Bool) : plP u s 0 = fun _ => noneQ := by funext i; unfold plP; rw [if_neg (by omega)]
theorem plS_yes {u : Nat} {s : List Int × Bool} {k : Nat} (h : u.testBit k = true) : plS u s (k + 1) = rowsS (plS u s k) 64 := by simp [plS, h]
theorem plS_no {u : Nat} {s : List Int × Bool} {k : Nat} (h : u.testBit k = false) : plS u s (k + 1) = plS u s k := by simp [plS, h]
theorem plP_yes {u : Nat} {s : List Int × Bool} {k : Nat} (h : u.testBit k = true) : plP u s (k + 1) = setPl (plP u s k) k (partQ (rowsP (plS u s k)) 64) := by
  funext i
  unfold setPl plP
  by_cases e : i = k
  · subst e; rw [if_pos rfl, if_pos ⟨by omega, h⟩]
  · rw [if_neg e]
    by_cases h2 : i < k ∧ u.testBit i
    · rw [if_pos h2, if_pos ⟨by omega, h2.2⟩]
    · rw [if_neg h2, if_neg (fun h3 => h2 ⟨by omega, h3.2⟩)]
theorem plP_no {u : Nat} {s : List Int × Bool} {k : Nat} (h : u.testBit k = false) : plP u s (k + 1) = plP u s k := by
  funext i
  unfold plP
  by_cases h2 : i < k ∧ u.testBit i
  · rw [if_pos h2, if_pos ⟨by omega, h2.2⟩]
  · rw [if_neg h2, if_neg (fun h3 => h2 ⟨by
      rcases Nat.lt_or_ge i k with h4 | h4
      · exact h4
      · exact absurd (show i = k by omega) (fun e => by subst e; rw [h] at h3; cases h3.2), h3.2⟩)]
theorem plS_bytes {u : Nat} {s : List Int × Bool} (h : bytesB s.1) : ∀ k, bytesB (plS u s k).1
  | 0 => h
  | k + 1 => by
    unfold plS
    split
    · exact rowsS_bytes (plS_bytes h k) 64
    · exact plS_bytes h k
theorem plS_le (u : Nat) (s : List Int × Bool) : ∀ k, (plS u s k).1.length ≤ s.1.length
  | 0 => Nat.le_refl _
  | k + 1 => by
    unfold plS
    split
    · exact Nat.le_trans (rowsS_le _ 64) (plS_le u s k)
    · exact plS_le u s k
/-- the record that is read, whatever the bytes -/
def decRec (l : List Int) : Rec := { { { { { { { rec0 with hires := fBit l 1, sound := fBit l 2 } with pitch := ((dV l 1 % 256 : Nat) : Int) } with pat := dPat l } with kind := ((dV l 3 : Nat) : Int), cause := ((dV l 4 : Nat) : Int) } with pc := ((dV l 5 : Nat) : Int) } with P := plP (dV l 7 % 256) (dL l 8, dB l 8) 4 } with cycle := IntKind.i64.wrap ((dV l 6 : Nat) : Int) }
def decOK (l : List Int) : Bool := !(plS (dV l 7 % 256) (dL l 8, dB l 8) 4).2 && decide (dV l 0 ≤ 3) && decide (dV l 6 ≤ 4611686018427387904) && decide (num (usedF (decRec l).P) 4 = dV l 7 % 256) && validR (decRec l)
theorem shr8b {x : Nat} (hx : x < 256) (n : Nat) : ((x : Nat) : Int).fdiv (2 ^ (min ((n : Nat) : Int).toNat IntKind.u8.bits)) = ((x >>> n : Nat) : Int) := by
  have e : ((n : Nat) : Int).toNat = n := rfl
  have e2 : IntKind.u8.bits = 8 := rfl
  have hx : x < 2 ^ 8 := hx
  rw [e, e2]
  rw [Int.fdiv_eq_ediv_of_nonneg _ (Int.le_of_lt (Int.pow_pos (by decide)))]
  rw [show ((2 : Int) ^ min n 8) = ((2 ^ min n 8 : Nat) : Int) by simp, ← Int.natCast_ediv]
  congr 1
  rw [Nat.shiftRight_eq_div_pow]
  by_cases h : n ≤ 8
  · rw [Nat.min_eq_left h]
  · rw [Nat.min_eq_right (by omega), Nat.div_eq_of_lt hx, Nat.div_eq_of_lt (Nat.lt_of_lt_of_le hx (Nat.pow_le_pow_right (by decide) (by omega)))]
theorem and8b {x : Nat} (h : x < 256) : IntKind.u8.wrap (BitVec.ofInt IntKind.u8.bits (x : Int) &&& BitVec.ofInt IntKind.u8.bits 1).toNat = ((x % 2 : Nat) : Int) := by
  have e : ∀ z : Nat, z < 256 → (BitVec.ofInt IntKind.u8.bits (z : Int)).toNat = z := fun z hz => by
    show (BitVec.ofInt 8 (z : Int)).toNat = z
    rw [BitVec.ofInt_natCast, BitVec.toNat_ofNat]
    exact Nat.mod_eq_of_lt hz
  rw [BitVec.toNat_and, e x h, show (BitVec.ofInt IntKind.u8.bits 1).toNat = 1 from e 1 (by decide), Nat.and_one_is_mod]
  exact IntWalk.u8_in _ ⟨by omega, by omega⟩

attribute [local irreducible] rdL rdB rdV beN recV rowsS rowsP usedF validR

theorem decode23a (W : World) (b : Nat) (A : Option Addr) (c : Nat) (l : List Int) (h16 : 16 ≤ (dL l 2).length) (hmc : l.length ≤ c) (hm48 : l.length ≤ 140737488355328) (hl8 : bytesB l) (hb : W.heap.size ≤ b) (hR : Rd W A (l.map (Value.int .u8))) (w : World) (hK : Keeps W w) (hS : Sat w [b] [.blk b (.cells #[.slice A l.length c, .bool false] 80 (0, 0))] w) :
    Calls Try.prog 34 #[.pointer (some ⟨b, 0, none⟩)] w fun e w' => ∃ i : Option Addr × Nat, e = .returned (.tuple #[.agg (recV (decRec l)), .bool (decOK l)]) ∧ (Rd W i.1 ((plS (dV l 7 % 256) (dL l 8, dB l 8) 4).1.map (Value.int .u8)) ∧ (plS (dV l 7 % 256) (dL l 8, dB l 8) 4).1.length ≤ i.2) ∧ Sat w [b] [.blk b (.cells #[.slice i.1 (plS (dV l 7 % 256) (dL l 8, dB l 8) 4).1.length i.2, .bool (plS (dV l 7 % 256) (dL l 8, dB l 8) 4).2] 80 (0, 0))] w' := by
  refine enterS Try.func34 rfl rfl rfl hS ?_
  refine r_seq ?_
  refine r_region ?_
  refine r_allocV (cs := recV rec0) (by kernel_rfl) rfl fun b2 => ?_
  refine r_assign rfl rfl ?_
  refine r_nil ?_
  refine r_tn ?_
  refine r_seq ?_
  refine r_region ?_
  refine r_move rfl rfl ?_
  refine r_callbw (b := b) rfl rfl rfl (by kernel_rfl) rfl (fun w hw hs => by exact number23 W b A c 1 (dL l 0) (dB l 0) hmc (Nat.le_trans (dL_le l 0) hm48) (by decide) (dL_bytes hl8 0) hb hR w (hK.step hw hb) hs) ?_
  rintro ⟨A9, c9⟩ ⟨hR9, hc9⟩
  refine r_assign rfl rfl ?_
  refine r_nil ?_
  refine r_tn ?_
  refine r_seq ?_
  refine r_region ?_
  refine r_move rfl rfl ?_
  refine r_and (r := ((dV l 0 &&& 1 : Nat) : Int)) rfl rfl rfl ((u64_bits (dV_lt hl8 0 (by decide)) (by decide)).1) ?_
  refine r_neq (p := fBit l 1) rfl rfl rfl rfl ?_
  refine r_move rfl rfl ?_
  refine r_and (r := ((dV l 0 &&& 2 : Nat) : Int)) rfl rfl rfl ((u64_bits (dV_lt hl8 0 (by decide)) (by decide)).1) ?_
  refine r_neq (p := fBit l 2) rfl rfl rfl rfl ?_
  refine r_fieldAddr (off := 512) (o' := 512) rfl rfl rfl rfl ?_
  refine r_store1 rfl rfl rfl rfl rfl (by rw [recV_size (by first | assumption | rfl)]; omega) ?_
  rw [set_hires]
  generalize hr1 : ({ rec0 with hires := fBit l 1 } : Rec) = r1
  have hp1 : r1.pat.length = 16 := by rw [← hr1]; exact List.length_replicate
  refine r_fieldAddr (off := 513) (o' := 513) rfl rfl rfl rfl ?_
  refine r_store1 rfl rfl rfl rfl rfl (by rw [recV_size (by first | assumption | rfl)]; omega) ?_
  rw [set_sound]
  generalize hr2 : ({ r1 with sound := fBit l 2 } : Rec) = r2
  refine r_nil ?_
  refine r_tn ?_
  refine r_seq ?_
  refine r_region ?_
  refine r_move rfl rfl ?_
  refine r_callbw (b := b) rfl rfl rfl (by kernel_rfl) rfl (fun w hw hs => by exact number23 W b A9 c9 1 (dL l 1) (dB l 1) hc9 (Nat.le_trans (dL_le l 1) hm48) (by decide) (dL_bytes hl8 1) hb hR9 w (hK.step hw hb) hs) ?_
  rintro ⟨A19, c19⟩ ⟨hR19, hc19⟩
  refine r_convert (r := ((dV l 1 % 256 : Nat) : Int)) rfl rfl rfl rfl (wrap8 (dV l 1)) ?_
  refine r_fieldAddr (off := 530) (o' := 530) rfl rfl rfl rfl ?_
  have hp2 : r2.pat.length = 16 := by rw [← hr2]; exact hp1
  refine r_store1 rfl rfl rfl rfl rfl (by rw [recV_size (by first | assumption | rfl)]; omega) ?_
  rw [set_pitch hp2]
  generalize hr3 : ({ r2 with pitch := ((dV l 1 % 256 : Nat) : Int) } : Rec) = r3
  have hp3 : r3.pat.length = 16 := by rw [← hr3]; exact hp2
  refine r_nil ?_
  refine r_tn ?_
  refine r_seq ?_
  refine r_mixed (by kernel_rfl) (by kernel_rfl) ?_
  refine r_fieldAddr (off := 514) (o' := 514) rfl rfl rfl rfl ?_
  refine r_sliceArr rfl rfl rfl rfl ?_
  refine r_move rfl rfl ?_
  refine r_callbw (b := b) rfl rfl rfl (by kernel_rfl) rfl (fun w hw hs => by exact take23a W b A19 c19 (dL l 2) (dB l 2) hc19 (Nat.le_trans (dL_le l 2) hm48) 16 h16 hR19 w hs) ?_
  rintro ⟨A25, c25⟩ ⟨hR25, hc25⟩
  refine r_copy (xs := (dPat l).map (Value.int .u8)) rfl rfl rfl rfl rfl (fun w hw => by rw [dPat_yes h16, List.map_take]; exact ((hK.step hw hb).rd hR19).take 16) (by rw [List.length_map, dPat_len]) (fun u hu => by obtain ⟨z, _, rfl⟩ := List.mem_map.1 hu; rfl) (by rw [recV_size hp3]; decide) (copy_pat hp3 (dPat_len l)) ?_
  generalize hr4 : ({ r3 with pat := dPat l } : Rec) = r4
  have hp4 : r4.pat.length = 16 := by rw [← hr4]; exact dPat_len l
  refine r_nil ?_
  refine r_tn ?_
  refine r_seq ?_
  refine r_region ?_
  refine r_move rfl rfl ?_
  refine r_callbw (b := b) rfl rfl rfl (by kernel_rfl) rfl (fun w hw hs => by exact number23 W b A25 c25 1 (dL l 3) (dB l 3) hc25 (Nat.le_trans (dL_le l 3) hm48) (by decide) (dL_bytes hl8 3) hb hR25 w (hK.step hw hb) hs) ?_
  rintro ⟨A28, c28⟩ ⟨hR28, hc28⟩
  refine r_convert (r := ((dV l 3 : Nat) : Int)) rfl rfl rfl rfl (w64 (z := ((dV l 3 : Nat) : Int)) (by have := dV_byte hl8 3 rfl; omega)) ?_
  refine r_move rfl rfl ?_
  refine r_callbw (b := b) rfl rfl rfl (by kernel_rfl) rfl (fun w hw hs => by exact number23 W b A28 c28 1 (dL l 4) (dB l 4) hc28 (Nat.le_trans (dL_le l 4) hm48) (by decide) (dL_bytes hl8 4) hb hR28 w (hK.step hw hb) hs) ?_
  rintro ⟨A31, c31⟩ ⟨hR31, hc31⟩
  refine r_convert (r := ((dV l 4 : Nat) : Int)) rfl rfl rfl rfl (w64 (z := ((dV l 4 : Nat) : Int)) (by have := dV_byte hl8 4 rfl; omega)) ?_
  refine r_fieldAddr (off := 531) (o' := 531) rfl rfl rfl rfl ?_
  refine r_fieldAddr (off := 0) (o' := 531) rfl rfl rfl rfl ?_
  refine r_store1 rfl rfl rfl rfl rfl (by rw [recV_size (by first | assumption | rfl)]; omega) ?_
  rw [set_kind hp4]
  generalize hr5 : ({ r4 with kind := ((dV l 3 : Nat) : Int) } : Rec) = r5
  have hp5 : r5.pat.length = 16 := by rw [← hr5]; exact hp4
  refine r_fieldAddr (off := 531) (o' := 531) rfl rfl rfl rfl ?_
  refine r_fieldAddr (off := 1) (o' := 532) rfl rfl rfl rfl ?_
  refine r_store1 rfl rfl rfl rfl rfl (by rw [recV_size (by first | assumption | rfl)]; omega) ?_
  rw [set_cause hp5]
  generalize hr6 : ({ r5 with cause := ((dV l 4 : Nat) : Int) } : Rec) = r6
  have hp6 : r6.pat.length = 16 := by rw [← hr6]; exact hp5
  refine r_nil ?_
  refine r_tn ?_
  refine r_seq ?_
  refine r_region ?_
  refine r_move rfl rfl ?_
  refine r_callbw (b := b) rfl rfl rfl (by kernel_rfl) rfl (fun w hw hs => by exact number23 W b A31 c31 2 (dL l 5) (dB l 5) hc31 (Nat.le_trans (dL_le l 5) hm48) (by decide) (dL_bytes hl8 5) hb hR31 w (hK.step hw hb) hs) ?_
  rintro ⟨A38, c38⟩ ⟨hR38, hc38⟩
  refine r_convert (r := ((dV l 5 : Nat) : Int)) rfl rfl rfl rfl (w64 (z := ((dV l 5 : Nat) : Int)) (by have := dV_two hl8 5 rfl; omega)) ?_
  refine r_fieldAddr (off := 531) (o' := 531) rfl rfl rfl rfl ?_
  refine r_fieldAddr (off := 2) (o' := 533) rfl rfl rfl rfl ?_
  refine r_store1 rfl rfl rfl rfl rfl (by rw [recV_size (by first | assumption | rfl)]; omega) ?_
  rw [set_pc hp6]
  generalize hr7 : ({ r6 with pc := ((dV l 5 : Nat) : Int) } : Rec) = r7
  have hp7 : r7.pat.length = 16 := by rw [← hr7]; exact hp6
  have hP7 : r7.P = fun _ => noneQ := by rw [← hr7, ← hr6, ← hr5, ← hr4, ← hr3, ← hr2, ← hr1]; rfl
  refine r_nil ?_
  refine r_tn ?_
  refine r_seq ?_
  refine r_region ?_
  refine r_move rfl rfl ?_
  refine r_callbw (b := b) rfl rfl rfl (by kernel_rfl) rfl (fun w hw hs => by exact number23 W b A38 c38 8 (dL l 6) (dB l 6) hc38 (Nat.le_trans (dL_le l 6) hm48) (by decide) (dL_bytes hl8 6) hb hR38 w (hK.step hw hb) hs) ?_
  rintro ⟨A43, c43⟩ ⟨hR43, hc43⟩
  refine r_assign rfl rfl ?_
  refine r_nil ?_
  refine r_tn ?_
  refine r_seq ?_
  refine r_region ?_
  refine r_move rfl rfl ?_
  refine r_callbw (b := b) rfl rfl rfl (by kernel_rfl) rfl (fun w hw hs => by exact number23 W b A43 c43 1 (dL l 7) (dB l 7) hc43 (Nat.le_trans (dL_le l 7) hm48) (by decide) (dL_bytes hl8 7) hb hR43 w (hK.step hw hb) hs) ?_
  rintro ⟨A45, c45⟩ ⟨hR45, hc45⟩
  refine r_convert (r := ((dV l 7 % 256 : Nat) : Int)) rfl rfl rfl rfl (wrap8 (dV l 7)) ?_
  refine r_assign rfl rfl ?_
  refine r_nil ?_
  refine r_tn ?_
  refine r_seq ?_
  refine r_seq ?_
  refine r_region ?_
  refine r_move rfl rfl ?_
  refine r_nil ?_
  refine r_tn ?_
  refine r_block ?_
  refine r_loop2 (fun k A2 c2 => [(0, .pointer (some ⟨b, 0, none⟩)), (2, .pointer (some ⟨b2, 0, none⟩)), (4, .int .u64 ((dV l 0 : Nat) : Int)), (5, .int .u64 ((dV l 6 : Nat) : Int)), (6, .int .u8 ((dV l 7 % 256 : Nat) : Int)), (47, .int .i64 (k : Int))]) (fun k A2 c2 => [.blk b (.cells #[.slice A2 (plS (dV l 7 % 256) (dL l 8, dB l 8) k).1.length c2, .bool (plS (dV l 7 % 256) (dL l 8, dB l 8) k).2] 80 (0, 0)), .blk b2 (.cells (recV { r7 with P := plP (dV l 7 % 256) (dL l 8, dB l 8) k }) 48 (0, 0))]) (fun k A2 c2 => k ≤ 4 ∧ Rd W A2 ((plS (dV l 7 % 256) (dL l 8, dB l 8) k).1.map (Value.int .u8)) ∧ (plS (dV l 7 % 256) (dL l 8, dB l 8) k).1.length ≤ c2) 4 0 A45 c45 ⟨by omega, hR45, hc45⟩ ⟨rfl, rfl, rfl, rfl, rfl, rfl, trivial⟩ (fun w hw => by have h2 : Sat _ _ [.blk b (.cells #[.slice A45 (rdL (dL l 7) 1).length c45, .bool (rdB (dL l 7) 1 (dB l 7))] 80 (0, 0)), .blk b2 (.cells (recV r7) 48 (0, 0))] w := hw.sub; rw [plP_zero, rec_eta hP7]; exact h2) fun k A2 c2 hk => ?_
  obtain ⟨hk, hR2, hc2⟩ := hk
  refine r_seq ?_
  refine r_region ?_
  refine r_lss rfl rfl rfl rfl ?_
  refine r_nil ?_
  refine r_tn ?_
  refine r_seq ?_
  refine r_cond rfl (fun hc => ?_) (fun hc => ?_)
  · refine r_skip ?_
    refine r_tn ?_
    refine r_seq ?_
    refine r_block ?_
    refine r_seq ?_
    refine r_region ?_
    have hk2 : k < 4 := by have h := of_decide_eq_true hc; omega
    have hu8 : dV l 7 % 256 < 256 := Nat.mod_lt _ (by decide)
    refine r_move rfl rfl ?_
    refine r_assign rfl rfl ?_
    refine r_nil ?_
    refine r_tn ?_
    refine r_seq ?_
    refine r_region ?_
    refine r_move rfl rfl ?_
    refine r_move rfl rfl ?_
    refine r_shr (r := (((dV l 7 % 256) >>> k : Nat) : Int)) rfl rfl rfl (by omega) (shr8b hu8 k) ?_
    refine r_and rfl rfl rfl (and8b (Nat.lt_of_le_of_lt (sh_le _ _) hu8)) ?_
    refine r_eql rfl rfl rfl (bit_dec (dV l 7 % 256) k) ?_
    refine r_nil ?_
    refine r_tn ?_
    refine r_cond rfl (fun hc => ?_) (fun hc => ?_)
    · refine r_region ?_
      refine r_move rfl rfl ?_
      refine r_move rfl rfl ?_
      refine r_makeFunc rfl rfl rfl ?_
      refine r_callbw (b := b) rfl rfl rfl (by kernel_rfl) rfl (fun w hw hs => by exact rows23 W b A2 c2 (plS (dV l 7 % 256) (dL l 8, dB l 8) k) hc2 (Nat.le_trans (plS_le _ _ k) (Nat.le_trans (dL_le l 8) hm48)) (plS_bytes (dL_bytes hl8 8) k) hb hR2 w (hK.step hw hb) hs) ?_
      rintro ⟨A58, c58⟩ ⟨hR58, hc58⟩
      refine r_fieldAddr (off := 0) (o' := 0) rfl rfl rfl rfl ?_
      refine r_indexArr (sz := 128) (o' := 128 * k) rfl rfl rfl rfl rfl (by omega) (by omega) (by omega) ?_
      refine r_store (m := 128) rfl rfl rfl (planeV_size _) (by rw [recV_size (by exact hp7)]; omega) (planeV_one _) (splice_plane (by exact hp7) hk2 _) ?_
      refine r_nil ?_
      refine r_bn ?_
      refine r_tn ?_
      refine r_region ?_
      have hu := hc
      refine r_add rfl rfl rfl (w64 (by omega)) ?_
      refine r_move rfl rfl ?_
      refine r_nil ?_
      refine r_tn ?_
      first
        | exact r_again2 (k + 1) A58 c58 ⟨by omega, by rw [plS_yes hu]; exact hR58, by rw [plS_yes hu]; exact hc58⟩ (by omega) ⟨rfl, rfl, rfl, rfl, rfl, rfl, trivial⟩ (fun w hw => by rw [plS_yes hu, plP_yes hu]; exact hw.sub)
        | exact r_again2 (k + 1) A2 c2 ⟨by omega, by rw [plS_no hu]; exact hR2, by rw [plS_no hu]; exact hc2⟩ (by omega) ⟨rfl, rfl, rfl, rfl, rfl, rfl, trivial⟩ (fun w hw => by rw [plS_no hu, plP_no hu]; exact hw.sub)
    · refine r_skip ?_
      refine r_bn ?_
      refine r_tn ?_
      refine r_region ?_
      have hu := hc
      refine r_add rfl rfl rfl (w64 (by omega)) ?_
      refine r_move rfl rfl ?_
      refine r_nil ?_
      refine r_tn ?_
      first
        | exact r_again2 (k + 1) A58 c58 ⟨by omega, by rw [plS_yes hu]; exact hR58, by rw [plS_yes hu]; exact hc58⟩ (by omega) ⟨rfl, rfl, rfl, rfl, rfl, rfl, trivial⟩ (fun w hw => by rw [plS_yes hu, plP_yes hu]; exact hw.sub)
        | exact r_again2 (k + 1) A2 c2 ⟨by omega, by rw [plS_no hu]; exact hR2, by rw [plS_no hu]; exact hc2⟩ (by omega) ⟨rfl, rfl, rfl, rfl, rfl, rfl, trivial⟩ (fun w hw => by rw [plS_no hu, plP_no hu]; exact hw.sub)
  · refine r_exit ?_
    refine r_te ?_
    refine r_te ?_
    refine r_be ?_
    refine r_tn ?_
    refine r_seq ?_
    refine r_region ?_
    refine r_move rfl rfl ?_
    have hk4 : k = 4 := by have h := of_decide_eq_false hc; omega
    subst hk4
    clear hc hp1 hp2 hp3 hp4 hp5 hp6 hp7 hP7
    subst hr7
    subst hr6
    subst hr5
    subst hr4
    subst hr3
    subst hr2
    subst hr1
    refine r_convert rfl rfl rfl rfl rfl ?_
    refine r_fieldAddr (off := 531) (o' := 531) rfl rfl rfl rfl ?_
    refine r_fieldAddr (off := 3) (o' := 534) rfl rfl rfl rfl ?_
    refine r_store1 rfl rfl rfl rfl rfl (by rw [recV_size (by exact dPat_len l)]; omega) ?_
    rw [set_cycle (by exact dPat_len l)]
    refine r_nil ?_
    refine r_tn ?_
    refine r_seq ?_
    refine r_mixedD { xb := [], rb := [b2], rs := [66], fs := [], acs := [82, 88] } (by kernel_rfl) (by kernel_rfl) (fun w hw k hk => by
      simp only [List.mem_cons, List.not_mem_nil, or_false] at hk
      rcases hk with rfl <;> exact Sat.lt hw) ?_
    refine r_loadV rfl rfl rfl rfl (recV_size (dPat_len l)) ?_
    refine r_move rfl rfl ?_
    refine r_nilCheck rfl rfl ?_
    refine r_fieldAddr (off := 1) rfl rfl rfl rfl ?_
    refine r_load1 rfl rfl rfl (by rfl) ?_
    refine r_not rfl rfl rfl ?_
    refine r_move rfl rfl ?_
    refine r_split 72 rfl (fun hb72 => ?_) (fun hb72 => ?_)
    · refine r_go rfl rfl ?_
      refine r_move rfl rfl ?_
      refine r_go rfl rfl ?_
      refine r_leq (p := decide (dV l 0 ≤ 3)) rfl rfl rfl (decide_eq_decide.2 ⟨fun _ => by omega, fun _ => by omega⟩) ?_
      refine r_pick_t rfl rfl rfl ?_
      refine r_move rfl rfl ?_
      refine r_split 76 rfl (fun hb76 => ?_) (fun hb76 => ?_)
      · refine r_go rfl rfl ?_
        refine r_move rfl rfl ?_
        refine r_go rfl rfl ?_
        refine r_leq (p := decide (dV l 6 ≤ 4611686018427387904)) rfl rfl rfl (decide_eq_decide.2 ⟨fun _ => by omega, fun _ => by omega⟩) ?_
        refine r_pick_t rfl rfl rfl ?_
        refine r_move rfl rfl ?_
        refine r_split 80 rfl (fun hb80 => ?_) (fun hb80 => ?_)
        · refine r_go rfl rfl ?_
          refine r_loadV rfl rfl rfl rfl (recV_size (dPat_len l)) ?_
          refine r_go rfl rfl ?_
          refine r_call rfl rfl rfl (by kernel_rfl) rfl (fun w hw => by exact used23 (decRec l) w (dPat_len l)) ?_
          refine r_go rfl rfl ?_
          refine r_move rfl rfl ?_
          refine r_go rfl rfl ?_
          refine r_eql (p := decide (num (usedF (decRec l).P) 4 = dV l 7 % 256)) rfl rfl rfl (decide_eq_decide.2 ⟨fun _ => by omega, fun _ => by omega⟩) ?_
          refine r_pick_t rfl rfl rfl ?_
          refine r_move rfl rfl ?_
          refine r_split 86 rfl (fun hb86 => ?_) (fun hb86 => ?_)
          · refine r_go rfl rfl ?_
            refine r_loadV rfl rfl rfl rfl (recV_size (dPat_len l)) ?_
            refine r_go rfl rfl ?_
            refine r_call rfl rfl rfl (by kernel_rfl) rfl (fun w hw => by exact valid23 (decRec l) w (dPat_len l)) ?_
            refine r_pick_t rfl rfl rfl ?_
            refine r_storeV rfl rfl rfl (recV_size (dPat_len l)) (recV_size (dPat_len l)) (recV_one _) ?_
            refine r_assign rfl rfl ?_
            refine r_nil ?_
            refine r_tn ?_
            refine r_ret ?_
            exact r_done2 (.inl rfl) rfl (res_cellV rfl rfl rfl (recV_size (dPat_len l))) (res_tmp rfl) fun w hw => ⟨(A2, c2), congrArg (fun b => Ending.returned (.tuple #[.agg (recV (decRec l)), .bool b])) (by unfold decOK; simp_all <;> (first | done | (intros; omega))), ⟨hR2, hc2⟩, hw.sub⟩
          · refine r_pass rfl rfl rfl rfl ?_
            refine r_pass rfl rfl rfl rfl ?_
            refine r_pick_f rfl rfl rfl ?_
            refine r_storeV rfl rfl rfl (recV_size (dPat_len l)) (recV_size (dPat_len l)) (recV_one _) ?_
            refine r_assign rfl rfl ?_
            refine r_nil ?_
            refine r_tn ?_
            refine r_ret ?_
            exact r_done2 (.inl rfl) rfl (res_cellV rfl rfl rfl (recV_size (dPat_len l))) (res_tmp rfl) fun w hw => ⟨(A2, c2), congrArg (fun b => Ending.returned (.tuple #[.agg (recV (decRec l)), .bool b])) (by unfold decOK; simp_all <;> (first | done | (intros; omega))), ⟨hR2, hc2⟩, hw.sub⟩
        · refine r_pass rfl rfl rfl rfl ?_
          refine r_pass rfl rfl rfl rfl ?_
          refine r_pass rfl rfl rfl rfl ?_
          refine r_pass rfl rfl rfl rfl ?_
          refine r_pick_f rfl rfl rfl ?_
          refine r_move rfl rfl ?_
          refine r_pass rfl rfl rfl rfl ?_
          refine r_pass rfl rfl rfl rfl ?_
          refine r_pick_f rfl rfl rfl ?_
          refine r_storeV rfl rfl rfl (recV_size (dPat_len l)) (recV_size (dPat_len l)) (recV_one _) ?_
          refine r_assign rfl rfl ?_
          refine r_nil ?_
          refine r_tn ?_
          refine r_ret ?_
          exact r_done2 (.inl rfl) rfl (res_cellV rfl rfl rfl (recV_size (dPat_len l))) (res_tmp rfl) fun w hw => ⟨(A2, c2), congrArg (fun b => Ending.returned (.tuple #[.agg (recV (decRec l)), .bool b])) (by unfold decOK; simp_all <;> (first | done | (intros; omega))), ⟨hR2, hc2⟩, hw.sub⟩
      · refine r_pass rfl rfl rfl rfl ?_
        refine r_pass rfl rfl rfl rfl ?_
        refine r_pick_f rfl rfl rfl ?_
        refine r_move rfl rfl ?_
        refine r_pass rfl rfl rfl rfl ?_
        refine r_pass rfl rfl rfl rfl ?_
        refine r_pass rfl rfl rfl rfl ?_
        refine r_pass rfl rfl rfl rfl ?_
        refine r_pick_f rfl rfl rfl ?_
        refine r_move rfl rfl ?_
        refine r_pass rfl rfl rfl rfl ?_
        refine r_pass rfl rfl rfl rfl ?_
        refine r_pick_f rfl rfl rfl ?_
        refine r_storeV rfl rfl rfl (recV_size (dPat_len l)) (recV_size (dPat_len l)) (recV_one _) ?_
        refine r_assign rfl rfl ?_
        refine r_nil ?_
        refine r_tn ?_
        refine r_ret ?_
        exact r_done2 (.inl rfl) rfl (res_cellV rfl rfl rfl (recV_size (dPat_len l))) (res_tmp rfl) fun w hw => ⟨(A2, c2), congrArg (fun b => Ending.returned (.tuple #[.agg (recV (decRec l)), .bool b])) (by unfold decOK; simp_all <;> (first | done | (intros; omega))), ⟨hR2, hc2⟩, hw.sub⟩
    · refine r_pass rfl rfl rfl rfl ?_
      refine r_pass rfl rfl rfl rfl ?_
      refine r_pick_f rfl rfl rfl ?_
      refine r_move rfl rfl ?_
      refine r_pass rfl rfl rfl rfl ?_
      refine r_pass rfl rfl rfl rfl ?_
      refine r_pick_f rfl rfl rfl ?_
      refine r_move rfl rfl ?_
      refine r_pass rfl rfl rfl rfl ?_
      refine r_pass rfl rfl rfl rfl ?_
      refine r_pass rfl rfl rfl rfl ?_
      refine r_pass rfl rfl rfl rfl ?_
      refine r_pick_f rfl rfl rfl ?_
      refine r_move rfl rfl ?_
      refine r_pass rfl rfl rfl rfl ?_
      refine r_pass rfl rfl rfl rfl ?_
      refine r_pick_f rfl rfl rfl ?_
      refine r_storeV rfl rfl rfl (recV_size (dPat_len l)) (recV_size (dPat_len l)) (recV_one _) ?_
      refine r_assign rfl rfl ?_
      refine r_nil ?_
      refine r_tn ?_
      refine r_ret ?_
      exact r_done2 (.inl rfl) rfl (res_cellV rfl rfl rfl (recV_size (dPat_len l))) (res_tmp rfl) fun w hw => ⟨(A2, c2), congrArg (fun b => Ending.returned (.tuple #[.agg (recV (decRec l)), .bool b])) (by unfold decOK; simp_all <;> (first | done | (intros; omega))), ⟨hR2, hc2⟩, hw.sub⟩

theorem decode23b (W : World) (b : Nat) (A : Option Addr) (c : Nat) (l : List Int) (h16 : ¬ 16 ≤ (dL l 2).length) (hmc : l.length ≤ c) (hm48 : l.length ≤ 140737488355328) (hl8 : bytesB l) (hb : W.heap.size ≤ b) (hR : Rd W A (l.map (Value.int .u8))) (w : World) (hK : Keeps W w) (hS : Sat w [b] [.blk b (.cells #[.slice A l.length c, .bool false] 80 (0, 0))] w) :
    Calls Try.prog 34 #[.pointer (some ⟨b, 0, none⟩)] w fun e w' => ∃ i : Option Addr × Nat, e = .returned (.tuple #[.agg (recV (decRec l)), .bool (decOK l)]) ∧ (Rd W i.1 ((plS (dV l 7 % 256) (dL l 8, dB l 8) 4).1.map (Value.int .u8)) ∧ (plS (dV l 7 % 256) (dL l 8, dB l 8) 4).1.length ≤ i.2) ∧ Sat w [b] [.blk b (.cells #[.slice i.1 (plS (dV l 7 % 256) (dL l 8, dB l 8) 4).1.length i.2, .bool (plS (dV l 7 % 256) (dL l 8, dB l 8) 4).2] 80 (0, 0))] w' := by
  refine enterS Try.func34 rfl rfl rfl hS ?_
  refine r_seq ?_
  refine r_region ?_
  refine r_allocV (cs := recV rec0) (by kernel_rfl) rfl fun b2 => ?_
  refine r_assign rfl rfl ?_
  refine r_nil ?_
  refine r_tn ?_
  refine r_seq ?_
  refine r_region ?_
  refine r_move rfl rfl ?_
  refine r_callbw (b := b) rfl rfl rfl (by kernel_rfl) rfl (fun w hw hs => by exact number23 W b A c 1 (dL l 0) (dB l 0) hmc (Nat.le_trans (dL_le l 0) hm48) (by decide) (dL_bytes hl8 0) hb hR w (hK.step hw hb) hs) ?_
  rintro ⟨A9, c9⟩ ⟨hR9, hc9⟩
  refine r_assign rfl rfl ?_
  refine r_nil ?_
  refine r_tn ?_
  refine r_seq ?_
  refine r_region ?_
  refine r_move rfl rfl ?_
  refine r_and (r := ((dV l 0 &&& 1 : Nat) : Int)) rfl rfl rfl ((u64_bits (dV_lt hl8 0 (by decide)) (by decide)).1) ?_
  refine r_neq (p := fBit l 1) rfl rfl rfl rfl ?_
  refine r_move rfl rfl ?_
  refine r_and (r := ((dV l 0 &&& 2 : Nat) : Int)) rfl rfl rfl ((u64_bits (dV_lt hl8 0 (by decide)) (by decide)).1) ?_
  refine r_neq (p := fBit l 2) rfl rfl rfl rfl ?_
  refine r_fieldAddr (off := 512) (o' := 512) rfl rfl rfl rfl ?_
  refine r_store1 rfl rfl rfl rfl rfl (by rw [recV_size (by first | assumption | rfl)]; omega) ?_
  rw [set_hires]
  generalize hr1 : ({ rec0 with hires := fBit l 1 } : Rec) = r1
  have hp1 : r1.pat.length = 16 := by rw [← hr1]; exact List.length_replicate
  refine r_fieldAddr (off := 513) (o' := 513) rfl rfl rfl rfl ?_
  refine r_store1 rfl rfl rfl rfl rfl (by rw [recV_size (by first | assumption | rfl)]; omega) ?_
  rw [set_sound]
  generalize hr2 : ({ r1 with sound := fBit l 2 } : Rec) = r2
  refine r_nil ?_
  refine r_tn ?_
  refine r_seq ?_
  refine r_region ?_
  refine r_move rfl rfl ?_
  refine r_callbw (b := b) rfl rfl rfl (by kernel_rfl) rfl (fun w hw hs => by exact number23 W b A9 c9 1 (dL l 1) (dB l 1) hc9 (Nat.le_trans (dL_le l 1) hm48) (by decide) (dL_bytes hl8 1) hb hR9 w (hK.step hw hb) hs) ?_
  rintro ⟨A19, c19⟩ ⟨hR19, hc19⟩
  refine r_convert (r := ((dV l 1 % 256 : Nat) : Int)) rfl rfl rfl rfl (wrap8 (dV l 1)) ?_
  refine r_fieldAddr (off := 530) (o' := 530) rfl rfl rfl rfl ?_
  have hp2 : r2.pat.length = 16 := by rw [← hr2]; exact hp1
  refine r_store1 rfl rfl rfl rfl rfl (by rw [recV_size (by first | assumption | rfl)]; omega) ?_
  rw [set_pitch hp2]
  generalize hr3 : ({ r2 with pitch := ((dV l 1 % 256 : Nat) : Int) } : Rec) = r3
  have hp3 : r3.pat.length = 16 := by rw [← hr3]; exact hp2
  refine r_nil ?_
  refine r_tn ?_
  refine r_seq ?_
  refine r_mixed (by kernel_rfl) (by kernel_rfl) ?_
  refine r_fieldAddr (off := 514) (o' := 514) rfl rfl rfl rfl ?_
  refine r_sliceArr rfl rfl rfl rfl ?_
  refine r_move rfl rfl ?_
  refine r_callb (b := b) rfl rfl rfl (by kernel_rfl) rfl (fun w hw => by exact take23_no b A19 (dL l 2).length c19 16 (dB l 2) (by omega) (by decide) w hw) ?_
  rintro g25 _
  refine r_copy (xs := (dPat l).map (Value.int .u8)) rfl rfl rfl rfl rfl (fun w hw => by rw [dPat_no h16]; exact own_rd (A := some ⟨g25, 0, none⟩) (m := 16) (c := 16) hw) (by rw [List.length_map, dPat_len]) (fun u hu => by obtain ⟨z, _, rfl⟩ := List.mem_map.1 hu; rfl) (by rw [recV_size hp3]; decide) (copy_pat hp3 (dPat_len l)) ?_
  generalize hr4 : ({ r3 with pat := dPat l } : Rec) = r4
  have hp4 : r4.pat.length = 16 := by rw [← hr4]; exact dPat_len l
  refine r_nil ?_
  refine r_tn ?_
  refine r_seq ?_
  refine r_region ?_
  refine r_move rfl rfl ?_
  refine r_callbw (b := b) rfl rfl rfl (by kernel_rfl) rfl (fun w hw hs => by exact number23 W b none 0 1 (dL l 3) (dB l 3) (by rw [dL3_no h16]; exact Nat.le_refl _) (Nat.le_trans (dL_le l 3) hm48) (by decide) (dL_bytes hl8 3) hb (by rw [dL3_no h16]; exact Rd.nil W none) w (hK.step hw hb) (by rw [dL3_no h16, dB3_no h16]; exact hs)) ?_
  rintro ⟨A28, c28⟩ ⟨hR28, hc28⟩
  refine r_convert (r := ((dV l 3 : Nat) : Int)) rfl rfl rfl rfl (w64 (z := ((dV l 3 : Nat) : Int)) (by have := dV_byte hl8 3 rfl; omega)) ?_
  refine r_move rfl rfl ?_
  refine r_callbw (b := b) rfl rfl rfl (by kernel_rfl) rfl (fun w hw hs => by exact number23 W b A28 c28 1 (dL l 4) (dB l 4) hc28 (Nat.le_trans (dL_le l 4) hm48) (by decide) (dL_bytes hl8 4) hb hR28 w (hK.step hw hb) hs) ?_
  rintro ⟨A31, c31⟩ ⟨hR31, hc31⟩
  refine r_convert (r := ((dV l 4 : Nat) : Int)) rfl rfl rfl rfl (w64 (z := ((dV l 4 : Nat) : Int)) (by have := dV_byte hl8 4 rfl; omega)) ?_
  refine r_fieldAddr (off := 531) (o' := 531) rfl rfl rfl rfl ?_
  refine r_fieldAddr (off := 0) (o' := 531) rfl rfl rfl rfl ?_
  refine r_store1 rfl rfl rfl rfl rfl (by rw [recV_size (by first | assumption | rfl)]; omega) ?_
  rw [set_kind hp4]
  generalize hr5 : ({ r4 with kind := ((dV l 3 : Nat) : Int) } : Rec) = r5
  have hp5 : r5.pat.length = 16 := by rw [← hr5]; exact hp4
  refine r_fieldAddr (off := 531) (o' := 531) rfl rfl rfl rfl ?_
  refine r_fieldAddr (off := 1) (o' := 532) rfl rfl rfl rfl ?_
  refine r_store1 rfl rfl rfl rfl rfl (by rw [recV_size (by first | assumption | rfl)]; omega) ?_
  rw [set_cause hp5]
  generalize hr6 : ({ r5 with cause := ((dV l 4 : Nat) : Int) } : Rec) = r6
  have hp6 : r6.pat.length = 16 := by rw [← hr6]; exact hp5
  refine r_nil ?_
  refine r_tn ?_
  refine r_seq ?_
  refine r_region ?_
  refine r_move rfl rfl ?_
  refine r_callbw (b := b) rfl rfl rfl (by kernel_rfl) rfl (fun w hw hs => by exact number23 W b A31 c31 2 (dL l 5) (dB l 5) hc31 (Nat.le_trans (dL_le l 5) hm48) (by decide) (dL_bytes hl8 5) hb hR31 w (hK.step hw hb) hs) ?_
  rintro ⟨A38, c38⟩ ⟨hR38, hc38⟩
  refine r_convert (r := ((dV l 5 : Nat) : Int)) rfl rfl rfl rfl (w64 (z := ((dV l 5 : Nat) : Int)) (by have := dV_two hl8 5 rfl; omega)) ?_
  refine r_fieldAddr (off := 531) (o' := 531) rfl rfl rfl rfl ?_
  refine r_fieldAddr (off := 2) (o' := 533) rfl rfl rfl rfl ?_
  refine r_store1 rfl rfl rfl rfl rfl (by rw [recV_size (by first | assumption | rfl)]; omega) ?_
  rw [set_pc hp6]
  generalize hr7 : ({ r6 with pc := ((dV l 5 : Nat) : Int) } : Rec) = r7
  have hp7 : r7.pat.length = 16 := by rw [← hr7]; exact hp6
  have hP7 : r7.P = fun _ => noneQ := by rw [← hr7, ← hr6, ← hr5, ← hr4, ← hr3, ← hr2, ← hr1]; rfl
  refine r_nil ?_
  refine r_tn ?_
  refine r_seq ?_
  refine r_region ?_
  refine r_move rfl rfl ?_
  refine r_callbw (b := b) rfl rfl rfl (by kernel_rfl) rfl (fun w hw hs => by exact number23 W b A38 c38 8 (dL l 6) (dB l 6) hc38 (Nat.le_trans (dL_le l 6) hm48) (by decide) (dL_bytes hl8 6) hb hR38 w (hK.step hw hb) hs) ?_
  rintro ⟨A43, c43⟩ ⟨hR43, hc43⟩
  refine r_assign rfl rfl ?_
  refine r_nil ?_
  refine r_tn ?_
  refine r_seq ?_
  refine r_region ?_
  refine r_move rfl rfl ?_
  refine r_callbw (b := b) rfl rfl rfl (by kernel_rfl) rfl (fun w hw hs => by exact number23 W b A43 c43 1 (dL l 7) (dB l 7) hc43 (Nat.le_trans (dL_le l 7) hm48) (by decide) (dL_bytes hl8 7) hb hR43 w (hK.step hw hb) hs) ?_
  rintro ⟨A45, c45⟩ ⟨hR45, hc45⟩
  refine r_convert (r := ((dV l 7 % 256 : Nat) : Int)) rfl rfl rfl rfl (wrap8 (dV l 7)) ?_
  refine r_assign rfl rfl ?_
  refine r_nil ?_
  refine r_tn ?_
  refine r_seq ?_
  refine r_seq ?_
  refine r_region ?_
  refine r_move rfl rfl ?_
  refine r_nil ?_
  refine r_tn ?_
  refine r_block ?_
  refine r_loop2 (fun k A2 c2 => [(0, .pointer (some ⟨b, 0, none⟩)), (2, .pointer (some ⟨b2, 0, none⟩)), (4, .int .u64 ((dV l 0 : Nat) : Int)), (5, .int .u64 ((dV l 6 : Nat) : Int)), (6, .int .u8 ((dV l 7 % 256 : Nat) : Int)), (47, .int .i64 (k : Int))]) (fun k A2 c2 => [.blk b (.cells #[.slice A2 (plS (dV l 7 % 256) (dL l 8, dB l 8) k).1.length c2, .bool (plS (dV l 7 % 256) (dL l 8, dB l 8) k).2] 80 (0, 0)), .blk b2 (.cells (recV { r7 with P := plP (dV l 7 % 256) (dL l 8, dB l 8) k }) 48 (0, 0))]) (fun k A2 c2 => k ≤ 4 ∧ Rd W A2 ((plS (dV l 7 % 256) (dL l 8, dB l 8) k).1.map (Value.int .u8)) ∧ (plS (dV l 7 % 256) (dL l 8, dB l 8) k).1.length ≤ c2) 4 0 A45 c45 ⟨by omega, hR45, hc45⟩ ⟨rfl, rfl, rfl, rfl, rfl, rfl, trivial⟩ (fun w hw => by have h2 : Sat _ _ [.blk b (.cells #[.slice A45 (rdL (dL l 7) 1).length c45, .bool (rdB (dL l 7) 1 (dB l 7))] 80 (0, 0)), .blk b2 (.cells (recV r7) 48 (0, 0))] w := hw.sub; rw [plP_zero, rec_eta hP7]; exact h2) fun k A2 c2 hk => ?_
  obtain ⟨hk, hR2, hc2⟩ := hk
  refine r_seq ?_
  refine r_region ?_
  refine r_lss rfl rfl rfl rfl ?_
  refine r_nil ?_
  refine r_tn ?_
  refine r_seq ?_
  refine r_cond rfl (fun hc => ?_) (fun hc => ?_)
  · refine r_skip ?_
    refine r_tn ?_
    refine r_seq ?_
    refine r_block ?_
    refine r_seq ?_
    refine r_region ?_
    have hk2 : k < 4 := by have h := of_decide_eq_true hc; omega
    have hu8 : dV l 7 % 256 < 256 := Nat.mod_lt _ (by decide)
    refine r_move rfl rfl ?_
    refine r_assign rfl rfl ?_
    refine r_nil ?_
    refine r_tn ?_
    refine r_seq ?_
    refine r_region ?_
    refine r_move rfl rfl ?_
    refine r_move rfl rfl ?_
    refine r_shr (r := (((dV l 7 % 256) >>> k : Nat) : Int)) rfl rfl rfl (by omega) (shr8b hu8 k) ?_
    refine r_and rfl rfl rfl (and8b (Nat.lt_of_le_of_lt (sh_le _ _) hu8)) ?_
    refine r_eql rfl rfl rfl (bit_dec (dV l 7 % 256) k) ?_
    refine r_nil ?_
    refine r_tn ?_
    refine r_cond rfl (fun hc => ?_) (fun hc => ?_)
    · refine r_region ?_
      refine r_move rfl rfl ?_
      refine r_move rfl rfl ?_
      refine r_makeFunc rfl rfl rfl ?_
      refine r_callbw (b := b) rfl rfl rfl (by kernel_rfl) rfl (fun w hw hs => by exact rows23 W b A2 c2 (plS (dV l 7 % 256) (dL l 8, dB l 8) k) hc2 (Nat.le_trans (plS_le _ _ k) (Nat.le_trans (dL_le l 8) hm48)) (plS_bytes (dL_bytes hl8 8) k) hb hR2 w (hK.step hw hb) hs) ?_
      rintro ⟨A58, c58⟩ ⟨hR58, hc58⟩
      refine r_fieldAddr (off := 0) (o' := 0) rfl rfl rfl rfl ?_
      refine r_indexArr (sz := 128) (o' := 128 * k) rfl rfl rfl rfl rfl (by omega) (by omega) (by omega) ?_
      refine r_store (m := 128) rfl rfl rfl (planeV_size _) (by rw [recV_size (by exact hp7)]; omega) (planeV_one _) (splice_plane (by exact hp7) hk2 _) ?_
      refine r_nil ?_
      refine r_bn ?_
      refine r_tn ?_
      refine r_region ?_
      have hu := hc
      refine r_add rfl rfl rfl (w64 (by omega)) ?_
      refine r_move rfl rfl ?_
      refine r_nil ?_
      refine r_tn ?_
      first
        | exact r_again2 (k + 1) A58 c58 ⟨by omega, by rw [plS_yes hu]; exact hR58, by rw [plS_yes hu]; exact hc58⟩ (by omega) ⟨rfl, rfl, rfl, rfl, rfl, rfl, trivial⟩ (fun w hw => by rw [plS_yes hu, plP_yes hu]; exact hw.sub)
        | exact r_again2 (k + 1) A2 c2 ⟨by omega, by rw [plS_no hu]; exact hR2, by rw [plS_no hu]; exact hc2⟩ (by omega) ⟨rfl, rfl, rfl, rfl, rfl, rfl, trivial⟩ (fun w hw => by rw [plS_no hu, plP_no hu]; exact hw.sub)
    · refine r_skip ?_
      refine r_bn ?_
      refine r_tn ?_
      refine r_region ?_
      have hu := hc
      refine r_add rfl rfl rfl (w64 (by omega)) ?_
      refine r_move rfl rfl ?_
      refine r_nil ?_
      refine r_tn ?_
      first
        | exact r_again2 (k + 1) A58 c58 ⟨by omega, by rw [plS_yes hu]; exact hR58, by rw [plS_yes hu]; exact hc58⟩ (by omega) ⟨rfl, rfl, rfl, rfl, rfl, rfl, trivial⟩ (fun w hw => by rw [plS_yes hu, plP_yes hu]; exact hw.sub)
        | exact r_again2 (k + 1) A2 c2 ⟨by omega, by rw [plS_no hu]; exact hR2, by rw [plS_no hu]; exact hc2⟩ (by omega) ⟨rfl, rfl, rfl, rfl, rfl, rfl, trivial⟩ (fun w hw => by rw [plS_no hu, plP_no hu]; exact hw.sub)
  · refine r_exit ?_
    refine r_te ?_
    refine r_te ?_
    refine r_be ?_
    refine r_tn ?_
    refine r_seq ?_
    refine r_region ?_
    refine r_move rfl rfl ?_
    have hk4 : k = 4 := by have h := of_decide_eq_false hc; omega
    subst hk4
    clear hc hp1 hp2 hp3 hp4 hp5 hp6 hp7 hP7
    subst hr7
    subst hr6
    subst hr5
    subst hr4
    subst hr3
    subst hr2
    subst hr1
    refine r_convert rfl rfl rfl rfl rfl ?_
    refine r_fieldAddr (off := 531) (o' := 531) rfl rfl rfl rfl ?_
    refine r_fieldAddr (off := 3) (o' := 534) rfl rfl rfl rfl ?_
    refine r_store1 rfl rfl rfl rfl rfl (by rw [recV_size (by exact dPat_len l)]; omega) ?_
    rw [set_cycle (by exact dPat_len l)]
    refine r_nil ?_
    refine r_tn ?_
    refine r_seq ?_
    refine r_mixedD { xb := [], rb := [b2], rs := [66], fs := [], acs := [82, 88] } (by kernel_rfl) (by kernel_rfl) (fun w hw k hk => by
      simp only [List.mem_cons, List.not_mem_nil, or_false] at hk
      rcases hk with rfl <;> exact Sat.lt hw) ?_
    refine r_loadV rfl rfl rfl rfl (recV_size (dPat_len l)) ?_
    refine r_move rfl rfl ?_
    refine r_nilCheck rfl rfl ?_
    refine r_fieldAddr (off := 1) rfl rfl rfl rfl ?_
    refine r_load1 rfl rfl rfl (by rfl) ?_
    refine r_not rfl rfl rfl ?_
    refine r_move rfl rfl ?_
    refine r_split 72 rfl (fun hb72 => ?_) (fun hb72 => ?_)
    · refine r_go rfl rfl ?_
      refine r_move rfl rfl ?_
      refine r_go rfl rfl ?_
      refine r_leq (p := decide (dV l 0 ≤ 3)) rfl rfl rfl (decide_eq_decide.2 ⟨fun _ => by omega, fun _ => by omega⟩) ?_
      refine r_pick_t rfl rfl rfl ?_
      refine r_move rfl rfl ?_
      refine r_split 76 rfl (fun hb76 => ?_) (fun hb76 => ?_)
      · refine r_go rfl rfl ?_
        refine r_move rfl rfl ?_
        refine r_go rfl rfl ?_
        refine r_leq (p := decide (dV l 6 ≤ 4611686018427387904)) rfl rfl rfl (decide_eq_decide.2 ⟨fun _ => by omega, fun _ => by omega⟩) ?_
        refine r_pick_t rfl rfl rfl ?_
        refine r_move rfl rfl ?_
        refine r_split 80 rfl (fun hb80 => ?_) (fun hb80 => ?_)
        · refine r_go rfl rfl ?_
          refine r_loadV rfl rfl rfl rfl (recV_size (dPat_len l)) ?_
          refine r_go rfl rfl ?_
          refine r_call rfl rfl rfl (by kernel_rfl) rfl (fun w hw => by exact used23 (decRec l) w (dPat_len l)) ?_
          refine r_go rfl rfl ?_
          refine r_move rfl rfl ?_
          refine r_go rfl rfl ?_
          refine r_eql (p := decide (num (usedF (decRec l).P) 4 = dV l 7 % 256)) rfl rfl rfl (decide_eq_decide.2 ⟨fun _ => by omega, fun _ => by omega⟩) ?_
          refine r_pick_t rfl rfl rfl ?_
          refine r_move rfl rfl ?_
          refine r_split 86 rfl (fun hb86 => ?_) (fun hb86 => ?_)
          · refine r_go rfl rfl ?_
            refine r_loadV rfl rfl rfl rfl (recV_size (dPat_len l)) ?_
            refine r_go rfl rfl ?_
            refine r_call rfl rfl rfl (by kernel_rfl) rfl (fun w hw => by exact valid23 (decRec l) w (dPat_len l)) ?_
            refine r_pick_t rfl rfl rfl ?_
            refine r_storeV rfl rfl rfl (recV_size (dPat_len l)) (recV_size (dPat_len l)) (recV_one _) ?_
            refine r_assign rfl rfl ?_
            refine r_nil ?_
            refine r_tn ?_
            refine r_ret ?_
            exact r_done2 (.inl rfl) rfl (res_cellV rfl rfl rfl (recV_size (dPat_len l))) (res_tmp rfl) fun w hw => ⟨(A2, c2), congrArg (fun b => Ending.returned (.tuple #[.agg (recV (decRec l)), .bool b])) (by unfold decOK; simp_all <;> (first | done | (intros; omega))), ⟨hR2, hc2⟩, hw.sub⟩
          · refine r_pass rfl rfl rfl rfl ?_
            refine r_pass rfl rfl rfl rfl ?_
            refine r_pick_f rfl rfl rfl ?_
            refine r_storeV rfl rfl rfl (recV_size (dPat_len l)) (recV_size (dPat_len l)) (recV_one _) ?_
            refine r_assign rfl rfl ?_
            refine r_nil ?_
            refine r_tn ?_
            refine r_ret ?_
            exact r_done2 (.inl rfl) rfl (res_cellV rfl rfl rfl (recV_size (dPat_len l))) (res_tmp rfl) fun w hw => ⟨(A2, c2), congrArg (fun b => Ending.returned (.tuple #[.agg (recV (decRec l)), .bool b])) (by unfold decOK; simp_all <;> (first | done | (intros; omega))), ⟨hR2, hc2⟩, hw.sub⟩
        · refine r_pass rfl rfl rfl rfl ?_
          refine r_pass rfl rfl rfl rfl ?_
          refine r_pass rfl rfl rfl rfl ?_
          refine r_pass rfl rfl rfl rfl ?_
          refine r_pick_f rfl rfl rfl ?_
          refine r_move rfl rfl ?_
          refine r_pass rfl rfl rfl rfl ?_
          refine r_pass rfl rfl rfl rfl ?_
          refine r_pick_f rfl rfl rfl ?_
          refine r_storeV rfl rfl rfl (recV_size (dPat_len l)) (recV_size (dPat_len l)) (recV_one _) ?_
          refine r_assign rfl rfl ?_
          refine r_nil ?_
          refine r_tn ?_
          refine r_ret ?_
          exact r_done2 (.inl rfl) rfl (res_cellV rfl rfl rfl (recV_size (dPat_len l))) (res_tmp rfl) fun w hw => ⟨(A2, c2), congrArg (fun b => Ending.returned (.tuple #[.agg (recV (decRec l)), .bool b])) (by unfold decOK; simp_all <;> (first | done | (intros; omega))), ⟨hR2, hc2⟩, hw.sub⟩
      · refine r_pass rfl rfl rfl rfl ?_
        refine r_pass rfl rfl rfl rfl ?_
        refine r_pick_f rfl rfl rfl ?_
        refine r_move rfl rfl ?_
        refine r_pass rfl rfl rfl rfl ?_
        refine r_pass rfl rfl rfl rfl ?_
        refine r_pass rfl rfl rfl rfl ?_
        refine r_pass rfl rfl rfl rfl ?_
        refine r_pick_f rfl rfl rfl ?_
        refine r_move rfl rfl ?_
        refine r_pass rfl rfl rfl rfl ?_
        refine r_pass rfl rfl rfl rfl ?_
        refine r_pick_f rfl rfl rfl ?_
        refine r_storeV rfl rfl rfl (recV_size (dPat_len l)) (recV_size (dPat_len l)) (recV_one _) ?_
        refine r_assign rfl rfl ?_
        refine r_nil ?_
        refine r_tn ?_
        refine r_ret ?_
        exact r_done2 (.inl rfl) rfl (res_cellV rfl rfl rfl (recV_size (dPat_len l))) (res_tmp rfl) fun w hw => ⟨(A2, c2), congrArg (fun b => Ending.returned (.tuple #[.agg (recV (decRec l)), .bool b])) (by unfold decOK; simp_all <;> (first | done | (intros; omega))), ⟨hR2, hc2⟩, hw.sub⟩
    · refine r_pass rfl rfl rfl rfl ?_
      refine r_pass rfl rfl rfl rfl ?_
      refine r_pick_f rfl rfl rfl ?_
      refine r_move rfl rfl ?_
      refine r_pass rfl rfl rfl rfl ?_
      refine r_pass rfl rfl rfl rfl ?_
      refine r_pick_f rfl rfl rfl ?_
      refine r_move rfl rfl ?_
      refine r_pass rfl rfl rfl rfl ?_
      refine r_pass rfl rfl rfl rfl ?_
      refine r_pass rfl rfl rfl rfl ?_
      refine r_pass rfl rfl rfl rfl ?_
      refine r_pick_f rfl rfl rfl ?_
      refine r_move rfl rfl ?_
      refine r_pass rfl rfl rfl rfl ?_
      refine r_pass rfl rfl rfl rfl ?_
      refine r_pick_f rfl rfl rfl ?_
      refine r_storeV rfl rfl rfl (recV_size (dPat_len l)) (recV_size (dPat_len l)) (recV_one _) ?_
      refine r_assign rfl rfl ?_
      refine r_nil ?_
      refine r_tn ?_
      refine r_ret ?_
      exact r_done2 (.inl rfl) rfl (res_cellV rfl rfl rfl (recV_size (dPat_len l))) (res_tmp rfl) fun w hw => ⟨(A2, c2), congrArg (fun b => Ending.returned (.tuple #[.agg (recV (decRec l)), .bool b])) (by unfold decOK; simp_all <;> (first | done | (intros; omega))), ⟨hR2, hc2⟩, hw.sub⟩
end
section
open Go Go.RowKit
set_option linter.unusedVariables false
set_option linter.unusedSimpArgs false
set_option maxHeartbeats 2000000
set_option maxRecDepth 4000
attribute [local irreducible] mix

theorem cellsOk_app : ∀ (k1 k2 : List LeafK) (v1 v2 : List Value), cellsOk k1 v1 = true → cellsOk k2 v2 = true → cellsOk (k1 ++ k2) (v1 ++ v2) = true
  | [], k2, [], v2, _, h2 => h2
  | [], _, _ :: _, _, h1, _ => by simp [cellsOk] at h1
  | _ :: _, _, [], _, h1, _ => by simp [cellsOk] at h1
  | a :: k1, k2, b :: v1, v2, h1, h2 => by
    simp only [cellsOk, Bool.and_eq_true] at h1
    simp only [List.cons_append, cellsOk, Bool.and_eq_true]
    exact ⟨h1.1, cellsOk_app k1 k2 v1 v2 h1.2 h2⟩
theorem ok_u8 : ∀ l : List Int, cellsOk (List.replicate l.length (.i .u8)) (l.map (Value.int .u8)) = true
  | [] => rfl
  | a :: l => by simp only [List.length_cons, List.replicate_succ, List.map_cons, cellsOk, ok_u8 l, Bool.and_true]; rfl
def recLs : List LeafK := List.replicate 512 (.i .u64) ++ ([.b, .b] ++ (List.replicate 16 (.i .u8) ++ [.i .u8, .i .i64, .i .i64, .i .i64, .i .i64]))
theorem recV_ok {r : Rec} (h : r.pat.length = 16) : cellsOk recLs (recV r).toList = true := by
  have h1 := ok_ints (fun j => ((cellP (r.P (j / 128)) (j % 128) : Nat) : Int)) (List.range 512)
  rw [List.length_range] at h1
  have h2 := ok_u8 r.pat
  rw [h] at h2
  exact cellsOk_app _ _ _ _ h1 (cellsOk_app _ _ _ _ rfl (cellsOk_app _ _ _ _ h2 rfl))
theorem recFlat : flatT Try.prog 48 recLs := ⟨by kernel_rfl, by kernel_rfl, by kernel_rfl⟩
def recEq (a b : Rec) : Bool := cellsEq (recV a).toList (recV b).toList
/-- the least place at which two lists differ, or -1 -/
def DiffIs (l1 l2 : List Rec) (d : Int) : Prop :=
  (d = -1 ∧ l1.length = l2.length ∧ ∀ j (h1 : j < l1.length) (h2 : j < l2.length), recEq l1[j] l2[j] = true) ∨
  (∃ k : Nat, d = k ∧ (∀ j, j < k → ∃ (h1 : j < l1.length) (h2 : j < l2.length), recEq l1[j] l2[j] = true) ∧ (k < l1.length ∨ k < l2.length) ∧ ∀ (h1 : k < l1.length) (h2 : k < l2.length), recEq l1[k] l2[k] = false)


theorem diff_end {l1 l2 : List Rec} {m k : Nat} (hk : k = m) (hmx : l1.length ≤ m ∧ l2.length ≤ m ∧ (m = l1.length ∨ m = l2.length)) (hpre : ∀ j, j < k → ∃ (h1 : j < l1.length) (h2 : j < l2.length), recEq l1[j] l2[j] = true) :
    (-1 : Int) = -1 ∧ l1.length = l2.length ∧ ∀ j (h1 : j < l1.length) (h2 : j < l2.length), recEq l1[j] l2[j] = true := by
  subst hk
  refine ⟨rfl, ?_, fun j h1 h2 => ?_⟩
  · rcases Nat.eq_zero_or_pos k with h | h
    · omega
    · obtain ⟨h1, h2, _⟩ := hpre (k - 1) (by omega)
      omega
  · obtain ⟨_, _, h3⟩ := hpre j (by omega)
    exact h3
theorem diff23 (l1 l2 : List Rec) (A1 A2 : Option Addr) (c1 c2 : Nat) (ok1 : ∀ r ∈ l1, r.pat.length = 16) (ok2 : ∀ r ∈ l2, r.pat.length = 16) (hl1 : l1.length ≤ 1048576) (hl2 : l2.length ≤ 1048576) (w : World) (hA1 : Rd w A1 (recsL l1)) (hA2 : Rd w A2 (recsL l2)) :
    Calls Try.prog 17 #[.slice A1 l1.length c1, .slice A2 l2.length c2] w fun e w' => ∃ i : Int, e = .returned (.int .i64 i) ∧ DiffIs l1 l2 i ∧ Sat w [] [] w' := by
  refine enter Try.func17 rfl rfl rfl ?_
  refine r_seq ?_
  refine r_region ?_
  refine r_assign rfl rfl ?_
  refine r_nil ?_
  refine r_tn ?_
  refine r_seq ?_
  refine r_seq ?_
  refine r_region ?_
  refine r_move rfl rfl ?_
  refine r_len rfl rfl rfl ?_
  refine r_move rfl rfl ?_
  refine r_len rfl rfl rfl ?_
  obtain ⟨m, hm⟩ : ∃ m : Nat, (if (l2.length : Int) > (l1.length : Int) then (l2.length : Int) else (l1.length : Int)) = (m : Int) := ⟨(if (l2.length : Int) > (l1.length : Int) then (l2.length : Int) else (l1.length : Int)).toNat, by split <;> omega⟩
  have hmx : l1.length ≤ m ∧ l2.length ≤ m ∧ (m = l1.length ∨ m = l2.length) := by split at hm <;> omega
  refine r_max (r := (m : Int)) rfl rfl rfl hm ?_
  clear hm
  refine r_move rfl rfl ?_
  refine r_nil ?_
  refine r_tn ?_
  refine r_block ?_
  refine r_loopN (fun k => [(0, .slice A1 l1.length c1), (1, .slice A2 l2.length c2), (10, .int .i64 (m : Int)), (11, .int .i64 (k : Int))]) (fun k => []) (fun k => k ≤ m ∧ ∀ j, j < k → ∃ (h1 : j < l1.length) (h2 : j < l2.length), recEq l1[j] l2[j] = true) m 0 ⟨by omega, fun j hj => by omega⟩ ⟨rfl, rfl, rfl, rfl, trivial⟩ (fun w hw => hw) fun k hk => ?_
  obtain ⟨hk, hpre⟩ := hk
  refine r_seq ?_
  refine r_region ?_
  refine r_lss rfl rfl rfl rfl ?_
  refine r_nil ?_
  refine r_tn ?_
  refine r_seq ?_
  refine r_cond rfl (fun hc => ?_) (fun hc => ?_)
  · refine r_skip ?_
    refine r_tn ?_
    refine r_seq ?_
    refine r_block ?_
    refine r_seq ?_
    refine r_region ?_
    have hkm : k < m := by have h := of_decide_eq_true hc; omega
    clear hc
    refine r_move rfl rfl ?_
    refine r_assign rfl rfl ?_
    refine r_nil ?_
    refine r_tn ?_
    refine r_seq ?_
    refine r_mixed (by kernel_rfl) (by kernel_rfl) ?_
    refine r_move rfl rfl ?_
    refine r_move rfl rfl ?_
    refine r_len rfl rfl rfl ?_
    refine r_geq (p := decide (l1.length ≤ k)) rfl rfl rfl (decide_eq_decide.2 ⟨fun _ => by omega, fun _ => by omega⟩) ?_
    refine r_move rfl rfl ?_
    refine r_split 18 rfl (fun hb18 => ?_) (fun hb18 => ?_)
    · refine r_pass rfl rfl rfl rfl ?_
      refine r_pass rfl rfl rfl rfl ?_
      refine r_pass rfl rfl rfl rfl ?_
      refine r_pass rfl rfl rfl rfl ?_
      refine r_pick_t rfl rfl rfl ?_
      refine r_move rfl rfl ?_
      refine r_pass rfl rfl rfl rfl ?_
      refine r_pass rfl rfl rfl rfl ?_
      refine r_pass rfl rfl rfl rfl ?_
      refine r_pass rfl rfl rfl rfl ?_
      refine r_pass rfl rfl rfl rfl ?_
      refine r_pass rfl rfl rfl rfl ?_
      refine r_pass rfl rfl rfl rfl ?_
      refine r_pass rfl rfl rfl rfl ?_
      refine r_pass rfl rfl rfl rfl ?_
      refine r_pick_t rfl rfl rfl ?_
      refine r_nil ?_
      refine r_tn ?_
      refine r_cond_t rfl ?_
      refine r_seq ?_
      refine r_region ?_
      refine r_move rfl rfl ?_
      refine r_assign rfl rfl ?_
      refine r_nil ?_
      refine r_tn ?_
      refine r_ret ?_
      refine r_br ?_
      refine r_tr ?_
      refine r_tr ?_
      refine r_br ?_
      refine r_tr ?_
      first
        | exact r_done1 (.inl rfl) rfl (res_tmp rfl) fun w hw => ⟨(k : Int), rfl, .inr ⟨k, rfl, hpre, .inl hk1, fun h1 h2 => by simpa using hc⟩, hw.clear⟩
        | exact r_done1 (.inl rfl) rfl (res_tmp rfl) fun w hw => ⟨(k : Int), rfl, .inr ⟨k, rfl, hpre, by omega, fun h1 h2 => by have h := of_decide_eq_true hb18; omega⟩, hw.clear⟩
        | exact r_done1 (.inl rfl) rfl (res_tmp rfl) fun w hw => ⟨(k : Int), rfl, .inr ⟨k, rfl, hpre, by omega, fun h1 h2 => by have h := of_decide_eq_true hb24; omega⟩, hw.clear⟩
        | exact r_done1 (.inl rfl) rfl (res_tmp rfl) fun w hw => ⟨-1, rfl, .inl (diff_end (by have h := of_decide_eq_false hc; omega) hmx hpre), hw.clear⟩
    · refine r_go rfl rfl ?_
      refine r_move rfl rfl ?_
      refine r_go rfl rfl ?_
      refine r_move rfl rfl ?_
      refine r_go rfl rfl ?_
      refine r_len rfl rfl rfl ?_
      refine r_go rfl rfl ?_
      refine r_geq (p := decide (l2.length ≤ k)) rfl rfl rfl (decide_eq_decide.2 ⟨fun _ => by omega, fun _ => by omega⟩) ?_
      refine r_pick_f rfl rfl rfl ?_
      refine r_move rfl rfl ?_
      refine r_split 24 rfl (fun hb24 => ?_) (fun hb24 => ?_)
      · refine r_pass rfl rfl rfl rfl ?_
        refine r_pass rfl rfl rfl rfl ?_
        refine r_pass rfl rfl rfl rfl ?_
        refine r_pass rfl rfl rfl rfl ?_
        refine r_pass rfl rfl rfl rfl ?_
        refine r_pass rfl rfl rfl rfl ?_
        refine r_pass rfl rfl rfl rfl ?_
        refine r_pass rfl rfl rfl rfl ?_
        refine r_pass rfl rfl rfl rfl ?_
        refine r_pick_t rfl rfl rfl ?_
        refine r_nil ?_
        refine r_tn ?_
        refine r_cond_t rfl ?_
        refine r_seq ?_
        refine r_region ?_
        refine r_move rfl rfl ?_
        refine r_assign rfl rfl ?_
        refine r_nil ?_
        refine r_tn ?_
        refine r_ret ?_
        refine r_br ?_
        refine r_tr ?_
        refine r_tr ?_
        refine r_br ?_
        refine r_tr ?_
        first
          | exact r_done1 (.inl rfl) rfl (res_tmp rfl) fun w hw => ⟨(k : Int), rfl, .inr ⟨k, rfl, hpre, .inl hk1, fun h1 h2 => by simpa using hc⟩, hw.clear⟩
          | exact r_done1 (.inl rfl) rfl (res_tmp rfl) fun w hw => ⟨(k : Int), rfl, .inr ⟨k, rfl, hpre, by omega, fun h1 h2 => by have h := of_decide_eq_true hb18; omega⟩, hw.clear⟩
          | exact r_done1 (.inl rfl) rfl (res_tmp rfl) fun w hw => ⟨(k : Int), rfl, .inr ⟨k, rfl, hpre, by omega, fun h1 h2 => by have h := of_decide_eq_true hb24; omega⟩, hw.clear⟩
          | exact r_done1 (.inl rfl) rfl (res_tmp rfl) fun w hw => ⟨-1, rfl, .inl (diff_end (by have h := of_decide_eq_false hc; omega) hmx hpre), hw.clear⟩
      · refine r_go rfl rfl ?_
        refine r_move rfl rfl ?_
        refine r_go rfl rfl ?_
        refine r_move rfl rfl ?_
        refine r_go rfl rfl ?_
        have hk1 : k < l1.length := by have h := of_decide_eq_false hb18; omega
        have hk2 : k < l2.length := by have h := of_decide_eq_false hb24; omega
        obtain ⟨ba1, oa1, rfl, hca1⟩ := hA1 (k * 535 + 512) _ (recs_hires ok1 hk1)
        have hri1 := Rd_rec hA1 ok1 hk1
        have hp1 := ok1 l1[k] (List.getElem_mem hk1)
        obtain ⟨ba2, oa2, rfl, hca2⟩ := hA2 (k * 535 + 512) _ (recs_hires ok2 hk2)
        have hri2 := Rd_rec hA2 ok2 hk2
        have hp2 := ok2 l2[k] (List.getElem_mem hk2)
        refine r_indexSl (sz := 535) (o' := oa1 + k * 535) rfl rfl rfl rfl rfl (by omega) (by omega) (by simp) ?_
        refine r_go rfl rfl ?_
        refine r_loadRd (vs := recL l1[k]) rfl rfl rfl rfl (recV_size hp1) (fun w hw => hri1.keep hw) ?_
        refine r_go rfl rfl ?_
        refine r_move rfl rfl ?_
        refine r_go rfl rfl ?_
        refine r_move rfl rfl ?_
        refine r_go rfl rfl ?_
        refine r_indexSl (sz := 535) (o' := oa2 + k * 535) rfl rfl rfl rfl rfl (by omega) (by omega) (by simp) ?_
        refine r_go rfl rfl ?_
        refine r_loadRd (vs := recL l2[k]) rfl rfl rfl rfl (recV_size hp2) (fun w hw => hri2.keep hw) ?_
        refine r_go rfl rfl ?_
        refine r_neqAgg (p := !recEq l1[k] l2[k]) rfl rfl rfl recFlat (recV_ok hp1) (recV_ok hp2) rfl ?_
        refine r_pick_f rfl rfl rfl ?_
        refine r_nil ?_
        refine r_tn ?_
        refine r_cond rfl (fun hc => ?_) (fun hc => ?_)
        · refine r_seq ?_
          refine r_region ?_
          refine r_move rfl rfl ?_
          refine r_assign rfl rfl ?_
          refine r_nil ?_
          refine r_tn ?_
          refine r_ret ?_
          refine r_br ?_
          refine r_tr ?_
          refine r_tr ?_
          refine r_br ?_
          refine r_tr ?_
          first
            | exact r_done1 (.inl rfl) rfl (res_tmp rfl) fun w hw => ⟨(k : Int), rfl, .inr ⟨k, rfl, hpre, .inl hk1, fun h1 h2 => by simpa using hc⟩, hw.clear⟩
            | exact r_done1 (.inl rfl) rfl (res_tmp rfl) fun w hw => ⟨(k : Int), rfl, .inr ⟨k, rfl, hpre, by omega, fun h1 h2 => by have h := of_decide_eq_true hb18; omega⟩, hw.clear⟩
            | exact r_done1 (.inl rfl) rfl (res_tmp rfl) fun w hw => ⟨(k : Int), rfl, .inr ⟨k, rfl, hpre, by omega, fun h1 h2 => by have h := of_decide_eq_true hb24; omega⟩, hw.clear⟩
            | exact r_done1 (.inl rfl) rfl (res_tmp rfl) fun w hw => ⟨-1, rfl, .inl (diff_end (by have h := of_decide_eq_false hc; omega) hmx hpre), hw.clear⟩
        · refine r_skip ?_
          refine r_bn ?_
          refine r_tn ?_
          refine r_region ?_
          refine r_add rfl rfl rfl (w64 (by omega)) ?_
          refine r_move rfl rfl ?_
          refine r_nil ?_
          refine r_tn ?_
          exact r_againN (k + 1) ⟨by omega, fun j hj => if e : j = k then by subst e; exact ⟨hk1, hk2, by simpa using hc⟩ else hpre j (by omega)⟩ (by omega) ⟨rfl, rfl, rfl, rfl, trivial⟩ (fun w hw => hw)
  · refine r_exit ?_
    refine r_te ?_
    refine r_te ?_
    refine r_be ?_
    refine r_tn ?_
    refine r_seq ?_
    refine r_region ?_
    refine r_assign rfl rfl ?_
    refine r_nil ?_
    refine r_tn ?_
    refine r_ret ?_
    first
      | exact r_done1 (.inl rfl) rfl (res_tmp rfl) fun w hw => ⟨(k : Int), rfl, .inr ⟨k, rfl, hpre, .inl hk1, fun h1 h2 => by simpa using hc⟩, hw.clear⟩
      | exact r_done1 (.inl rfl) rfl (res_tmp rfl) fun w hw => ⟨(k : Int), rfl, .inr ⟨k, rfl, hpre, by omega, fun h1 h2 => by have h := of_decide_eq_true hb18; omega⟩, hw.clear⟩
      | exact r_done1 (.inl rfl) rfl (res_tmp rfl) fun w hw => ⟨(k : Int), rfl, .inr ⟨k, rfl, hpre, by omega, fun h1 h2 => by have h := of_decide_eq_true hb24; omega⟩, hw.clear⟩
      | exact r_done1 (.inl rfl) rfl (res_tmp rfl) fun w hw => ⟨-1, rfl, .inl (diff_end (by have h := of_decide_eq_false hc; omega) hmx hpre), hw.clear⟩
end
section
open Go Go.RowKit
set_option linter.unusedVariables false
set_option linter.unusedSimpArgs false
set_option maxHeartbeats 2000000
set_option maxRecDepth 4000
attribute [local irreducible] mix

theorem same23 (A B : Option Addr) (c d : Nat) (xs ys : List Int) (w : World) (hm : xs.length ≤ 140737488351232) (hA : Rd w A (xs.map (Value.int .u8))) (hB : Rd w B (ys.map (Value.int .u8))) :
    Calls Try.prog 14 #[.slice A xs.length c, .slice B ys.length d] w fun e w' => e = .returned (.bool (decide (xs = ys))) ∧ Sat w [] [] w' := by
  refine enter Try.func14 rfl rfl rfl ?_
  refine r_seq ?_
  refine r_region ?_
  refine r_assign rfl rfl ?_
  refine r_nil ?_
  refine r_tn ?_
  refine r_seq ?_
  refine r_seq ?_
  refine r_region ?_
  refine r_move rfl rfl ?_
  refine r_len rfl rfl rfl ?_
  refine r_move rfl rfl ?_
  refine r_len rfl rfl rfl ?_
  refine r_neq rfl rfl rfl rfl ?_
  refine r_nil ?_
  refine r_tn ?_
  refine r_cond rfl (fun hc => ?_) (fun hc => ?_)
  · refine r_seq ?_
    refine r_region ?_
    refine r_assign rfl rfl ?_
    refine r_nil ?_
    refine r_tn ?_
    refine r_ret ?_
    refine r_tr ?_
    exact r_done1 (.inl rfl) rfl (res_tmp rfl) fun w hw => ⟨by have hne : xs ≠ ys := (fun e => by subst e; simp at hc); simp [hne], hw.clear⟩
  · refine r_skip ?_
    refine r_tn ?_
    refine r_seq ?_
    refine r_seq ?_
    refine r_region ?_
    refine r_assign rfl rfl ?_
    refine r_nil ?_
    refine r_tn ?_
    refine r_block ?_
    have hlen : xs.length = ys.length := by have h := of_decide_eq_false hc; omega
    refine r_loopN (fun k => [(0, .slice A xs.length c), (1, .slice B ys.length d), (5, .int .i64 (k : Int))]) (fun k => []) (fun k => k ≤ xs.length ∧ xs.take k = ys.take k) xs.length 0 ⟨by omega, rfl⟩ ⟨rfl, rfl, rfl, trivial⟩ (fun w hw => hw.clear) fun k hk => ?_
    refine r_seq ?_
    refine r_seq ?_
    refine r_region ?_
    refine r_move rfl rfl ?_
    refine r_move rfl rfl ?_
    refine r_len rfl rfl rfl ?_
    refine r_lss rfl rfl rfl rfl ?_
    refine r_nil ?_
    refine r_tn ?_
    refine r_cond rfl (fun hc => ?_) (fun hc => ?_)
    · refine r_skip ?_
      refine r_tn ?_
      refine r_seq ?_
      refine r_block ?_
      refine r_seq ?_
      refine r_mixed (by kernel_rfl) (by kernel_rfl) ?_
      have hlt : k < xs.length := by simpa using hc
      obtain ⟨ba, oa, rfl, hca⟩ := hA k (.int .u8 xs[k]) (by simp [hlt])
      have hltb : k < ys.length := by omega
      obtain ⟨bb, ob, rfl, hcb⟩ := hB k (.int .u8 ys[k]) (by simp [hltb])
      refine r_move rfl rfl ?_
      refine r_move rfl rfl ?_
      refine r_indexSl (sz := 1) rfl rfl rfl rfl rfl (by omega) (by omega) (show _ = oa + k by simp) ?_
      refine r_loadC rfl rfl rfl (fun w hw => (hA.keep hw).cell (j := k) (u := .int .u8 xs[k]) (by simp [hlt]) rfl) ?_
      refine r_move rfl rfl ?_
      refine r_move rfl rfl ?_
      refine r_indexSl (sz := 1) rfl rfl rfl rfl rfl (by omega) (by omega) (show _ = ob + k by simp) ?_
      refine r_loadC rfl rfl rfl (fun w hw => (hB.keep hw).cell (j := k) (u := .int .u8 ys[k]) (by simp [hltb]) rfl) ?_
      refine r_neq rfl rfl rfl rfl ?_
      refine r_nil ?_
      refine r_tn ?_
      refine r_cond rfl (fun hc => ?_) (fun hc => ?_)
      · refine r_seq ?_
        refine r_region ?_
        refine r_assign rfl rfl ?_
        refine r_nil ?_
        refine r_tn ?_
        refine r_ret ?_
        refine r_br ?_
        refine r_tr ?_
        refine r_tr ?_
        refine r_br ?_
        refine r_tr ?_
        have hne : xs[k] ≠ ys[k] := by simpa using hc
        exact r_done1 (.inl rfl) rfl (res_tmp rfl) fun w hw => ⟨by have hne2 : xs ≠ ys := (fun e => by subst e; exact hne rfl); simp [hne2], hw.clear⟩
      · refine r_skip ?_
        refine r_bn ?_
        refine r_tn ?_
        refine r_region ?_
        refine r_move rfl rfl ?_
        refine r_add rfl rfl rfl (w64 (by omega)) ?_
        refine r_assign rfl rfl ?_
        refine r_nil ?_
        refine r_tn ?_
        refine r_againN (k + 1) ⟨by omega, ?_⟩ (by omega) ⟨rfl, rfl, rfl, trivial⟩ (fun w hw => hw.clear)
        have heq : xs[k] = ys[k] := by simpa using hc
        rw [List.take_succ_eq_append_getElem hlt, List.take_succ_eq_append_getElem (by omega), hk.2, heq]
    · refine r_exit ?_
      refine r_te ?_
      refine r_te ?_
      refine r_be ?_
      refine r_tn ?_
      refine r_seq ?_
      refine r_region ?_
      refine r_assign rfl rfl ?_
      refine r_nil ?_
      refine r_tn ?_
      refine r_ret ?_
      have hnk : ¬ k < xs.length := by simpa using hc
      have heq : xs = ys := by have h2 := hk.2; rwa [show k = xs.length by omega, List.take_length, hlen, List.take_length] at h2
      exact r_done1 (.inl rfl) rfl (res_tmp rfl) fun w hw => ⟨by simp [heq], hw.clear⟩
end
end Go.Proofs.Ytgicjkjppnkodaa
