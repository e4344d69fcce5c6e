/-
  Rendering (chapter 24): Wave.
-/
import Derived.Test.YtdkgnnieehidbaaDoorLines24
namespace Go.Proofs.YtdkgnnieehidbaaDoor
open Go Go.RowKit
set_option linter.unusedVariables false
set_option linter.unusedSimpArgs false
set_option maxHeartbeats 2000000
set_option maxRecDepth 4000
attribute [local irreducible] mix

def audL (pat : List Int) (pitch : Int) : List Value := pat.map (Value.int .u8) ++ [.int .u8 pitch]
theorem audL_len {pat : List Int} (h : pat.length = 16) {pitch : Int} : (audL pat pitch).length = 17 := by simp [audL, h]
theorem aud_one (pat : List Int) (pitch : Int) : (audL pat pitch).toArray.toList.all Value.oneCell' = true := by
  refine List.all_eq_true.2 fun v hv => ?_
  have hv : v ∈ audL pat pitch := hv
  rcases List.mem_append.1 hv with hv | hv
  · obtain ⟨x, _, rfl⟩ := List.mem_map.1 hv; rfl
  · rw [List.mem_singleton.1 hv]; rfl
theorem aud_at {pat : List Int} (h : pat.length = 16) {pitch : Int} {i : Nat} (hi : i < 16) : (audL pat pitch).toArray[i]? = some (.int .u8 (pat.getD i 0)) := by
  rw [List.getElem?_toArray]
  unfold audL
  rw [List.getElem?_append, List.length_map, if_pos (by omega)]
  simp [h, hi]
theorem pat_byte {pat : List Int} (hb : ∀ z ∈ pat, 0 ≤ z ∧ z ≤ 255) (h : pat.length = 16) {i : Nat} (hi : i < 16) : 0 ≤ pat.getD i 0 ∧ pat.getD i 0 ≤ 255 := by
  have e : pat.getD i 0 = pat[i] := by simp [List.getD, show i < pat.length by omega]
  rw [e]
  exact hb _ (List.getElem_mem _)
theorem aud_build16 (p0 p1 p2 p3 p4 p5 p6 p7 p8 p9 p10 p11 p12 p13 p14 p15 : Int) : buildOf Tryd.prog 82 [(0, .agg ([p0, p1, p2, p3, p4, p5, p6, p7, p8, p9, p10, p11, p12, p13, p14, p15].map (Value.int .u8)).toArray)] = some (audL [p0, p1, p2, p3, p4, p5, p6, p7, p8, p9, p10, p11, p12, p13, p14, p15] 0).toArray := by kernel_rfl
theorem aud_build {pat : List Int} (h : pat.length = 16) : buildOf Tryd.prog 82 [(0, .agg (pat.map (Value.int .u8)).toArray)] = some (audL pat 0).toArray := by
  match pat, h with
  | [p0, p1, p2, p3, p4, p5, p6, p7, p8, p9, p10, p11, p12, p13, p14, p15], _ => exact aud_build16 p0 p1 p2 p3 p4 p5 p6 p7 p8 p9 p10 p11 p12 p13 p14 p15
theorem and127w : ∀ i : Nat, i < 128 → IntKind.i64.wrap ((BitVec.ofInt IntKind.i64.bits ((i : Nat) : Int) &&& BitVec.ofInt IntKind.i64.bits 127).toNat : Int) = ((i : Nat) : Int) := by decide +kernel
theorem shr8 : ∀ x : Nat, x < 256 → ∀ k : Nat, k < 8 → ((x : Nat) : Int).fdiv (2 ^ (min ((k : Nat) : Int).toNat IntKind.u8.bits)) = ((x >>> k : Nat) : Int) := by decide +kernel
theorem and8 : ∀ x : Nat, x < 256 → IntKind.u8.wrap ((BitVec.ofInt IntKind.u8.bits ((x : Nat) : Int) &&& BitVec.ofInt IntKind.u8.bits 1).toNat : Int) = ((x % 2 : Nat) : Int) := by decide +kernel
/-- a sample of a pattern -/
def sampB (pat : List Int) (i : Nat) : Bool := (pat.getD (i / 8) 0).toNat.testBit (7 - i % 8)
def waveB (pat : List Int) : List UInt8 := (List.range 128).map fun i => bif sampB pat i then 35 else 46
theorem waveB_len (pat : List Int) : (waveB pat).length = 128 := by simp [waveB]
theorem wave_tx (pat : List Int) : runesBytes ((List.range 128).map fun i => bif sampB pat i then 35 else 46) = tx (waveB pat) := by
  rw [runes_tx]
  · unfold waveB
    rw [List.map_map]
    congr 1
    apply List.map_congr_left
    intro i _
    show UInt8.ofNat (bif sampB pat i then (35 : Int) else 46).toNat = _
    cases sampB pat i <;> rfl
  · intro n hn
    obtain ⟨x, _, rfl⟩ := List.mem_map.1 hn
    cases sampB pat x <;> decide
attribute [local irreducible] mapK


theorem sample24 (pat : List Int) (pitch : Int) (i : Nat) (hp : pat.length = 16) (hb : ∀ z ∈ pat, 0 ≤ z ∧ z ≤ 255) (hi : i < 128) (w : World) :
    Calls Tryd.prog 38 #[.agg (audL pat pitch).toArray, .int .i64 (i : Int)] w fun e w' => e = .returned (.bool (sampB pat i)) ∧ Sat w [] [] w' := by
  refine enter Tryd.func38 rfl rfl rfl ?_
  refine r_seq ?_
  refine r_region ?_
  refine r_boxV rfl rfl fun b2 => ?_
  refine r_assign rfl rfl ?_
  refine r_nil ?_
  refine r_tn ?_
  refine r_seq ?_
  refine r_region ?_
  refine r_move rfl rfl ?_
  refine r_and (r := (i : Int)) rfl rfl rfl (and127w i hi) ?_
  refine r_assign rfl rfl ?_
  refine r_nil ?_
  refine r_tn ?_
  refine r_seq ?_
  refine r_region ?_
  refine r_move rfl rfl ?_
  refine r_quo (r := ((i / 8 : Nat) : Int)) rfl rfl rfl (by decide) ((congrArg _ (show ((i : Nat) : Int).tdiv 8 = ((i / 8 : Nat) : Int) from rfl)).trans (w64 (by omega))) ?_
  refine r_fieldAddr (off := 0) (o' := 0) rfl rfl rfl rfl ?_
  refine r_indexArr (sz := 1) (o' := i / 8) rfl rfl rfl rfl rfl (by omega) (by omega) (by omega) ?_
  obtain ⟨z, hz⟩ : ∃ z : Nat, pat.getD (i / 8) 0 = z := ⟨(pat.getD (i / 8) 0).toNat, by have h := pat_byte hb hp (show i / 8 < 16 by omega); omega⟩
  have hz8 := pat_byte hb hp (show i / 8 < 16 by omega)
  rw [hz] at hz8
  refine r_load1 (v := .int .u8 (z : Int)) rfl rfl rfl (by rw [← hz]; exact aud_at hp (by omega)) ?_
  refine r_move rfl rfl ?_
  refine r_rem (r := ((i % 8 : Nat) : Int)) rfl rfl rfl (by decide) rfl ?_
  refine r_sub (r := ((7 - i % 8 : Nat) : Int)) rfl rfl rfl ((w64 (by omega)).trans (by omega)) ?_
  refine r_shr (r := ((z >>> (7 - i % 8) : Nat) : Int)) rfl rfl rfl (by omega) (shr8 z (by omega) _ (by omega)) ?_
  refine r_and (r := ((z >>> (7 - i % 8) % 2 : Nat) : Int)) rfl rfl rfl (and8 _ (Nat.lt_of_le_of_lt (sh_le _ _) (by omega))) ?_
  refine r_eql (p := z.testBit (7 - i % 8)) rfl rfl rfl (bit_dec z _) ?_
  refine r_assign rfl rfl ?_
  refine r_nil ?_
  refine r_tn ?_
  refine r_ret ?_
  exact r_done1 (.inl rfl) rfl (res_tmp rfl) fun w hw => ⟨by unfold sampB; rw [hz]; rfl, hw.clear⟩

theorem wave1_24 (pat : List Int) (b3 i : Nat) (hp : pat.length = 16) (hb : ∀ z ∈ pat, 0 ≤ z ∧ z ≤ 255) (hi : i < 128) (w : World) (h3 : Rd w (some ⟨b3, 0, none⟩) (audL pat 0)) :
    Calls Tryd.prog 37 #[.int .i64 (i : Int), .pointer (some ⟨b3, 0, none⟩)] w fun e w' => e = .returned (.int .i32 (bif sampB pat i then 35 else 46)) ∧ Sat w [] [] w' := by
  refine enter Tryd.func37 rfl rfl rfl ?_
  refine r_seq ?_
  refine r_region ?_
  refine r_assign rfl rfl ?_
  refine r_nil ?_
  refine r_tn ?_
  refine r_seq ?_
  refine r_seq ?_
  refine r_region ?_
  refine r_loadRd (vs := audL pat 0) rfl rfl rfl rfl (audL_len hp) (fun w hw => h3.keep hw) ?_
  refine r_move rfl rfl ?_
  refine r_call rfl rfl rfl (by kernel_rfl) rfl (fun w hw => by exact sample24 pat 0 i hp hb hi w) ?_
  refine r_nil ?_
  refine r_tn ?_
  refine r_cond rfl (fun hc => ?_) (fun hc => ?_)
  · refine r_seq ?_
    refine r_region ?_
    refine r_assign rfl rfl ?_
    refine r_nil ?_
    refine r_tn ?_
    refine r_ret ?_
    refine r_tr ?_
    have hs : sampB pat i = true := hc
    rw [hs]
    exact r_done1 (.inl rfl) rfl (res_tmp rfl) fun w hw => ⟨rfl, hw.clear⟩
  · refine r_skip ?_
    refine r_tn ?_
    refine r_seq ?_
    refine r_region ?_
    refine r_assign rfl rfl ?_
    refine r_nil ?_
    refine r_tn ?_
    refine r_ret ?_
    have hs : sampB pat i = false := hc
    rw [hs]
    exact r_done1 (.inl rfl) rfl (res_tmp rfl) fun w hw => ⟨rfl, hw.clear⟩

theorem wave24 (pat : List Int) (hp : pat.length = 16) (hb : ∀ z ∈ pat, 0 ≤ z ∧ z ≤ 255) (w : World) :
    Calls Tryd.prog 13 #[.agg (pat.map (Value.int .u8)).toArray] w fun e w' => e = .returned (.string (tx (waveB pat))) ∧ Sat w [] [] w' := by
  refine enter Tryd.func13 rfl rfl rfl ?_
  refine r_seq ?_
  refine r_region ?_
  refine r_boxV rfl rfl fun b1 => ?_
  refine r_assign rfl rfl ?_
  refine r_nil ?_
  refine r_tn ?_
  refine r_seq ?_
  refine r_region ?_
  refine r_loadV rfl rfl rfl rfl (by rw [List.size_toArray, List.length_map, hp]; rfl) ?_
  refine r_build (cells := (audL pat 0).toArray) rfl rfl (aud_build hp) ?_
  refine r_allocV (cs := (audL (List.replicate 16 0) 0).toArray) (by kernel_rfl) rfl fun b3 => ?_
  refine r_storeV rfl rfl rfl (audL_len hp) (by rfl) (aud_one _ _) ?_
  refine r_nil ?_
  refine r_tn ?_
  refine r_seq ?_
  refine r_region ?_
  refine r_makeFunc rfl rfl rfl ?_
  refine r_callx rfl rfl rfl (by kernel_rfl) rfl (fun w hw => by exact mappedRune24 128 (fun i => bif sampB pat i then 35 else 46) 37 [.pointer (some ⟨b3, 0, none⟩)] (by kernel_rfl) (by decide) w (fun k hk w1 hw1 => wave1_24 pat b3 k hp hb hk w1 ((Rd.blk (hw.look (HasBlk.pick (b := b3))) (fun j u h => by rw [Nat.zero_add]; exact Array.getElem?_toList.symm.trans h)).keep hw1))) ?_
  rintro b7 _
  refine r_runesStr (l := (List.range 128).map fun i => bif sampB pat i then 35 else 46) (m := 128) rfl rfl rfl rfl rfl (by simp) (by decide) (fun w hw => by have h := own_rd (A := some ⟨b7, 0, none⟩) (m := 128) (c := 128) hw; rw [List.map_map]; exact h) ?_
  rw [wave_tx]
  refine r_assign rfl rfl ?_
  refine r_nil ?_
  refine r_tn ?_
  refine r_ret ?_
  exact r_done1 (.inl rfl) rfl (res_tmp rfl) fun w hw => ⟨rfl, hw.clear⟩
end Go.Proofs.YtdkgnnieehidbaaDoor
