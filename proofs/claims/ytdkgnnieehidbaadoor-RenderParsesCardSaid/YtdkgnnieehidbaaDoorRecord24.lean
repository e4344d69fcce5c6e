/-
  Rendering (chapter 24): Record.
-/
import Derived.Test.YtdkgnnieehidbaaDoorCat24
namespace Go.Proofs.YtdkgnnieehidbaaDoor
open Go Go.RowKit
set_option linter.unusedVariables false
set_option linter.unusedSimpArgs false
set_option maxHeartbeats 2000000
set_option maxRecDepth 4000
attribute [local irreducible] mix

theorem rec_pattern {r : Rec} (h : r.pat.length = 16) : (recV r).extract 514 530 = (r.pat.map (Value.int .u8)).toArray := by
  apply Array.ext_getElem?
  intro i
  have e0 : (r.pat.map (Value.int .u8)).toArray[i]? = (r.pat.map (Value.int .u8))[i]? := List.getElem?_toArray
  rw [Array.getElem?_extract, recV_size h, e0, List.getElem?_map]
  by_cases hi : i < 16
  · rw [if_pos (by omega), rec_pat h hi]
    have e : r.pat.getD i 0 = r.pat[i]'(by omega) := by simp [List.getD, show i < r.pat.length by omega]
    rw [List.getElem?_eq_getElem (show i < r.pat.length by omega), e]
    rfl
  · rw [if_neg (by omega), List.getElem?_eq_none (by omega)]
    rfl
def statR (r : Rec) : List UInt8 := statT r.kind.toNat r.cause.toNat r.pc.toNat r.cycle
theorem statG24 (r : Rec) (hst : statusB r.kind r.cause r.pc r.cycle = true) (w : World) (hG : Globs w) : Calls Tryd.prog 16 #[.agg #[.int .i64 r.kind, .int .i64 r.cause, .int .i64 r.pc, .int .i64 r.cycle]] w fun e w' => e = .returned (.string (tx (statR r))) ∧ Sat w [] [] w' := by
  unfold statusB at hst
  split at hst
  · cases hst
  · rename_i h1
    split at hst
    · cases hst
    · rename_i h2
      obtain ⟨k, hk⟩ : ∃ k : Nat, r.kind = k := ⟨r.kind.toNat, by omega⟩
      obtain ⟨pc, hpc⟩ : ∃ k : Nat, r.pc = k := ⟨r.pc.toNat, by omega⟩
      split at hst
      · rename_i h3
        have h4 := of_decide_eq_true hst
        obtain ⟨ca, hca⟩ : ∃ k : Nat, r.cause = k := ⟨r.cause.toNat, by omega⟩
        unfold statR
        rw [hk, hpc, hca]
        exact stat24C k ca pc r.cycle (by omega) (by omega) (by omega) (by omega) (by omega) w hG
      · rename_i h3
        have h4 := of_decide_eq_true hst
        unfold statR
        rw [hk, hpc, h4]
        by_cases h5 : k < 2
        · exact stat24A k 0 pc r.cycle h5 (by omega) (by omega) (by omega) w hG
        · exact stat24B k 0 pc r.cycle (by omega) (by omega) (by omega) (by omega) w hG
theorem concatTwo24 (b cp : Nat) (A1 : Option Addr) (m1 c1 : Nat) (xs1 : List Value) (A2 : Option Addr) (m2 c2 : Nat) (xs2 : List Value) (h1 : m1 ≤ 1000) (h2 : m2 ≤ 1000 ∧ 0 < m2) (w : World) (hR : Rd w (some ⟨b, 0, none⟩) [.slice A1 m1 c1, .slice A2 m2 c2]) (hx1 : Rd w A1 xs1) (hx2 : Rd w A2 xs2) (hl1 : xs1.length = m1) (hl2 : xs2.length = m2) (ho1 : ∀ u ∈ xs1, u.oneCell' = true) (ho2 : ∀ u ∈ xs2, u.oneCell' = true) :
    Calls Tryd.prog 46 #[.slice (some ⟨b, 0, none⟩) 2 cp] w fun e w' => ∃ i : Option Addr × Nat, e = .returned (.slice i.1 (m1 + m2) i.2) ∧ True ∧ Sat w [] [.own 9 1 (.slice i.1 (m1 + m2) i.2) (m1 + m2) (xs1 ++ xs2)] w' := by
  have hs : sumM (fun k => if k = 0 then m1 else m2) 2 = m1 + m2 := by
    show 0 + m1 + m2 = _
    omega
  have hc : catX (fun k => if k = 0 then xs1 else xs2) 2 = xs1 ++ xs2 := rfl
  have h := concat24 2 b cp (fun k => if k = 0 then A1 else A2) (fun k => if k = 0 then m1 else m2) (fun k => if k = 0 then c1 else c2) (fun k => if k = 0 then xs1 else xs2) (by omega) (by omega) (by omega) w hR (fun k hk => by
    match k, hk with
    | 0, _ => exact ⟨hx1, hl1, ho1⟩
    | 1, _ => exact ⟨hx2, hl2, ho2⟩)
  rw [hs, hc] at h
  exact h
theorem lrow_one (r : Rec) : ∀ u ∈ ((List.range (ht r.hires)).map fun y => Value.string (tx (lineB r.P r.hires y))), u.oneCell' = true := by
  intro u hu
  obtain ⟨y, _, rfl⟩ := List.mem_map.1 hu
  rfl
theorem words_one (a b c d : List UInt8) : ∀ u ∈ [txV a, txV b, txV c, txV d], u.oneCell' = true := by
  intro u hu
  simp only [List.mem_cons, List.not_mem_nil, or_false] at hu
  rcases hu with rfl | rfl | rfl | rfl <;> rfl
/-- the lines of a record, as values -/
def recRow (r : Rec) : List Value := ((List.range (ht r.hires)).map fun y => .string (tx (lineB r.P r.hires y))) ++ [txV (bif r.sound then [115, 111, 117, 110, 100, 32, 111, 110] else [115, 111, 117, 110, 100, 32, 111, 102, 102]), txV ([112, 105, 116, 99, 104, 32] ++ Lib.itoa r.pitch), txV (waveB r.pat), txV (statR r)]
theorem recRow_true {r : Rec} (h : r.sound = true) : recRow r = ((List.range (ht r.hires)).map fun y => .string (tx (lineB r.P r.hires y))) ++ [txV [115, 111, 117, 110, 100, 32, 111, 110], txV ([112, 105, 116, 99, 104, 32] ++ Lib.itoa r.pitch), txV (waveB r.pat), txV (statR r)] := by unfold recRow; rw [h]; rfl
theorem recRow_false {r : Rec} (h : r.sound = false) : recRow r = ((List.range (ht r.hires)).map fun y => .string (tx (lineB r.P r.hires y))) ++ [txV [115, 111, 117, 110, 100, 32, 111, 102, 102], txV ([112, 105, 116, 99, 104, 32] ++ Lib.itoa r.pitch), txV (waveB r.pat), txV (statR r)] := by unfold recRow; rw [h]; rfl
attribute [local irreducible] recRow statR waveB lineB recV planesV


theorem record24 (r : Rec) (hp : r.pat.length = 16) (hb : ∀ z ∈ r.pat, 0 ≤ z ∧ z ≤ 255) (hpi : 0 ≤ r.pitch ∧ r.pitch ≤ 255) (hst : statusB r.kind r.cause r.pc r.cycle = true) (w : World) (hG : Globs w) :
    Calls Tryd.prog 18 #[.agg (recV r)] w fun e w' => ∃ i : Option Addr × Nat, e = .returned (.slice i.1 (ht r.hires + 4) i.2) ∧ True ∧ Sat w [] [.own 9 1 (.slice i.1 (ht r.hires + 4) i.2) (ht r.hires + 4) (recRow r)] w' := by
  cases hs : r.sound
  · have hsnd : r.sound = false := hs
    refine enter Tryd.func18 rfl rfl rfl ?_
    refine r_seq ?_
    refine r_region ?_
    refine r_boxV rfl rfl fun b1 => ?_
    refine r_assign rfl rfl ?_
    refine r_nil ?_
    refine r_tn ?_
    refine r_seq ?_
    refine r_region ?_
    refine r_assign rfl rfl ?_
    refine r_nil ?_
    refine r_tn ?_
    refine r_seq ?_
    refine r_seq ?_
    refine r_region ?_
    refine r_fieldAddr (off := 513) (o' := 513) rfl rfl rfl rfl ?_
    refine r_load1 (v := .bool false) rfl rfl rfl ((rec_sound r).trans (by rw [hsnd])) ?_
    refine r_nil ?_
    refine r_tn ?_
    refine r_cond_f rfl ?_
    refine r_skip ?_
    refine r_tn ?_
    refine r_seq ?_
    refine r_mixedD { xb := [], rb := [b1], rs := [13, 18, 21], fs := [], acs := [10, 15, 19] } (by kernel_rfl) (by kernel_rfl) (fun w hw k hk => by
      simp only [List.mem_cons, List.not_mem_nil, or_false] at hk
      rcases hk with rfl <;> exact Sat.lt hw) ?_
    refine r_fieldAddr (off := 0) (o' := 0) rfl rfl rfl rfl ?_
    refine r_loadN (m := 512) rfl rfl rfl rfl (by rw [recV_size hp]; decide) (rec_planes r hp) ?_
    refine r_fieldAddr (off := 512) (o' := 512) rfl rfl rfl rfl ?_
    refine r_load1 rfl rfl rfl (rec_hires r) ?_
    refine r_callx rfl rfl rfl (by kernel_rfl) rfl (fun w hw => by exact lines24 r.P r.hires w) ?_
    rintro b10 _
    refine r_move rfl rfl ?_
    refine r_fieldAddr (off := 530) (o' := 530) rfl rfl rfl rfl ?_
    refine r_load1 rfl rfl rfl (rec_pitch hp) ?_
    refine r_convert (r := r.pitch) rfl rfl rfl rfl (w64 (by omega)) ?_
    refine r_call rfl rfl rfl (by kernel_rfl) rfl (fun w hw => by exact itoa24 r.pitch (by omega) (by omega) w (hG.keep hw)) ?_
    refine r_addStr rfl rfl rfl (by rw [tx_size]; have h := Lib.itoa_length_le r.pitch (by omega) (by omega); show 6 + _ ≤ _; omega) ?_
    rw [show ByteArray.mk #[112, 105, 116, 99, 104, 32] ++ tx (Lib.itoa r.pitch) = tx ([112, 105, 116, 99, 104, 32] ++ Lib.itoa r.pitch) from tx_append _ _]
    refine r_fieldAddr (off := 514) (o' := 514) rfl rfl rfl rfl ?_
    refine r_loadN (m := 16) rfl rfl rfl rfl (by rw [recV_size hp]; decide) (rec_pattern hp) ?_
    refine r_call rfl rfl rfl (by kernel_rfl) rfl (fun w hw => by exact wave24 r.pat hp hb w) ?_
    refine r_fieldAddr (off := 531) (o' := 531) rfl rfl rfl rfl ?_
    refine r_loadN (m := 4) rfl rfl rfl rfl (by rw [recV_size hp]; decide) (rec_status r hp) ?_
    refine r_call rfl rfl rfl (by kernel_rfl) rfl (fun w hw => by exact statG24 r hst w (hG.keep hw)) ?_
    refine r_lit (sz := 1) (pv := [(0, txV [115, 111, 117, 110, 100, 32, 111, 102, 102]), (1, txV ([112, 105, 116, 99, 104, 32] ++ Lib.itoa r.pitch)), (2, txV (waveB r.pat)), (3, txV (statR r))]) (cells := #[txV [115, 111, 117, 110, 100, 32, 111, 102, 102], txV ([112, 105, 116, 99, 104, 32] ++ Lib.itoa r.pitch), txV (waveB r.pat), txV (statR r)]) rfl rfl rfl rfl rfl rfl (by kernel_rfl) rfl (fun b23 => ?_) (by decide)
    refine r_lit (sz := 1) (pv := [(0, .slice (some ⟨b10, 0, none⟩) (ht r.hires) (ht r.hires)), (1, .slice (some ⟨b23, 0, none⟩) 4 4)]) (cells := #[.slice (some ⟨b10, 0, none⟩) (ht r.hires) (ht r.hires), .slice (some ⟨b23, 0, none⟩) 4 4]) rfl rfl rfl rfl rfl rfl (by kernel_rfl) rfl (fun b24 => ?_) (by decide)
    refine r_callx rfl rfl rfl (by kernel_rfl) rfl (fun w hw => by exact concatTwo24 b24 2 (some ⟨b10, 0, none⟩) (ht r.hires) (ht r.hires) ((List.range (ht r.hires)).map fun y => .string (tx (lineB r.P r.hires y))) (some ⟨b23, 0, none⟩) 4 4 [txV [115, 111, 117, 110, 100, 32, 111, 102, 102], txV ([112, 105, 116, 99, 104, 32] ++ Lib.itoa r.pitch), txV (waveB r.pat), txV (statR r)] (by cases r.hires <;> decide) (by omega) w (own_rd (A := some ⟨b24, 0, none⟩) (m := 2) (c := 2) hw) (own_rd (A := some ⟨b10, 0, none⟩) (m := ht r.hires) (c := ht r.hires) hw) (own_rd (A := some ⟨b23, 0, none⟩) (m := 4) (c := 4) hw) (by simp) rfl (lrow_one r) (words_one _ _ _ _)) ?_
    rintro ⟨A25, c25⟩ _
    refine r_assign rfl rfl ?_
    refine r_nil ?_
    refine r_tn ?_
    refine r_ret ?_
    rw [recRow_false hsnd]
    exact r_done1 (.inl rfl) rfl (res_tmp rfl) fun w hw => ⟨(A25, c25), rfl, trivial, hw.sub⟩
  · have hsnd : r.sound = true := hs
    refine enter Tryd.func18 rfl rfl rfl ?_
    refine r_seq ?_
    refine r_region ?_
    refine r_boxV rfl rfl fun b1 => ?_
    refine r_assign rfl rfl ?_
    refine r_nil ?_
    refine r_tn ?_
    refine r_seq ?_
    refine r_region ?_
    refine r_assign rfl rfl ?_
    refine r_nil ?_
    refine r_tn ?_
    refine r_seq ?_
    refine r_seq ?_
    refine r_region ?_
    refine r_fieldAddr (off := 513) (o' := 513) rfl rfl rfl rfl ?_
    refine r_load1 (v := .bool true) rfl rfl rfl ((rec_sound r).trans (by rw [hsnd])) ?_
    refine r_nil ?_
    refine r_tn ?_
    refine r_cond_t rfl ?_
    refine r_region ?_
    refine r_assign rfl rfl ?_
    refine r_nil ?_
    refine r_tn ?_
    refine r_seq ?_
    refine r_mixedD { xb := [], rb := [b1], rs := [13, 18, 21], fs := [], acs := [10, 15, 19] } (by kernel_rfl) (by kernel_rfl) (fun w hw k hk => by
      simp only [List.mem_cons, List.not_mem_nil, or_false] at hk
      rcases hk with rfl <;> exact Sat.lt hw) ?_
    refine r_fieldAddr (off := 0) (o' := 0) rfl rfl rfl rfl ?_
    refine r_loadN (m := 512) rfl rfl rfl rfl (by rw [recV_size hp]; decide) (rec_planes r hp) ?_
    refine r_fieldAddr (off := 512) (o' := 512) rfl rfl rfl rfl ?_
    refine r_load1 rfl rfl rfl (rec_hires r) ?_
    refine r_callx rfl rfl rfl (by kernel_rfl) rfl (fun w hw => by exact lines24 r.P r.hires w) ?_
    rintro b10 _
    refine r_move rfl rfl ?_
    refine r_fieldAddr (off := 530) (o' := 530) rfl rfl rfl rfl ?_
    refine r_load1 rfl rfl rfl (rec_pitch hp) ?_
    refine r_convert (r := r.pitch) rfl rfl rfl rfl (w64 (by omega)) ?_
    refine r_call rfl rfl rfl (by kernel_rfl) rfl (fun w hw => by exact itoa24 r.pitch (by omega) (by omega) w (hG.keep hw)) ?_
    refine r_addStr rfl rfl rfl (by rw [tx_size]; have h := Lib.itoa_length_le r.pitch (by omega) (by omega); show 6 + _ ≤ _; omega) ?_
    rw [show ByteArray.mk #[112, 105, 116, 99, 104, 32] ++ tx (Lib.itoa r.pitch) = tx ([112, 105, 116, 99, 104, 32] ++ Lib.itoa r.pitch) from tx_append _ _]
    refine r_fieldAddr (off := 514) (o' := 514) rfl rfl rfl rfl ?_
    refine r_loadN (m := 16) rfl rfl rfl rfl (by rw [recV_size hp]; decide) (rec_pattern hp) ?_
    refine r_call rfl rfl rfl (by kernel_rfl) rfl (fun w hw => by exact wave24 r.pat hp hb w) ?_
    refine r_fieldAddr (off := 531) (o' := 531) rfl rfl rfl rfl ?_
    refine r_loadN (m := 4) rfl rfl rfl rfl (by rw [recV_size hp]; decide) (rec_status r hp) ?_
    refine r_call rfl rfl rfl (by kernel_rfl) rfl (fun w hw => by exact statG24 r hst w (hG.keep hw)) ?_
    refine r_lit (sz := 1) (pv := [(0, txV [115, 111, 117, 110, 100, 32, 111, 110]), (1, txV ([112, 105, 116, 99, 104, 32] ++ Lib.itoa r.pitch)), (2, txV (waveB r.pat)), (3, txV (statR r))]) (cells := #[txV [115, 111, 117, 110, 100, 32, 111, 110], txV ([112, 105, 116, 99, 104, 32] ++ Lib.itoa r.pitch), txV (waveB r.pat), txV (statR r)]) rfl rfl rfl rfl rfl rfl (by kernel_rfl) rfl (fun b23 => ?_) (by decide)
    refine r_lit (sz := 1) (pv := [(0, .slice (some ⟨b10, 0, none⟩) (ht r.hires) (ht r.hires)), (1, .slice (some ⟨b23, 0, none⟩) 4 4)]) (cells := #[.slice (some ⟨b10, 0, none⟩) (ht r.hires) (ht r.hires), .slice (some ⟨b23, 0, none⟩) 4 4]) rfl rfl rfl rfl rfl rfl (by kernel_rfl) rfl (fun b24 => ?_) (by decide)
    refine r_callx rfl rfl rfl (by kernel_rfl) rfl (fun w hw => by exact concatTwo24 b24 2 (some ⟨b10, 0, none⟩) (ht r.hires) (ht r.hires) ((List.range (ht r.hires)).map fun y => .string (tx (lineB r.P r.hires y))) (some ⟨b23, 0, none⟩) 4 4 [txV [115, 111, 117, 110, 100, 32, 111, 110], txV ([112, 105, 116, 99, 104, 32] ++ Lib.itoa r.pitch), txV (waveB r.pat), txV (statR r)] (by cases r.hires <;> decide) (by omega) w (own_rd (A := some ⟨b24, 0, none⟩) (m := 2) (c := 2) hw) (own_rd (A := some ⟨b10, 0, none⟩) (m := ht r.hires) (c := ht r.hires) hw) (own_rd (A := some ⟨b23, 0, none⟩) (m := 4) (c := 4) hw) (by simp) rfl (lrow_one r) (words_one _ _ _ _)) ?_
    rintro ⟨A25, c25⟩ _
    refine r_assign rfl rfl ?_
    refine r_nil ?_
    refine r_tn ?_
    refine r_ret ?_
    rw [recRow_true hsnd]
    exact r_done1 (.inl rfl) rfl (res_tmp rfl) fun w hw => ⟨(A25, c25), rfl, trivial, hw.sub⟩
end Go.Proofs.YtdkgnnieehidbaaDoor
