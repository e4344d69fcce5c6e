/-
  The flags (chapter 12): Save, Load and Allowed by plain functions of lists.
-/
import Derived.Test.YtapknkmlgmckkaaBuilt
import Derived.Test.YtapknkmlgmckkaaLib17
namespace Go.Proofs.Ytapknkmlgmckkaa
open Go Go.RowKit
set_option linter.unusedVariables false
set_option maxHeartbeats 2000000

/-- the flags that hold the bytes of a list -/
def fl (f : List Int) : Array Value := (f.map (Value.int .u8)).toArray
theorem fl_size {f : List Int} (h : f.length = 16) : (fl f).size = 16 := by simp [fl, h]
theorem fl_one (f : List Int) : (fl f).toList.all Value.oneCell' = true := by
  refine List.all_eq_true.2 fun v hv => ?_
  simp only [fl, List.mem_map] at hv
  obtain ⟨x, _, rfl⟩ := hv
  rfl
theorem ints_one (l : List Int) (k : IntKind) : ∀ u ∈ l.map (Value.int k), u.oneCell' = true := fun u hu => by
  obtain ⟨x, _, rfl⟩ := List.mem_map.1 hu
  rfl
def saveM (f b : List Int) : List Int := b.take 16 ++ f.drop (b.take 16).length
theorem saveM_length {f : List Int} (h : f.length = 16) (b : List Int) : (saveM f b).length = 16 := by simp [saveM]; omega
def loadM (f : List Int) (n : Int) : List Int := f.take n.toNat
def allowM (level x : Int) : Bool := (decide (level = 2) && decide (0 ≤ x) && decide (x ≤ 7)) || (decide (level = 3) && decide (0 ≤ x) && decide (x ≤ 15))
def zeros16 : List Int := List.replicate 16 0
theorem fl_rd {w0 w : World} {S : List Nat} {H G : List Res} {b : Nat} {l : List Int} {T : TypeId} {fr : Nat × Nat} [hp : HasBlk b H (.cells (fl l) T fr) G] (hw : Sat w0 S H w) (n : Nat) : Rd w (some ⟨b, 0, none⟩) ((l.take n).map (Value.int .u8)) := by
  refine Rd.blk (hw.look hp.pick) fun j u hj => ?_
  rw [List.map_take, List.getElem?_take] at hj
  split at hj
  · rw [Nat.zero_add]
    simpa [fl] using hj
  · cases hj


theorem save12 (f b : List Int) (hf : f.length = 16) (B : Option Addr) (d : Nat) (w : World) (hB : Rd w B (b.map (Value.int .u8))) :
    Calls Try.prog 18 #[.agg (fl f), .slice B b.length d] w fun e w' => e = .returned (.agg (fl (saveM f b))) ∧ Sat w [] [] w' := by
  have hs := fl_size hf
  refine enter Try.func18 rfl rfl rfl ?_
  refine r_seq ?_
  refine r_region ?_
  refine r_box rfl rfl fun b2 => ?_
  refine r_alloc rfl rfl fun b4 => ?_
  refine r_nil ?_
  refine r_tn ?_
  refine r_seq ?_
  refine r_region ?_
  refine r_fieldAddr (off := 0) (o' := 0) rfl rfl rfl rfl ?_
  refine r_sliceArr rfl rfl rfl rfl ?_
  refine r_move rfl rfl ?_
  refine r_copy (m := 16) (k := b.length) (xs := b.map (Value.int .u8)) (cur := fl f) (cur' := fl (saveM f b)) rfl rfl rfl rfl rfl (fun w hw => hB.keep hw) (by simp) (ints_one b .u8) (by rw [Nat.zero_add, hs]; exact Nat.min_le_right _ _) (by simp [fl, saveM, Nat.min_comm]) ?_
  refine r_nil ?_
  refine r_tn ?_
  refine r_seq ?_
  refine r_region ?_
  refine r_loadV rfl rfl rfl rfl (fl_size (saveM_length hf b)) ?_
  refine r_storeV rfl rfl rfl (fl_size (saveM_length hf b)) rfl (fl_one _) ?_
  refine r_nil ?_
  refine r_tn ?_
  refine r_ret ?_
  exact r_done1 (.inl rfl) rfl (res_cellV rfl rfl rfl (fl_size (saveM_length hf b))) fun w hw => ⟨rfl, hw.clear⟩

theorem load12 (f : List Int) (hf : f.length = 16) (n : Int) (hn : -9223372036854775808 ≤ n ∧ n ≤ 9223372036854775807) (w : World) :
    Calls Try.prog 21 #[.agg (fl f), .int .i64 n] w fun e w' => ∃ i : Option Addr × Nat, e = .returned (.slice i.1 (loadM f n).length i.2) ∧ True ∧ Sat w [] [.own 5 1 (.slice i.1 (loadM f n).length i.2) (loadM f n).length ((loadM f n).map (Value.int .u8))] w' := by
  have hs := fl_size hf
  refine enter Try.func21 rfl rfl rfl ?_
  refine r_seq ?_
  refine r_region ?_
  refine r_box rfl rfl fun b2 => ?_
  refine r_assign rfl rfl ?_
  refine r_nil ?_
  refine r_tn ?_
  refine r_seq ?_
  refine r_region ?_
  refine r_fieldAddr (off := 0) (o' := 0) rfl rfl rfl rfl ?_
  refine r_move rfl rfl ?_
  refine r_min rfl rfl rfl rfl ?_
  refine r_max rfl rfl rfl rfl ?_
  refine r_sliceArrHi (h' := (loadM f n).length) rfl rfl rfl rfl rfl (by simp only [loadM, List.length_take, hf]; split <;> split <;> omega) (by simp [loadM, hf]; omega) ?_
  refine r_callx rfl rfl rfl (by kernel_rfl) rfl (fun w hw => cloneB _ 16 (loadM f n) w (by simp [loadM, hf]; omega) (fl_rd hw n.toNat)) ?_
  rintro ⟨A10, c10⟩ _
  refine r_assign rfl rfl ?_
  refine r_nil ?_
  refine r_tn ?_
  refine r_ret ?_
  exact r_done1 (.inl rfl) rfl (res_tmp rfl) fun w hw => ⟨(A10, c10), rfl, trivial, hw.only⟩

theorem greatest12 (w : World) :
    Calls Try.prog 42 #[] w fun e w' => ∃ b : Nat, e = .returned (.map (some b)) ∧ True ∧ Sat w [] [.blk b (.map #[⟨.int .i64 2, .int .i64 7, 0⟩, ⟨.int .i64 3, .int .i64 15, 1⟩] 2)] w' := by
  refine enter Try.func42 rfl rfl rfl ?_
  refine r_seq ?_
  refine r_region ?_
  refine r_assign rfl rfl ?_
  refine r_nil ?_
  refine r_tn ?_
  refine r_seq ?_
  refine r_region ?_
  refine r_makeMap rfl fun b1 => ?_
  refine r_insert rfl rfl rfl rfl rfl rfl rfl ?_
  refine r_insert rfl rfl rfl rfl rfl rfl rfl ?_
  refine r_move rfl rfl ?_
  refine r_assign rfl rfl ?_
  refine r_nil ?_
  refine r_tn ?_
  refine r_ret ?_
  exact r_done1 (.inl rfl) rfl (res_tmp rfl) fun w hw => ⟨b1, rfl, trivial, hw⟩

theorem allowed12_two (level x : Int) (hl : level = 2) (w : World) :
    Calls Try.prog 23 #[.int .i64 level, .int .i64 x] w fun e w' => e = .returned (.bool (allowM level x)) ∧ Sat w [] [] w' := by
  refine enter Try.func23 rfl rfl rfl ?_
  refine r_seq ?_
  refine r_region ?_
  refine r_assign rfl rfl ?_
  refine r_nil ?_
  refine r_tn ?_
  refine r_seq ?_
  refine r_region ?_
  refine r_callx rfl rfl rfl (by kernel_rfl) rfl (fun w hw => greatest12 w) ?_
  rintro b8 _
  refine r_move rfl rfl ?_
  refine r_lookupOk (v := .int .i64 7) (ok := true) (r := some (0, .int .i64 7)) rfl rfl rfl rfl rfl (by subst hl; rfl) rfl rfl ?_
  refine r_move rfl rfl ?_
  refine r_extract rfl rfl rfl ?_
  refine r_extract rfl rfl rfl ?_
  refine r_assign rfl rfl ?_
  refine r_assign rfl rfl ?_
  refine r_nil ?_
  refine r_tn ?_
  refine r_seq ?_
  refine r_region ?_
  refine r_move rfl rfl ?_
  refine r_move rfl rfl ?_
  refine r_go rfl rfl ?_
  refine r_move rfl rfl ?_
  refine r_go rfl rfl ?_
  refine r_geq rfl rfl rfl rfl ?_
  refine r_pick_t rfl rfl rfl ?_
  refine r_move rfl rfl ?_
  refine r_split 18 rfl (fun hb18 => ?_) (fun hb18 => ?_)
  · refine r_go rfl rfl ?_
    refine r_move rfl rfl ?_
    refine r_go rfl rfl ?_
    refine r_move rfl rfl ?_
    refine r_go rfl rfl ?_
    refine r_leq rfl rfl rfl rfl ?_
    refine r_pick_t rfl rfl rfl ?_
    refine r_assign rfl rfl ?_
    refine r_nil ?_
    refine r_tn ?_
    refine r_ret ?_
    exact r_done1 (.inl rfl) rfl (res_tmp rfl) fun w hw => ⟨by
      congr 2
      simp_all [allowM] <;> omega, hw.clear⟩
  · refine r_pass rfl rfl rfl rfl ?_
    refine r_pass rfl rfl rfl rfl ?_
    refine r_pass rfl rfl rfl rfl ?_
    refine r_pick_f rfl rfl rfl ?_
    refine r_assign rfl rfl ?_
    refine r_nil ?_
    refine r_tn ?_
    refine r_ret ?_
    exact r_done1 (.inl rfl) rfl (res_tmp rfl) fun w hw => ⟨by
      congr 2
      simp_all [allowM] <;> omega, hw.clear⟩

theorem allowed12_three (level x : Int) (hl : level = 3) (w : World) :
    Calls Try.prog 23 #[.int .i64 level, .int .i64 x] w fun e w' => e = .returned (.bool (allowM level x)) ∧ Sat w [] [] w' := by
  refine enter Try.func23 rfl rfl rfl ?_
  refine r_seq ?_
  refine r_region ?_
  refine r_assign rfl rfl ?_
  refine r_nil ?_
  refine r_tn ?_
  refine r_seq ?_
  refine r_region ?_
  refine r_callx rfl rfl rfl (by kernel_rfl) rfl (fun w hw => greatest12 w) ?_
  rintro b8 _
  refine r_move rfl rfl ?_
  refine r_lookupOk (v := .int .i64 15) (ok := true) (r := some (1, .int .i64 15)) rfl rfl rfl rfl rfl (by subst hl; rfl) rfl rfl ?_
  refine r_move rfl rfl ?_
  refine r_extract rfl rfl rfl ?_
  refine r_extract rfl rfl rfl ?_
  refine r_assign rfl rfl ?_
  refine r_assign rfl rfl ?_
  refine r_nil ?_
  refine r_tn ?_
  refine r_seq ?_
  refine r_region ?_
  refine r_move rfl rfl ?_
  refine r_move rfl rfl ?_
  refine r_go rfl rfl ?_
  refine r_move rfl rfl ?_
  refine r_go rfl rfl ?_
  refine r_geq rfl rfl rfl rfl ?_
  refine r_pick_t rfl rfl rfl ?_
  refine r_move rfl rfl ?_
  refine r_split 18 rfl (fun hb18 => ?_) (fun hb18 => ?_)
  · refine r_go rfl rfl ?_
    refine r_move rfl rfl ?_
    refine r_go rfl rfl ?_
    refine r_move rfl rfl ?_
    refine r_go rfl rfl ?_
    refine r_leq rfl rfl rfl rfl ?_
    refine r_pick_t rfl rfl rfl ?_
    refine r_assign rfl rfl ?_
    refine r_nil ?_
    refine r_tn ?_
    refine r_ret ?_
    exact r_done1 (.inl rfl) rfl (res_tmp rfl) fun w hw => ⟨by
      congr 2
      simp_all [allowM] <;> omega, hw.clear⟩
  · refine r_pass rfl rfl rfl rfl ?_
    refine r_pass rfl rfl rfl rfl ?_
    refine r_pass rfl rfl rfl rfl ?_
    refine r_pick_f rfl rfl rfl ?_
    refine r_assign rfl rfl ?_
    refine r_nil ?_
    refine r_tn ?_
    refine r_ret ?_
    exact r_done1 (.inl rfl) rfl (res_tmp rfl) fun w hw => ⟨by
      congr 2
      simp_all [allowM] <;> omega, hw.clear⟩

theorem allowed12_none (level x : Int) (hl : level ≠ 2 ∧ level ≠ 3) (w : World) :
    Calls Try.prog 23 #[.int .i64 level, .int .i64 x] w fun e w' => e = .returned (.bool (allowM level x)) ∧ Sat w [] [] w' := by
  refine enter Try.func23 rfl rfl rfl ?_
  refine r_seq ?_
  refine r_region ?_
  refine r_assign rfl rfl ?_
  refine r_nil ?_
  refine r_tn ?_
  refine r_seq ?_
  refine r_region ?_
  refine r_callx rfl rfl rfl (by kernel_rfl) rfl (fun w hw => greatest12 w) ?_
  rintro b8 _
  refine r_move rfl rfl ?_
  refine r_lookupOk (v := .int .i64 0) (ok := false) (r := none) rfl rfl rfl rfl rfl (by
    have h2 : (level == 2) = false := by simpa using hl.1
    have h3 : (level == 3) = false := by simpa using hl.2
    simp [Instr.findNow, Instr.sameNow, h2, h3]) rfl rfl ?_
  refine r_move rfl rfl ?_
  refine r_extract rfl rfl rfl ?_
  refine r_extract rfl rfl rfl ?_
  refine r_assign rfl rfl ?_
  refine r_assign rfl rfl ?_
  refine r_nil ?_
  refine r_tn ?_
  refine r_seq ?_
  refine r_region ?_
  refine r_move rfl rfl ?_
  refine r_move rfl rfl ?_
  refine r_pass rfl rfl rfl rfl ?_
  refine r_pass rfl rfl rfl rfl ?_
  refine r_pick_f rfl rfl rfl ?_
  refine r_move rfl rfl ?_
  refine r_pass rfl rfl rfl rfl ?_
  refine r_pass rfl rfl rfl rfl ?_
  refine r_pass rfl rfl rfl rfl ?_
  refine r_pick_f rfl rfl rfl ?_
  refine r_assign rfl rfl ?_
  refine r_nil ?_
  refine r_tn ?_
  refine r_ret ?_
  exact r_done1 (.inl rfl) rfl (res_tmp rfl) fun w hw => ⟨by
    congr 2
    simp_all [allowM] <;> omega, hw.clear⟩

theorem allowed12 (level x : Int) (w : World) :
    Calls Try.prog 23 #[.int .i64 level, .int .i64 x] w fun e w' => e = .returned (.bool (allowM level x)) ∧ Sat w [] [] w' := by
  by_cases h2 : level = 2
  · exact allowed12_two level x h2 w
  · by_cases h3 : level = 3
    · exact allowed12_three level x h3 w
    · exact allowed12_none level x ⟨h2, h3⟩ w


theorem refAllowed12 (level x : Int) (w : World) :
    Calls Try.prog 24 #[.int .i64 level, .int .i64 x] w fun e w' => e = .returned (.bool (allowM level x)) ∧ Sat w [] [] w' := by
  refine enter Try.func24 rfl rfl rfl ?_
  refine r_seq ?_
  refine r_region ?_
  refine r_assign rfl rfl ?_
  refine r_nil ?_
  refine r_tn ?_
  refine r_seq ?_
  refine r_seq ?_
  refine r_region ?_
  refine r_move rfl rfl ?_
  refine r_eql rfl rfl rfl rfl ?_
  refine r_nil ?_
  refine r_tn ?_
  refine r_cond rfl (fun hc => ?_) (fun hc => ?_)
  · refine r_seq ?_
    refine r_region ?_
    refine r_move rfl rfl ?_
    refine r_geq rfl rfl rfl rfl ?_
    refine r_move rfl rfl ?_
    refine r_split 9 rfl (fun hb9 => ?_) (fun hb9 => ?_)
    · refine r_go rfl rfl ?_
      refine r_move rfl rfl ?_
      refine r_go rfl rfl ?_
      refine r_leq rfl rfl rfl rfl ?_
      refine r_pick_t rfl rfl rfl ?_
      refine r_assign rfl rfl ?_
      refine r_nil ?_
      refine r_tn ?_
      refine r_ret ?_
      refine r_tr ?_
      exact r_done1 (.inl rfl) rfl (res_tmp rfl) fun w hw => ⟨by
        congr 2
        simp_all [allowM] <;> omega, hw.clear⟩
    · refine r_pass rfl rfl rfl rfl ?_
      refine r_pass rfl rfl rfl rfl ?_
      refine r_pick_f rfl rfl rfl ?_
      refine r_assign rfl rfl ?_
      refine r_nil ?_
      refine r_tn ?_
      refine r_ret ?_
      refine r_tr ?_
      exact r_done1 (.inl rfl) rfl (res_tmp rfl) fun w hw => ⟨by
        congr 2
        simp_all [allowM] <;> omega, hw.clear⟩
  · refine r_skip ?_
    refine r_tn ?_
    refine r_seq ?_
    refine r_region ?_
    refine r_move rfl rfl ?_
    refine r_eql rfl rfl rfl rfl ?_
    refine r_move rfl rfl ?_
    refine r_split 15 rfl (fun hb15 => ?_) (fun hb15 => ?_)
    · refine r_go rfl rfl ?_
      refine r_move rfl rfl ?_
      refine r_go rfl rfl ?_
      refine r_geq rfl rfl rfl rfl ?_
      refine r_pick_t rfl rfl rfl ?_
      refine r_move rfl rfl ?_
      refine r_split 19 rfl (fun hb19 => ?_) (fun hb19 => ?_)
      · refine r_go rfl rfl ?_
        refine r_move rfl rfl ?_
        refine r_go rfl rfl ?_
        refine r_leq rfl rfl rfl rfl ?_
        refine r_pick_t rfl rfl rfl ?_
        refine r_assign rfl rfl ?_
        refine r_nil ?_
        refine r_tn ?_
        refine r_ret ?_
        exact r_done1 (.inl rfl) rfl (res_tmp rfl) fun w hw => ⟨by
          congr 2
          simp_all [allowM] <;> omega, hw.clear⟩
      · refine r_pass rfl rfl rfl rfl ?_
        refine r_pass rfl rfl rfl rfl ?_
        refine r_pick_f rfl rfl rfl ?_
        refine r_assign rfl rfl ?_
        refine r_nil ?_
        refine r_tn ?_
        refine r_ret ?_
        exact r_done1 (.inl rfl) rfl (res_tmp rfl) fun w hw => ⟨by
          congr 2
          simp_all [allowM] <;> omega, hw.clear⟩
    · refine r_pass rfl rfl rfl rfl ?_
      refine r_pass rfl rfl rfl rfl ?_
      refine r_pick_f rfl rfl rfl ?_
      refine r_move rfl rfl ?_
      refine r_pass rfl rfl rfl rfl ?_
      refine r_pass rfl rfl rfl rfl ?_
      refine r_pick_f rfl rfl rfl ?_
      refine r_assign rfl rfl ?_
      refine r_nil ?_
      refine r_tn ?_
      refine r_ret ?_
      exact r_done1 (.inl rfl) rfl (res_tmp rfl) fun w hw => ⟨by
        congr 2
        simp_all [allowM] <;> omega, hw.clear⟩
end Go.Proofs.Ytapknkmlgmckkaa
