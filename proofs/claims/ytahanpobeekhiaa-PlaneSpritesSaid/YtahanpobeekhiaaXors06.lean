/-
  RowXors, for every two rows.
-/
import Derived.Test.YtahanpobeekhiaaAw06
namespace Go.Proofs.Ytahanpobeekhiaa
open Go Go.RowKit
set_option linter.unusedVariables false
set_option linter.unusedSimpArgs false
set_option maxHeartbeats 2000000

theorem cnt_xor (p q : Nat → Bool) : ∀ m, cnt (fun x => p x ^^ q x) m + 2 * cnt (fun x => p x && q x) m = cnt p m + cnt q m
  | 0 => rfl
  | m + 1 => by
    have h := cnt_xor p q m
    simp only [cnt]
    cases p m <;> cases q m <;> simp <;> omega
theorem xors06 (p q : Nat → Bool) (W : World) :
    Calls Try.prog 6 #[.int .u64 ((hiN p : Nat) : Int), .int .u64 ((loN p : Nat) : Int), .int .u64 ((hiN q : Nat) : Int), .int .u64 ((loN q : Nat) : Int)] W fun e w' => e = .returned (.bool true) ∧ Sat W [] [] w' := by
  refine enter Try.func6 rfl rfl rfl ?_
  refine r_seq ?_
  refine r_region ?_
  refine r_assign rfl rfl ?_
  refine r_nil ?_
  refine r_tn ?_
  refine r_seq ?_
  refine r_seq ?_
  refine r_region ?_
  refine r_call rfl rfl rfl (by kernel_rfl) rfl (fun w hw => by exact awake06 w) ?_
  refine r_not rfl rfl rfl ?_
  refine r_nil ?_
  refine r_tn ?_
  refine r_cond_f rfl ?_
  refine r_skip ?_
  refine r_tn ?_
  refine r_seq ?_
  refine r_region ?_
  refine r_move rfl rfl ?_
  refine r_move rfl rfl ?_
  refine r_build (cells := rowV p) rfl rfl (by kernel_rfl) ?_
  refine r_allocV (cs := #[.int .u64 0, .int .u64 0]) rfl rfl fun b9 => ?_
  refine r_storeV rfl rfl rfl rfl rfl rfl ?_
  refine r_nil ?_
  refine r_tn ?_
  refine r_seq ?_
  refine r_region ?_
  refine r_move rfl rfl ?_
  refine r_move rfl rfl ?_
  refine r_build (cells := rowV q) rfl rfl (by kernel_rfl) ?_
  refine r_allocV (cs := #[.int .u64 0, .int .u64 0]) rfl rfl fun b10 => ?_
  refine r_storeV rfl rfl rfl rfl rfl rfl ?_
  refine r_nil ?_
  refine r_tn ?_
  refine r_seq ?_
  refine r_region ?_
  refine r_loadV rfl rfl rfl rfl rfl ?_
  refine r_loadV rfl rfl rfl rfl rfl ?_
  refine r_call rfl rfl rfl (by kernel_rfl) rfl (fun w hw => by exact rowXor p q w) ?_
  refine r_allocV (cs := #[.int .u64 0, .int .u64 0]) rfl rfl fun b11 => ?_
  refine r_storeV rfl rfl rfl rfl rfl rfl ?_
  refine r_nil ?_
  refine r_tn ?_
  refine r_seq ?_
  refine r_region ?_
  refine r_loadV rfl rfl rfl rfl rfl ?_
  refine r_loadV rfl rfl rfl rfl rfl ?_
  refine r_call rfl rfl rfl (by kernel_rfl) rfl (fun w hw => by exact rowAnd p q w) ?_
  refine r_allocV (cs := #[.int .u64 0, .int .u64 0]) rfl rfl fun b12 => ?_
  refine r_storeV rfl rfl rfl rfl rfl rfl ?_
  refine r_nil ?_
  refine r_tn ?_
  refine r_seq ?_
  refine r_region ?_
  refine r_loadV rfl rfl rfl rfl rfl ?_
  refine r_callx rfl rfl rfl (by kernel_rfl) rfl (fun w hw => lawPixels p w) ?_
  rintro b31 _
  refine r_assign rfl rfl ?_
  refine r_nil ?_
  refine r_tn ?_
  refine r_seq ?_
  refine r_region ?_
  refine r_loadV rfl rfl rfl rfl rfl ?_
  refine r_callx rfl rfl rfl (by kernel_rfl) rfl (fun w hw => lawPixels q w) ?_
  rintro b33 _
  refine r_assign rfl rfl ?_
  refine r_nil ?_
  refine r_tn ?_
  refine r_seq ?_
  refine r_seq ?_
  refine r_region ?_
  refine r_assign rfl rfl ?_
  refine r_nil ?_
  refine r_tn ?_
  refine r_block ?_
  refine r_loopN (fun i => [(9, .pointer (some ⟨b9, 0, none⟩)), (10, .pointer (some ⟨b10, 0, none⟩)), (11, .pointer (some ⟨b11, 0, none⟩)), (12, .pointer (some ⟨b12, 0, none⟩)), (13, .slice (some ⟨b31, 0, none⟩) 128 128), (14, .slice (some ⟨b33, 0, none⟩) 128 128), (15, .int .i64 (i : Int))]) (fun i => [.blk b9 (.cells (rowV p) 27 (0, 0)), .blk b10 (.cells (rowV q) 27 (0, 0)), .blk b11 (.cells (rowV (fun x => p x ^^ q x)) 27 (0, 0)), .blk b12 (.cells (rowV (fun x => p x && q x)) 27 (0, 0)), .own 4 1 (.slice (some ⟨b31, 0, none⟩) 128 128) 128 (boolsN 128 (p)), .own 4 1 (.slice (some ⟨b33, 0, none⟩) 128 128) 128 (boolsN 128 (q))]) (fun i => i ≤ 128) 128 0 (by omega) ⟨rfl, rfl, rfl, rfl, rfl, rfl, rfl, trivial⟩ (fun w hw => hw.sub) fun i hi => ?_
  refine r_seq ?_
  refine r_seq ?_
  refine r_region ?_
  refine r_move rfl rfl ?_
  refine r_lss rfl rfl rfl rfl ?_
  refine r_nil ?_
  refine r_tn ?_
  refine r_cond rfl (fun hc => ?_) (fun hc => ?_)
  · refine r_skip ?_
    refine r_tn ?_
    refine r_seq ?_
    refine r_block ?_
    refine r_seq ?_
    refine r_mixedD { xb := [], rb := [b31, b33], rs := [44, 48, 58], fs := [], acs := [40, 54] } (by kernel_rfl) (by kernel_rfl) (fun w hw k hk => by
      simp only [List.mem_cons, List.not_mem_nil, or_false] at hk
      rcases hk with h | h
      · rw [h]; exact bools_blt (own_rd (A := some ⟨b31, 0, none⟩) (m := 128) (c := 128) hw)
      · rw [h]; exact bools_blt (own_rd (A := some ⟨b33, 0, none⟩) (m := 128) (c := 128) hw)) ?_
    have hi2 : i < 128 := by have h := of_decide_eq_true hc; omega
    refine r_loadV rfl rfl rfl rfl rfl ?_
    refine r_move rfl rfl ?_
    refine r_call (v := .bool ((fun x => p x ^^ q x) i)) rfl rfl rfl (by kernel_rfl) rfl (fun w hw => by have h := rowGet (fun x => p x ^^ q x) (i : Int) w; rw [getB_nat (fun x => p x ^^ q x) hi2] at h; exact h) ?_
    refine r_move rfl rfl ?_
    refine r_move rfl rfl ?_
    refine r_indexSl (sz := 1) (o' := i) rfl rfl rfl rfl rfl (by omega) (by omega) (by first | (simp; done) | (simp; omega) | omega) ?_
    refine r_loadC (p := ⟨b31, i, none⟩) rfl rfl rfl (fun w hw => ((own_rd (A := some ⟨b31, 0, none⟩) (m := 128) (c := 128) hw).cell (boolsN_at p hi2) rfl) |> fun h => by simpa using h) ?_
    refine r_move rfl rfl ?_
    refine r_move rfl rfl ?_
    refine r_indexSl (sz := 1) (o' := i) rfl rfl rfl rfl rfl (by omega) (by omega) (by first | (simp; done) | (simp; omega) | omega) ?_
    refine r_loadC (p := ⟨b33, i, none⟩) rfl rfl rfl (fun w hw => ((own_rd (A := some ⟨b33, 0, none⟩) (m := 128) (c := 128) hw).cell (boolsN_at q hi2) rfl) |> fun h => by simpa using h) ?_
    refine r_neq_bool (p := p i ^^ q i) rfl rfl rfl rfl (by cases p i <;> cases q i <;> rfl) ?_
    refine r_neq_bool (p := false) rfl rfl rfl rfl (by simp) ?_
    refine r_move rfl rfl ?_
    refine r_go rfl rfl ?_
    refine r_loadV rfl rfl rfl rfl rfl ?_
    refine r_go rfl rfl ?_
    refine r_move rfl rfl ?_
    refine r_go rfl rfl ?_
    refine r_call (v := .bool ((fun x => p x && q x) i)) rfl rfl rfl (by kernel_rfl) rfl (fun w hw => by have h := rowGet (fun x => p x && q x) (i : Int) w; rw [getB_nat (fun x => p x && q x) hi2] at h; exact h) ?_
    refine r_go rfl rfl ?_
    refine r_move rfl rfl ?_
    refine r_go rfl rfl ?_
    refine r_move rfl rfl ?_
    refine r_go rfl rfl ?_
    refine r_indexSl (sz := 1) (o' := i) rfl rfl rfl rfl rfl (by omega) (by omega) (by first | (simp; done) | (simp; omega) | omega) ?_
    refine r_go rfl rfl ?_
    refine r_loadC (p := ⟨b31, i, none⟩) rfl rfl rfl (fun w hw => ((own_rd (A := some ⟨b31, 0, none⟩) (m := 128) (c := 128) hw).cell (boolsN_at p hi2) rfl) |> fun h => by simpa using h) ?_
    refine r_go rfl rfl ?_
    refine r_move rfl rfl ?_
    refine r_split 59 rfl (fun hb59 => ?_) (fun hb59 => ?_)
    · refine r_go rfl rfl ?_
      refine r_move rfl rfl ?_
      refine r_go rfl rfl ?_
      refine r_move rfl rfl ?_
      refine r_go rfl rfl ?_
      refine r_indexSl (sz := 1) (o' := i) rfl rfl rfl rfl rfl (by omega) (by omega) (by first | (simp; done) | (simp; omega) | omega) ?_
      refine r_go rfl rfl ?_
      refine r_loadC (p := ⟨b33, i, none⟩) rfl rfl rfl (fun w hw => ((own_rd (A := some ⟨b33, 0, none⟩) (m := 128) (c := 128) hw).cell (boolsN_at q hi2) rfl) |> fun h => by simpa using h) ?_
      refine r_go rfl rfl ?_
      refine r_pick_t rfl rfl rfl ?_
      refine r_go rfl rfl ?_
      refine r_neq_bool (p := false) rfl rfl rfl rfl (by simp [hb59]) ?_
      refine r_pick_f rfl rfl rfl ?_
      refine r_nil ?_
      refine r_tn ?_
      refine r_cond_f rfl ?_
      refine r_skip ?_
      refine r_bn ?_
      refine r_tn ?_
      refine r_region ?_
      refine r_move rfl rfl ?_
      refine r_add rfl rfl rfl (w64 (by omega)) ?_
      refine r_assign rfl rfl ?_
      refine r_nil ?_
      refine r_tn ?_
      exact r_againN (i + 1) (by omega) (by omega) ⟨rfl, rfl, rfl, rfl, rfl, rfl, rfl, trivial⟩ (fun w hw => hw.sub)
    · refine r_pass rfl rfl rfl rfl ?_
      refine r_pass rfl rfl rfl rfl ?_
      refine r_pass rfl rfl rfl rfl ?_
      refine r_pass rfl rfl rfl rfl ?_
      refine r_go rfl rfl ?_
      refine r_pick_f rfl rfl rfl ?_
      refine r_go rfl rfl ?_
      refine r_neq_bool (p := false) rfl rfl rfl rfl (by simp [hb59]) ?_
      refine r_pick_f rfl rfl rfl ?_
      refine r_nil ?_
      refine r_tn ?_
      refine r_cond_f rfl ?_
      refine r_skip ?_
      refine r_bn ?_
      refine r_tn ?_
      refine r_region ?_
      refine r_move rfl rfl ?_
      refine r_add rfl rfl rfl (w64 (by omega)) ?_
      refine r_assign rfl rfl ?_
      refine r_nil ?_
      refine r_tn ?_
      exact r_againN (i + 1) (by omega) (by omega) ⟨rfl, rfl, rfl, rfl, rfl, rfl, rfl, trivial⟩ (fun w hw => hw.sub)
  · refine r_exit ?_
    refine r_te ?_
    refine r_te ?_
    refine r_be ?_
    refine r_tn ?_
    refine r_seq ?_
    refine r_mixedD { xb := [], rb := [b10, b12, b9], rs := [70, 75, 77, 80], fs := [], acs := [69, 74, 76, 78] } (by kernel_rfl) (by kernel_rfl) (fun w hw k hk => by
      simp only [List.mem_cons, List.not_mem_nil, or_false] at hk
      rcases hk with rfl | rfl | rfl <;> exact Sat.lt hw) ?_
    refine r_loadV rfl rfl rfl rfl rfl ?_
    refine r_loadV rfl rfl rfl rfl rfl ?_
    refine r_call rfl rfl rfl (by kernel_rfl) rfl (fun w hw => by exact rowXor (fun x => p x ^^ q x) q w) ?_
    refine r_loadV rfl rfl rfl rfl rfl ?_
    refine r_eqlAgg rfl rfl rfl rowFlat (rowV_ok _) (rowV_ok _) ((congrArg (fun c => cellsEq c.toList (rowV p).toList) (rowV_congr (p := fun x => (p x ^^ q x) ^^ q x) (q := p) fun y hy => by simp)).trans (row_self p)) ?_
    refine r_move rfl rfl ?_
    refine r_go rfl rfl ?_
    refine r_loadV rfl rfl rfl rfl rfl ?_
    refine r_go rfl rfl ?_
    refine r_call rfl rfl rfl (by kernel_rfl) rfl (fun w hw => by exact rowCount (fun x => p x ^^ q x) w) ?_
    refine r_go rfl rfl ?_
    refine r_loadV rfl rfl rfl rfl rfl ?_
    refine r_go rfl rfl ?_
    refine r_call rfl rfl rfl (by kernel_rfl) rfl (fun w hw => by exact rowCount p w) ?_
    refine r_go rfl rfl ?_
    refine r_loadV rfl rfl rfl rfl rfl ?_
    refine r_go rfl rfl ?_
    refine r_call rfl rfl rfl (by kernel_rfl) rfl (fun w hw => by exact rowCount q w) ?_
    refine r_go rfl rfl ?_
    refine r_add rfl rfl rfl (w64 (by have h1 := cnt_le p 128; have h2 := cnt_le q 128; have h3 := cnt_le (fun x => p x && q x) 128; omega)) ?_
    refine r_go rfl rfl ?_
    refine r_loadV rfl rfl rfl rfl rfl ?_
    refine r_go rfl rfl ?_
    refine r_call rfl rfl rfl (by kernel_rfl) rfl (fun w hw => by exact rowCount (fun x => p x && q x) w) ?_
    refine r_go rfl rfl ?_
    refine r_mul rfl rfl rfl (w64 (by have h1 := cnt_le p 128; have h2 := cnt_le q 128; have h3 := cnt_le (fun x => p x && q x) 128; omega)) ?_
    refine r_go rfl rfl ?_
    refine r_sub rfl rfl rfl (w64 (by have h1 := cnt_le p 128; have h2 := cnt_le q 128; have h3 := cnt_le (fun x => p x && q x) 128; omega)) ?_
    refine r_go rfl rfl ?_
    refine r_eql rfl rfl rfl (decide_eq_true (by have h := cnt_xor p q 128; omega)) ?_
    refine r_pick_t rfl rfl rfl ?_
    refine r_move rfl rfl ?_
    refine r_go rfl rfl ?_
    refine r_loadV rfl rfl rfl rfl rfl ?_
    refine r_go rfl rfl ?_
    refine r_loadV rfl rfl rfl rfl rfl ?_
    refine r_go rfl rfl ?_
    refine r_call rfl rfl rfl (by kernel_rfl) rfl (fun w hw => by exact rowXor p p w) ?_
    refine r_go rfl rfl ?_
    refine r_call (v := .bool true) rfl rfl rfl (by kernel_rfl) rfl (fun w hw => by have h := rowEmpty (fun x => p x ^^ p x) w; rw [show (eqB (fun x => p x ^^ p x) noneP) = true from (eqB_iff _ _).2 fun y hy => by simp [noneP]] at h; exact h) ?_
    refine r_pick_t rfl rfl rfl ?_
    refine r_assign rfl rfl ?_
    refine r_nil ?_
    refine r_tn ?_
    refine r_ret ?_
    exact r_done1 (.inl rfl) rfl (res_tmp rfl) fun w hw => ⟨rfl, hw.clear⟩
theorem RowXors_walk (a b c d : Int) (W : World) (ha : (Lit.int .u64 a).wf = true) (hb : (Lit.int .u64 b).wf = true) (hc : (Lit.int .u64 c).wf = true) (hd : (Lit.int .u64 d).wf = true) :
    Calls Try.prog 6 #[.int .u64 a, .int .u64 b, .int .u64 c, .int .u64 d] W fun e w' => e = .returned (.bool true) ∧ Sat W [] [] w' := by
  obtain ⟨p, rfl, rfl⟩ := row_of (wfU ha) (wfU hb)
  obtain ⟨q, rfl, rfl⟩ := row_of (wfU hc) (wfU hd)
  exact xors06 p q W
end Go.Proofs.Ytahanpobeekhiaa
