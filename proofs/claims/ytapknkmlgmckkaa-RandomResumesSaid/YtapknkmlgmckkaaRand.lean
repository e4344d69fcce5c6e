/-
  The streams (chapter 13): what a stream yields, by a plain function of its list.
-/
import Derived.Test.YtapknkmlgmckkaaPtr
import Derived.Test.YtapknkmlgmckkaaLib17
namespace Go.Proofs.Ytapknkmlgmckkaa
open Go Go.RowKit
set_option linter.unusedVariables false
set_option maxHeartbeats 2000000

/-- the byte with a number, of a list that is read again and again -/
def atM (xs : List Int) (n : Int) : Int := if n < 0 ∨ xs.length = 0 then 0 else xs.getD (n.toNat % xs.length) 0
abbrev stB (b : Nat) (A : Option Addr) (c : Nat) (xs : List Int) (r : Int) : Res := .blk b (.cells #[.slice A xs.length c, .int .i64 r] 71 (0, 0))
abbrev stO (A : Option Addr) (c : Nat) (xs : List Int) : Res := .own 5 1 (.slice A xs.length c) xs.length (xs.map (Value.int .u8))
theorem atM_at {xs : List Int} {k : Int} (hk : 0 ≤ k) (h : k.toNat % xs.length < xs.length) : atM xs k = xs[k.toNat % xs.length] := by
  unfold atM
  rw [if_neg (by omega)]
  simp [List.getD, h]
theorem rem_at {k : Int} {m : Nat} (h : 0 ≤ k) : k.tmod (m : Int) = ((k.toNat % m : Nat) : Int) := by
  obtain ⟨j, rfl⟩ := Int.eq_ofNat_of_zero_le h
  simp [Int.tmod]


theorem cyc1 (b : Nat) (A : Option Addr) (c : Nat) (xs : List Int) (k : Int) (hk : -9223372036854775808 ≤ k ∧ k ≤ 9223372036854775807) (hm : xs.length ≤ 140737488351232) (w : World) (hb : Rd w (some ⟨b, 0, none⟩) [.slice A xs.length c]) (hA : Rd w A (xs.map (Value.int .u8))) :
    Calls Try.prog 46 #[.int .i64 k, .pointer (some ⟨b, 0, none⟩)] w fun e w' => e = .returned (.int .u8 (atM xs k)) ∧ Sat w [] [] w' := by
  refine enter Try.func46 rfl rfl rfl ?_
  refine r_seq ?_
  refine r_region ?_
  refine r_assign rfl rfl ?_
  refine r_nil ?_
  refine r_tn ?_
  refine r_seq ?_
  refine r_seq ?_
  refine r_region ?_
  refine r_move rfl rfl ?_
  refine r_lss rfl rfl rfl rfl ?_
  refine r_move rfl rfl ?_
  refine r_split 6 rfl (fun hb6 => ?_) (fun hb6 => ?_)
  · refine r_pass rfl rfl rfl rfl ?_
    refine r_pass rfl rfl rfl rfl ?_
    refine r_pass rfl rfl rfl rfl ?_
    refine r_pick_t rfl rfl rfl ?_
    refine r_nil ?_
    refine r_tn ?_
    refine r_cond_t rfl ?_
    refine r_seq ?_
    refine r_region ?_
    refine r_move rfl rfl ?_
    refine r_assign rfl rfl ?_
    refine r_nil ?_
    refine r_tn ?_
    refine r_ret ?_
    refine r_tr ?_
    exact r_done1 (.inl rfl) rfl (res_tmp rfl) fun w hw => ⟨by simp_all [atM], hw.clear⟩
  · refine r_go rfl rfl ?_
    refine r_loadC rfl rfl rfl (fun w hw => (hb.keep hw).cell (j := 0) rfl rfl) ?_
    refine r_go rfl rfl ?_
    refine r_len rfl rfl rfl ?_
    refine r_go rfl rfl ?_
    refine r_eql rfl rfl rfl rfl ?_
    refine r_pick_f rfl rfl rfl ?_
    refine r_nil ?_
    refine r_tn ?_
    refine r_cond rfl (fun hc => ?_) (fun hc => ?_)
    · refine r_seq ?_
      refine r_region ?_
      refine r_move rfl rfl ?_
      refine r_assign rfl rfl ?_
      refine r_nil ?_
      refine r_tn ?_
      refine r_ret ?_
      refine r_tr ?_
      exact r_done1 (.inl rfl) rfl (res_tmp rfl) fun w hw => ⟨by simp_all [atM], hw.clear⟩
    · refine r_skip ?_
      refine r_tn ?_
      refine r_seq ?_
      refine r_mixed (by kernel_rfl) (by kernel_rfl) ?_
      have hk0 : 0 ≤ k := by have h := of_decide_eq_false hb6; omega
      have hx0 : xs.length ≠ 0 := by have h := of_decide_eq_false hc; omega
      have hlt : k.toNat % xs.length < xs.length := Nat.mod_lt _ (by omega)
      obtain ⟨ba, oa, rfl, hca⟩ := hA (k.toNat % xs.length) (.int .u8 (xs[k.toNat % xs.length]'hlt)) (by simp [hlt])
      refine r_loadC rfl rfl rfl (fun w hw => (hb.keep hw).cell (j := 0) rfl rfl) ?_
      refine r_move rfl rfl ?_
      refine r_loadC rfl rfl rfl (fun w hw => (hb.keep hw).cell (j := 0) rfl rfl) ?_
      refine r_len rfl rfl rfl ?_
      refine r_rem rfl rfl rfl (by omega) (rem_at hk0) ?_
      refine r_indexSl (sz := 1) rfl rfl rfl rfl rfl (by omega) (by omega) (show _ = oa + k.toNat % xs.length by rw [Int.toNat_natCast, Nat.mul_one]) ?_
      refine r_loadC rfl rfl rfl (fun w hw => (hA.keep hw).cell (j := k.toNat % xs.length) (u := .int .u8 (xs[k.toNat % xs.length]'hlt)) (by simp [hlt]) rfl) ?_
      refine r_assign rfl rfl ?_
      refine r_nil ?_
      refine r_tn ?_
      refine r_ret ?_
      exact r_done1 (.inl rfl) rfl (res_tmp rfl) fun w hw => ⟨by rw [atM_at hk0 hlt], hw.clear⟩

theorem cyc (A : Option Addr) (m c : Nat) (w : World) :
    Calls Try.prog 44 #[.slice A m c] w fun e w' => ∃ b : Nat, e = .returned (.func (.func 46) #[] #[.pointer (some ⟨b, 0, none⟩)]) ∧ True ∧ Sat w [] [.blk b (.cells #[.slice A m c] 33 (0, 0))] w' := by
  refine enter Try.func44 rfl rfl rfl ?_
  refine r_seq ?_
  refine r_region ?_
  refine r_box rfl rfl fun b1 => ?_
  refine r_assign rfl rfl ?_
  refine r_nil ?_
  refine r_tn ?_
  refine r_seq ?_
  refine r_region ?_
  refine r_makeFunc rfl rfl rfl ?_
  refine r_assign rfl rfl ?_
  refine r_nil ?_
  refine r_tn ?_
  refine r_ret ?_
  exact r_done1 (.inl rfl) rfl (res_tmp rfl) fun w hw => ⟨b1, rfl, trivial, hw⟩

theorem at13 (A : Option Addr) (c : Nat) (xs : List Int) (k : Int) (hk : -9223372036854775808 ≤ k ∧ k ≤ 9223372036854775807) (hm : xs.length ≤ 140737488351232) (w : World) (hA : Rd w A (xs.map (Value.int .u8))) :
    Calls Try.prog 34 #[.slice A xs.length c, .int .i64 k] w fun e w' => e = .returned (.int .u8 (atM xs k)) ∧ Sat w [] [] w' := by
  refine enter Try.func34 rfl rfl rfl ?_
  refine r_seq ?_
  refine r_region ?_
  refine r_assign rfl rfl ?_
  refine r_nil ?_
  refine r_tn ?_
  refine r_seq ?_
  refine r_region ?_
  refine r_move rfl rfl ?_
  refine r_callx rfl rfl rfl (by kernel_rfl) rfl (fun w hw => cyc A xs.length c w) ?_
  rintro b6 _
  refine r_move rfl rfl ?_
  refine r_call rfl rfl rfl (by kernel_rfl) rfl (fun w hw => by exact cyc1 b6 A c xs k hk hm w (Rd.blk (hw.look (HasBlk.pick (b := b6))) (fun j u h => by simpa using h)) (hA.keep hw)) ?_
  refine r_assign rfl rfl ?_
  refine r_nil ?_
  refine r_tn ?_
  refine r_ret ?_
  exact r_done1 (.inl rfl) rfl (res_tmp rfl) fun w hw => ⟨rfl, hw.clear⟩

theorem refAt13 (A : Option Addr) (c : Nat) (xs : List Int) (k : Int) (hk : -9223372036854775808 ≤ k ∧ k ≤ 9223372036854775807) (hm : xs.length ≤ 140737488351232) (w : World) (hA : Rd w A (xs.map (Value.int .u8))) :
    Calls Try.prog 33 #[.slice A xs.length c, .int .i64 k] w fun e w' => e = .returned (.int .u8 (atM xs k)) ∧ Sat w [] [] w' := by
  refine enter Try.func33 rfl rfl rfl ?_
  refine r_seq ?_
  refine r_region ?_
  refine r_assign rfl rfl ?_
  refine r_nil ?_
  refine r_tn ?_
  refine r_seq ?_
  refine r_seq ?_
  refine r_region ?_
  refine r_move rfl rfl ?_
  refine r_lss rfl rfl rfl rfl ?_
  refine r_move rfl rfl ?_
  refine r_split 7 rfl (fun hb7 => ?_) (fun hb7 => ?_)
  · refine r_pass rfl rfl rfl rfl ?_
    refine r_pass rfl rfl rfl rfl ?_
    refine r_pass rfl rfl rfl rfl ?_
    refine r_pick_t rfl rfl rfl ?_
    refine r_nil ?_
    refine r_tn ?_
    refine r_cond_t rfl ?_
    refine r_seq ?_
    refine r_region ?_
    refine r_assign rfl rfl ?_
    refine r_nil ?_
    refine r_tn ?_
    refine r_ret ?_
    refine r_tr ?_
    exact r_done1 (.inl rfl) rfl (res_tmp rfl) fun w hw => ⟨by simp_all [atM], hw.clear⟩
  · refine r_go rfl rfl ?_
    refine r_move rfl rfl ?_
    refine r_go rfl rfl ?_
    refine r_len rfl rfl rfl ?_
    refine r_go rfl rfl ?_
    refine r_eql rfl rfl rfl rfl ?_
    refine r_pick_f rfl rfl rfl ?_
    refine r_nil ?_
    refine r_tn ?_
    refine r_cond rfl (fun hc => ?_) (fun hc => ?_)
    · refine r_seq ?_
      refine r_region ?_
      refine r_assign rfl rfl ?_
      refine r_nil ?_
      refine r_tn ?_
      refine r_ret ?_
      refine r_tr ?_
      exact r_done1 (.inl rfl) rfl (res_tmp rfl) fun w hw => ⟨by simp_all [atM], hw.clear⟩
    · refine r_skip ?_
      refine r_tn ?_
      refine r_seq ?_
      refine r_region ?_
      have hk0 : 0 ≤ k := by have h := of_decide_eq_false hb7; omega
      have hx0 : xs.length ≠ 0 := by have h := of_decide_eq_false hc; omega
      have hlt : k.toNat % xs.length < xs.length := Nat.mod_lt _ (by omega)
      obtain ⟨ba, oa, rfl, hca⟩ := hA (k.toNat % xs.length) (.int .u8 (xs[k.toNat % xs.length]'hlt)) (by simp [hlt])
      refine r_move rfl rfl ?_
      refine r_move rfl rfl ?_
      refine r_move rfl rfl ?_
      refine r_len rfl rfl rfl ?_
      refine r_rem rfl rfl rfl (by omega) (rem_at hk0) ?_
      refine r_indexSl (sz := 1) rfl rfl rfl rfl rfl (by omega) (by omega) (show _ = oa + k.toNat % xs.length by rw [Int.toNat_natCast, Nat.mul_one]) ?_
      refine r_loadC rfl rfl rfl (fun w hw => (hA.keep hw).cell (j := k.toNat % xs.length) (u := .int .u8 (xs[k.toNat % xs.length]'hlt)) (by simp [hlt]) rfl) ?_
      refine r_assign rfl rfl ?_
      refine r_nil ?_
      refine r_tn ?_
      refine r_ret ?_
      exact r_done1 (.inl rfl) rfl (res_tmp rfl) fun w hw => ⟨by rw [atM_at hk0 hlt], hw.clear⟩

theorem new13 (A : Option Addr) (c : Nat) (xs : List Int) (hm : xs.length ≤ 140737488351232) (w : World) (hA : Rd w A (xs.map (Value.int .u8))) :
    Calls Try.prog 30 #[.slice A xs.length c] w fun e w' => ∃ i : Nat × Option Addr × Nat, e = .returned (.pointer (some ⟨i.1, 0, none⟩)) ∧ True ∧ Sat w [] [stB i.1 i.2.1 i.2.2 xs 0, stO i.2.1 i.2.2 xs] w' := by
  refine enter Try.func30 rfl rfl rfl ?_
  refine r_seq ?_
  refine r_region ?_
  refine r_assign rfl rfl ?_
  refine r_nil ?_
  refine r_tn ?_
  refine r_seq ?_
  refine r_region ?_
  refine r_move rfl rfl ?_
  refine r_callx rfl rfl rfl (by kernel_rfl) rfl (fun w hw => cloneB A c xs w (by omega) (hA.keep hw)) ?_
  rintro ⟨A4, c4⟩ _
  refine r_build (cells := #[.slice A4 xs.length c4, .int .i64 0]) rfl rfl (by kernel_rfl) ?_
  refine r_box rfl rfl fun b6 => ?_
  refine r_assign rfl rfl ?_
  refine r_nil ?_
  refine r_tn ?_
  refine r_ret ?_
  exact r_done1 (.inl rfl) rfl (res_tmp rfl) fun w hw => ⟨(b6, A4, c4), rfl, trivial, hw⟩

theorem count13 (b : Nat) (v : Value) (r : Int) (w : World) (hb : Rd w (some ⟨b, 0, none⟩) [v, .int .i64 r]) :
    Calls Try.prog 31 #[.pointer (some ⟨b, 0, none⟩)] w fun e w' => e = .returned (.int .i64 r) ∧ Sat w [] [] w' := by
  refine enter Try.func31 rfl rfl rfl ?_
  refine r_seq ?_
  refine r_region ?_
  refine r_assign rfl rfl ?_
  refine r_nil ?_
  refine r_tn ?_
  refine r_seq ?_
  refine r_seq ?_
  refine r_region ?_
  refine r_move rfl rfl ?_
  refine r_eql_pointer rfl rfl rfl rfl rfl ?_
  refine r_nil ?_
  refine r_tn ?_
  refine r_cond_f rfl ?_
  refine r_skip ?_
  refine r_tn ?_
  refine r_seq ?_
  refine r_region ?_
  refine r_move rfl rfl ?_
  refine r_nilCheck rfl rfl ?_
  refine r_fieldAddr (off := 1) rfl rfl rfl rfl ?_
  refine r_loadC rfl rfl rfl (fun w hw => (hb.keep hw).cell (j := 1) rfl rfl) ?_
  refine r_assign rfl rfl ?_
  refine r_nil ?_
  refine r_tn ?_
  refine r_ret ?_
  exact r_done1 (.inl rfl) rfl (res_tmp rfl) fun w hw => ⟨rfl, hw.clear⟩

theorem next13 (b : Nat) (A : Option Addr) (c : Nat) (xs : List Int) (r : Int) (hr : -9223372036854775808 ≤ r ∧ r < 9223372036854775807) (hm : xs.length ≤ 140737488351232) (w : World) (hS : Sat w ([stB b A c xs r, stO A c xs].filterMap Res.foot) [stB b A c xs r, stO A c xs] w) :
    Calls Try.prog 32 #[.pointer (some ⟨b, 0, none⟩)] w fun e w' => e = .returned (.int .u8 (atM xs r)) ∧ Sat w ([stB b A c xs r, stO A c xs].filterMap Res.foot) [stB b A c xs (r + 1), stO A c xs] w' := by
  refine enterS Try.func32 rfl rfl rfl hS ?_
  refine r_seq ?_
  refine r_region ?_
  refine r_assign rfl rfl ?_
  refine r_nil ?_
  refine r_tn ?_
  refine r_seq ?_
  refine r_seq ?_
  refine r_region ?_
  refine r_move rfl rfl ?_
  refine r_eql_pointer rfl rfl rfl rfl rfl ?_
  refine r_nil ?_
  refine r_tn ?_
  refine r_cond_f rfl ?_
  refine r_skip ?_
  refine r_tn ?_
  refine r_seq ?_
  refine r_mixed (by kernel_rfl) (by kernel_rfl) ?_
  refine r_move rfl rfl ?_
  refine r_nilCheck rfl rfl ?_
  refine r_fieldAddr (off := 0) (o' := 0) rfl rfl rfl rfl ?_
  refine r_load1 rfl rfl rfl (by rfl) ?_
  refine r_move rfl rfl ?_
  refine r_nilCheck rfl rfl ?_
  refine r_fieldAddr (off := 1) (o' := 1) rfl rfl rfl rfl ?_
  refine r_load1 rfl rfl rfl (by rfl) ?_
  refine r_call rfl rfl rfl (by kernel_rfl) rfl (fun w hw => by exact at13 A c xs r (by omega) hm w (own_rd (A := A) (m := xs.length) (c := c) hw)) ?_
  refine r_assign rfl rfl ?_
  refine r_nil ?_
  refine r_tn ?_
  refine r_seq ?_
  refine r_region ?_
  refine r_move rfl rfl ?_
  refine r_nilCheck rfl rfl ?_
  refine r_fieldAddr (off := 1) (o' := 1) rfl rfl rfl rfl ?_
  refine r_load1 rfl rfl rfl (by rfl) ?_
  refine r_add rfl rfl rfl (w64 (by omega)) ?_
  refine r_nilCheck rfl rfl ?_
  refine r_fieldAddr (off := 1) (o' := 1) rfl rfl rfl rfl ?_
  refine r_store1 rfl rfl rfl rfl rfl (Nat.le_of_ble_eq_true rfl) ?_
  refine r_nil ?_
  refine r_tn ?_
  refine r_seq ?_
  refine r_region ?_
  refine r_move rfl rfl ?_
  refine r_assign rfl rfl ?_
  refine r_nil ?_
  refine r_tn ?_
  refine r_ret ?_
  exact r_done1 (.inl rfl) rfl (res_tmp rfl) fun w hw => ⟨rfl, (hw.sub : Sat _ _ [.blk b (.cells (#[Value.slice A xs.length c, .int .i64 r].setIfInBounds 1 (.int .i64 (r + 1))) 71 (0, 0)), stO A c xs] w)⟩

theorem nextNil13 (w : World) :
    Calls Try.prog 32 #[.pointer none] w fun e w' => e = .returned (.int .u8 0) ∧ Sat w [] [] w' := by
  refine enter Try.func32 rfl rfl rfl ?_
  refine r_seq ?_
  refine r_region ?_
  refine r_assign rfl rfl ?_
  refine r_nil ?_
  refine r_tn ?_
  refine r_seq ?_
  refine r_seq ?_
  refine r_region ?_
  refine r_move rfl rfl ?_
  refine r_eql_pointer rfl rfl rfl rfl rfl ?_
  refine r_nil ?_
  refine r_tn ?_
  refine r_cond_t rfl ?_
  refine r_seq ?_
  refine r_region ?_
  refine r_assign rfl rfl ?_
  refine r_nil ?_
  refine r_tn ?_
  refine r_ret ?_
  refine r_tr ?_
  exact r_done1 (.inl rfl) rfl (res_tmp rfl) fun w hw => ⟨rfl, hw.clear⟩

theorem clone13 (b : Nat) (A : Option Addr) (c : Nat) (xs : List Int) (r : Int) (hm : xs.length ≤ 140737488351232) (w : World) (hb : Rd w (some ⟨b, 0, none⟩) [.slice A xs.length c, .int .i64 r]) (hA : Rd w A (xs.map (Value.int .u8))) :
    Calls Try.prog 35 #[.pointer (some ⟨b, 0, none⟩)] w fun e w' => ∃ i : Nat × Option Addr × Nat, e = .returned (.pointer (some ⟨i.1, 0, none⟩)) ∧ True ∧ Sat w [] [stB i.1 i.2.1 i.2.2 xs r, stO i.2.1 i.2.2 xs] w' := by
  have hlt : b < w.heap.size := by obtain ⟨b', o', h1, h2⟩ := hb 0 _ rfl; injection h1 with h1; injection h1 with h1 _ _; subst h1; exact World.block_lt_of_cell? w _ h2
  refine enter Try.func35 rfl rfl rfl ?_
  refine r_seq ?_
  refine r_region ?_
  refine r_assign rfl rfl ?_
  refine r_nil ?_
  refine r_tn ?_
  refine r_seq ?_
  refine r_seq ?_
  refine r_region ?_
  refine r_move rfl rfl ?_
  refine r_eql_pointer rfl rfl rfl rfl rfl ?_
  refine r_nil ?_
  refine r_tn ?_
  refine r_cond_f rfl ?_
  refine r_skip ?_
  refine r_tn ?_
  refine r_seq ?_
  refine r_mixedD { xb := [], rb := [b], rs := [13], fs := [], acs := [9] } (by kernel_rfl) (by kernel_rfl) (fun w1 hw k hk => by
    simp only [List.mem_cons, List.not_mem_nil, or_false] at hk
    rcases hk with rfl
    exact Nat.lt_of_lt_of_le hlt hw.size) ?_
  refine r_move rfl rfl ?_
  refine r_nilCheck rfl rfl ?_
  refine r_fieldAddr (off := 0) (o' := 0) rfl rfl rfl rfl ?_
  refine r_loadC rfl rfl rfl (fun w hw => (hb.keep hw).cell (j := 0) rfl rfl) ?_
  refine r_callx rfl rfl rfl (by kernel_rfl) rfl (fun w hw => cloneB A c xs w (by omega) (hA.keep hw)) ?_
  rintro ⟨A9, c9⟩ _
  refine r_move rfl rfl ?_
  refine r_nilCheck rfl rfl ?_
  refine r_fieldAddr (off := 1) (o' := 1) rfl rfl rfl rfl ?_
  refine r_loadC rfl rfl rfl (fun w hw => (hb.keep hw).cell (j := 1) rfl rfl) ?_
  refine r_build (cells := #[.slice A9 xs.length c9, .int .i64 r]) rfl rfl (by kernel_rfl) ?_
  refine r_box rfl rfl fun b15 => ?_
  refine r_assign rfl rfl ?_
  refine r_nil ?_
  refine r_tn ?_
  refine r_ret ?_
  exact r_done1 (.inl rfl) rfl (res_tmp rfl) fun w hw => ⟨(b15, A9, c9), rfl, trivial, hw⟩

theorem cloneNil13 (w : World) :
    Calls Try.prog 35 #[.pointer none] w fun e w' => e = .returned (.pointer none) ∧ Sat w [] [] w' := by
  refine enter Try.func35 rfl rfl rfl ?_
  refine r_seq ?_
  refine r_region ?_
  refine r_assign rfl rfl ?_
  refine r_nil ?_
  refine r_tn ?_
  refine r_seq ?_
  refine r_seq ?_
  refine r_region ?_
  refine r_move rfl rfl ?_
  refine r_eql_pointer rfl rfl rfl rfl rfl ?_
  refine r_nil ?_
  refine r_tn ?_
  refine r_cond_t rfl ?_
  refine r_seq ?_
  refine r_region ?_
  refine r_assign rfl rfl ?_
  refine r_nil ?_
  refine r_tn ?_
  refine r_ret ?_
  refine r_tr ?_
  exact r_done1 (.inl rfl) rfl (res_tmp rfl) fun w hw => ⟨rfl, hw.clear⟩

theorem list13 (b : Nat) (A : Option Addr) (c : Nat) (xs : List Int) (r : Int) (hm : xs.length ≤ 140737488351232) (w : World) (hb : Rd w (some ⟨b, 0, none⟩) [.slice A xs.length c, .int .i64 r]) (hA : Rd w A (xs.map (Value.int .u8))) :
    Calls Try.prog 36 #[.pointer (some ⟨b, 0, none⟩)] w fun e w' => ∃ i : Option Addr × Nat, e = .returned (.slice i.1 xs.length i.2) ∧ True ∧ Sat w [] [stO i.1 i.2 xs] w' := by
  refine enter Try.func36 rfl rfl rfl ?_
  refine r_seq ?_
  refine r_region ?_
  refine r_assign rfl rfl ?_
  refine r_nil ?_
  refine r_tn ?_
  refine r_seq ?_
  refine r_seq ?_
  refine r_region ?_
  refine r_move rfl rfl ?_
  refine r_eql_pointer rfl rfl rfl rfl rfl ?_
  refine r_nil ?_
  refine r_tn ?_
  refine r_cond_f rfl ?_
  refine r_skip ?_
  refine r_tn ?_
  refine r_seq ?_
  refine r_region ?_
  refine r_move rfl rfl ?_
  refine r_nilCheck rfl rfl ?_
  refine r_fieldAddr (off := 0) rfl rfl rfl rfl ?_
  refine r_loadC rfl rfl rfl (fun w hw => (hb.keep hw).cell (j := 0) rfl rfl) ?_
  refine r_callx rfl rfl rfl (by kernel_rfl) rfl (fun w hw => cloneB A c xs w (by omega) (hA.keep hw)) ?_
  rintro ⟨A9, c9⟩ _
  refine r_assign rfl rfl ?_
  refine r_nil ?_
  refine r_tn ?_
  refine r_ret ?_
  exact r_done1 (.inl rfl) rfl (res_tmp rfl) fun w hw => ⟨(A9, c9), rfl, trivial, hw⟩

theorem resume13 (A : Option Addr) (c : Nat) (xs : List Int) (k : Int) (hm : xs.length ≤ 140737488351232) (w : World) (hA : Rd w A (xs.map (Value.int .u8))) :
    Calls Try.prog 37 #[.slice A xs.length c, .int .i64 k] w fun e w' => ∃ i : Nat × Option Addr × Nat, e = .returned (.pointer (some ⟨i.1, 0, none⟩)) ∧ True ∧ Sat w [] [stB i.1 i.2.1 i.2.2 xs (if 0 > k then 0 else k), stO i.2.1 i.2.2 xs] w' := by
  refine enter Try.func37 rfl rfl rfl ?_
  refine r_seq ?_
  refine r_region ?_
  refine r_assign rfl rfl ?_
  refine r_nil ?_
  refine r_tn ?_
  refine r_seq ?_
  refine r_region ?_
  refine r_move rfl rfl ?_
  refine r_callx rfl rfl rfl (by kernel_rfl) rfl (fun w hw => cloneB A c xs w (by omega) (hA.keep hw)) ?_
  rintro ⟨A6, c6⟩ _
  refine r_move rfl rfl ?_
  refine r_max rfl rfl rfl rfl ?_
  refine r_build (cells := #[.slice A6 xs.length c6, .int .i64 (if 0 > k then 0 else k)]) rfl rfl (by kernel_rfl) ?_
  refine r_box rfl rfl fun b10 => ?_
  refine r_assign rfl rfl ?_
  refine r_nil ?_
  refine r_tn ?_
  refine r_ret ?_
  exact r_done1 (.inl rfl) rfl (res_tmp rfl) fun w hw => ⟨(b10, A6, c6), rfl, trivial, hw⟩
end Go.Proofs.Ytapknkmlgmckkaa
