/-
  Macros (chapter 30): Commands.
-/
import Derived.Test.YtghjbnbkfohmlaaDoorSame30
namespace Go.Proofs.YtghjbnbkfohmlaaDoor
open Go Go.RowKit
set_option linter.unusedVariables false
set_option linter.unusedSimpArgs false
set_option maxHeartbeats 2000000
set_option maxRecDepth 4000
attribute [local irreducible] mix
theorem and15 (q : Nat) (h : q < 65536) : IntKind.i64.wrap ((BitVec.ofInt IntKind.i64.bits ((q : Nat) : Int) &&& BitVec.ofInt IntKind.i64.bits 15).toNat : Int) = ((q % 16 : Nat) : Int) := by
  have e : ∀ z : Nat, z < 65536 → (BitVec.ofInt IntKind.i64.bits (z : Int)).toNat = z := fun z hz => by
    show (BitVec.ofInt 64 (z : Int)).toNat = z
    rw [BitVec.ofInt_natCast, BitVec.toNat_ofNat]
    exact Nat.mod_eq_of_lt (by omega)
  rw [BitVec.toNat_and, e q h, show (BitVec.ofInt IntKind.i64.bits 15).toNat = 2 ^ 4 - 1 from e 15 (by decide), Nat.and_two_pow_sub_one_eq_mod]
  exact w64 (by omega)
theorem shr4w (q : Nat) : ((q : Nat) : Int).fdiv (2 ^ (min ((4 : Int)).toNat IntKind.i64.bits)) = ((q / 16 : Nat) : Int) := by
  rw [show (min ((4 : Int)).toNat IntKind.i64.bits) = 4 from rfl]
  exact (Int.fdiv_eq_ediv_of_nonneg _ (by decide)).trans rfl
theorem made_one (v : Value) (n : Nat) : (madeCells #[v] (n * 1)).toList = List.replicate n v := by
  unfold madeCells
  rw [Array.toList_map, Array.toList_range, Nat.mul_one]
  apply List.ext_getElem?
  intro i
  rw [List.getElem?_map, List.getElem?_replicate]
  by_cases h : i < n
  · rw [List.getElem?_range h, if_pos h]
    show some ((#[v] : Array Value)[i % 1]!) = _
    rw [Nat.mod_one]
    rfl
  · rw [if_neg h, List.getElem?_eq_none (by rw [List.length_range]; omega)]
    rfl
def hexO (p k : Nat) : List Int := [if k = 0 then 0 else ((hexC p).toNat : Int)]
theorem hexO_tx (p : Nat) : strOf (hexO p 1) = tx [hexC p] := by
  rw [strOf_tx]
  show tx [UInt8.ofNat (((hexC p).toNat : Int)).toNat] = _
  rw [Int.toNat_natCast, UInt8.ofNat_toNat]
/-- the printer with its things -/
abbrev PRes (b : Nat) (xs : List (List UInt8)) (A : Option Addr) (c : Nat) : List Res := [.blk b (.cells #[.slice A xs.length c] 46 (0, 0)), .own 9 1 (.slice A xs.length c) xs.length (xs.map txV)]
theorem pres_snoc {b : Nat} {xs : List (List UInt8)} {t : List UInt8} {A : Option Addr} {c : Nat} : PRes b (xs ++ [t]) A c = [.blk b (.cells #[.slice A (xs.length + 1) c] 46 (0, 0)), .own 9 1 (.slice A (xs.length + 1) c) (xs.length + 1) (xs.map txV ++ [txV t])] := by
  unfold PRes
  rw [len_snoc, map_snoc]
theorem takeE_snoc {f : List Ev} {k : Nat} (h : k < f.length) : (f.take (k + 1)).map evT = (f.take k).map evT ++ [evT f[k]] := by
  rw [List.take_add_one, List.getElem?_eq_getElem h, List.map_append]
  rfl
theorem drop_block {fs : List (List Ev)} : ∀ (m i : Nat), i + m ≤ fs.length → (∀ j (h : i + j < fs.length), j < m → fs[i + j] = []) → fs.drop i = List.replicate m [] ++ fs.drop (i + m)
  | 0, i, _, _ => rfl
  | m + 1, i, h, he => by
    have hi : i < fs.length := by omega
    have he0 : fs[i] = [] := he 0 hi (by omega)
    rw [List.drop_eq_getElem_cons hi, he0, List.replicate_succ, List.cons_append, show i + (m + 1) = (i + 1) + m by omega]
    congr 1
    exact drop_block m (i + 1) (by omega) fun j hj hm => by
      have := he (j + 1) (by omega) (by omega)
      simp only [show i + 1 + j = i + (j + 1) by omega]
      exact this
theorem cmds_step {fs : List (List Ev)} {i n : Nat} (hi : i < fs.length) (hn : 1 ≤ n) (hin : i + n ≤ fs.length) (hemp : ∀ j (h : i + j < fs.length), 1 ≤ j → j < n → fs[i + j] = []) (hx : i + n = fs.length ∨ ∃ h : i + n < fs.length, fs[i + n] ≠ []) :
    cmdsL (fs.drop i) = fs[i].map evT ++ ((if i + n < fs.length ∨ fs[i] = [] ∨ 1 < n then [waitT n] else []) ++ cmdsL (fs.drop (i + n))) := by
  have e1 : fs.drop i = fs[i] :: (List.replicate (n - 1) [] ++ fs.drop (i + n)) := by
    rw [List.drop_eq_getElem_cons hi, drop_block (n - 1) (i + 1) (by omega) fun j hj hm => by
      have := hemp (j + 1) (by omega) (by omega) (by omega)
      simp only [show i + 1 + j = i + (j + 1) by omega]
      exact this]
    rw [show i + 1 + (n - 1) = i + n by omega]
  have h1 : (fs.drop (i + n)).head? ≠ some [] := by
    rcases hx with hx | ⟨h, hx⟩
    · rw [hx, List.drop_length]; simp
    · rw [List.drop_eq_getElem_cons h]
      intro e
      exact hx (Option.some.inj e)
  rw [e1, cmds_block _ _ _ h1, show 1 + (n - 1) = n by omega]
  have e2 : (fs.drop (i + n) ≠ [] ∨ fs[i] = [] ∨ 0 < n - 1) = (i + n < fs.length ∨ fs[i] = [] ∨ 1 < n) := by
    apply propext
    have a1 : fs.drop (i + n) ≠ [] ↔ i + n < fs.length := by rw [ne_eq, List.drop_eq_nil_iff]; omega
    have a2 : 0 < n - 1 ↔ 1 < n := by omega
    rw [a1, a2]
  simp only [e2]
theorem evT_true (n : Nat) : evT ((n : Int), true) = [112, 114, 101, 115, 115, 32] ++ [hexC n] := rfl
theorem evT_false (n : Nat) : evT ((n : Int), false) = [114, 101, 108, 101, 97, 115, 101, 32] ++ [hexC n] := rfl
theorem waitT_def (n : Nat) : [119, 97, 105, 116, 32] ++ Lib.decDigits n = waitT n := rfl
theorem cmdsL_nil : cmdsL [] = [] := rfl
attribute [local irreducible] evsL ownsOf rightB cmdsL waitT evT


theorem hex1_30 (p : Nat) (hp : p < 16) (w : World) :
    Calls Tryd.prog 29 #[.int .i64 (p : Int), .int .i64 1] w fun e w' => e = .returned (.string (tx [hexC p])) ∧ Sat w [] [] w' := by
  refine enter Tryd.func29 rfl rfl rfl ?_
  refine r_seq ?_
  refine r_region ?_
  refine r_assign rfl rfl ?_
  refine r_nil ?_
  refine r_tn ?_
  refine r_seq ?_
  refine r_seq ?_
  refine r_region ?_
  refine r_move rfl rfl ?_
  refine r_lss (p := false) rfl rfl rfl rfl ?_
  refine r_move rfl rfl ?_
  refine r_go rfl rfl ?_
  refine r_move rfl rfl ?_
  refine r_go rfl rfl ?_
  refine r_gtr (p := false) rfl rfl rfl rfl ?_
  refine r_pick_f rfl rfl rfl ?_
  refine r_move rfl rfl ?_
  refine r_go rfl rfl ?_
  refine r_move rfl rfl ?_
  refine r_go rfl rfl ?_
  refine r_lss (p := false) rfl rfl rfl (decide_eq_false (by omega)) ?_
  refine r_pick_f rfl rfl rfl ?_
  refine r_move rfl rfl ?_
  refine r_go rfl rfl ?_
  refine r_move rfl rfl ?_
  refine r_go rfl rfl ?_
  refine r_gtr (p := false) rfl rfl rfl (decide_eq_false (by omega)) ?_
  refine r_pick_f rfl rfl rfl ?_
  refine r_nil ?_
  refine r_tn ?_
  refine r_cond_f rfl ?_
  refine r_skip ?_
  refine r_tn ?_
  refine r_seq ?_
  refine r_region ?_
  refine r_move rfl rfl ?_
  refine r_makeSlice (m := 1) (sz := 1) (bytes := 1) rfl rfl rfl rfl rfl rfl rfl (by decide) (by decide) (made_one (.int .u8 0) 1) (fun b22 => ?_)
  refine r_assign rfl rfl ?_
  refine r_nil ?_
  refine r_tn ?_
  refine r_seq ?_
  refine r_seq ?_
  refine r_region ?_
  refine r_move rfl rfl ?_
  refine r_move rfl rfl ?_
  refine r_nil ?_
  refine r_tn ?_
  refine r_block ?_
  refine r_loopN (fun k => [(0, .int .i64 ((p / 16 ^ k : Nat) : Int)), (1, .int .i64 1), (5, .slice (some ⟨b22, 0, none⟩) 1 1), (23, .int .i64 1), (24, .int .i64 (k : Int))]) (fun k => [.own 5 1 (.slice (some ⟨b22, 0, none⟩) 1 1) 1 ((hexO p k).map (Value.int .u8))]) (fun k => k ≤ 1) 1 0 (by omega) ⟨by rw [Nat.pow_zero, Nat.div_one]; rfl, rfl, rfl, rfl, rfl, trivial⟩ (fun w hw => by have h2 : Sat _ _ [.own 5 1 (.slice (some ⟨b22, 0, none⟩) 1 1) 1 (List.replicate 1 (.int .u8 0))] w := hw.sub; exact h2) fun k hk => ?_
  refine r_seq ?_
  refine r_region ?_
  refine r_lss rfl rfl rfl rfl ?_
  refine r_nil ?_
  refine r_tn ?_
  refine r_seq ?_
  refine r_cond rfl (fun hc => ?_) (fun hc => ?_)
  · refine r_skip ?_
    refine r_tn ?_
    refine r_seq ?_
    refine r_block ?_
    refine r_seq ?_
    refine r_region ?_
    have hk2 : k = 0 := by have h := of_decide_eq_true hc; omega
    clear hc
    subst hk2
    rw [Nat.pow_zero, Nat.div_one]
    refine r_move rfl rfl ?_
    refine r_assign rfl rfl ?_
    refine r_nil ?_
    refine r_tn ?_
    refine r_seq ?_
    refine r_region ?_
    refine r_move rfl rfl ?_
    refine r_move rfl rfl ?_
    refine r_sub (r := 0) rfl rfl rfl rfl ?_
    refine r_move rfl rfl ?_
    refine r_sub (r := 0) rfl rfl rfl rfl ?_
    refine r_move rfl rfl ?_
    refine r_and (r := ((p % 16 : Nat) : Int)) rfl rfl rfl (and15 p (by omega)) ?_
    refine r_idxStr (i' := p % 16) (z := hexC (p % 16)) rfl rfl rfl rfl rfl (hex_at _ (Nat.mod_lt _ (by omega))) ?_
    refine r_indexSl (sz := 1) (o' := 0) rfl rfl rfl rfl rfl (by decide) (by decide) rfl ?_
    refine r_storeOwn (m := 1) (c := 1) rfl rfl rfl rfl rfl (by omega) ?_
    refine r_nil ?_
    refine r_tn ?_
    refine r_region ?_
    refine r_move rfl rfl ?_
    refine r_shr (r := ((p / 16 ^ (0 + 1) : Nat) : Int)) rfl rfl rfl (by omega) (by rw [Nat.pow_succ, Nat.pow_zero, Nat.one_mul]; exact shr4w _) ?_
    refine r_assign rfl rfl ?_
    refine r_nil ?_
    refine r_bn ?_
    refine r_tn ?_
    refine r_region ?_
    refine r_add (r := ((0 + 1 : Nat) : Int)) rfl rfl rfl rfl ?_
    refine r_move rfl rfl ?_
    refine r_nil ?_
    refine r_tn ?_
    exact r_againN (0 + 1) (by omega) (by omega) ⟨rfl, rfl, rfl, rfl, rfl, trivial⟩ (fun w hw => by have h2 : Sat _ _ [.own 5 1 (.slice (some ⟨b22, 0, none⟩) 1 1) 1 (((hexO p 0).map (Value.int .u8)).set 0 (.int .u8 ((hexC (p % 16)).toNat : Int)))] w := hw.sub; rw [Nat.mod_eq_of_lt hp] at h2; exact h2)
  · refine r_exit ?_
    refine r_te ?_
    refine r_te ?_
    refine r_be ?_
    refine r_tn ?_
    refine r_seq ?_
    refine r_region ?_
    have hk3 : k = 1 := by have h := of_decide_eq_false hc; omega
    subst hk3
    refine r_move rfl rfl ?_
    refine r_bytesStr (l := hexO p 1) rfl rfl rfl rfl rfl rfl (fun w hw => own_rd (A := some ⟨b22, 0, none⟩) (m := 1) (c := 1) hw) ?_
    rw [hexO_tx]
    refine r_assign rfl rfl ?_
    refine r_nil ?_
    refine r_tn ?_
    refine r_ret ?_
    exact r_done1 (.inl rfl) rfl (res_tmp rfl) fun w hw => ⟨rfl, hw.clear⟩

theorem pevent30 (b : Nat) (xs : List (List UInt8)) (A : Option Addr) (c : Nat) (e : Ev) (hk : keyOK e) (hlen : xs.length ≤ 100000000) (S : List Nat) (w : World) (hS : Sat w S (PRes b xs A c) w) :
    Calls Tryd.prog 21 #[.pointer (some ⟨b, 0, none⟩), .agg #[.int .i64 e.1, .bool e.2]] w fun r w' => ∃ i : Option Addr × Nat, r = .returned (.tuple #[]) ∧ True ∧ Sat w S (PRes b (xs ++ [evT e]) i.1 i.2) w' := by
  obtain ⟨z, d⟩ := e
  obtain ⟨h0, h15⟩ := hk
  have h0 : 0 ≤ z := h0
  have h15 : z ≤ 15 := h15
  obtain ⟨n, rfl⟩ : ∃ n : Nat, z = n := ⟨z.toNat, by omega⟩
  have hn : n < 16 := by omega
  cases d
  · refine enterS Tryd.func21 rfl rfl rfl hS ?_
    refine r_seq ?_
    refine r_region ?_
    refine r_boxV (cs := #[.int .i64 (n : Int), .bool false]) rfl rfl fun b3 => ?_
    refine r_nil ?_
    refine r_tn ?_
    refine r_seq ?_
    refine r_region ?_
    refine r_assign rfl rfl ?_
    refine r_nil ?_
    refine r_tn ?_
    refine r_seq ?_
    refine r_seq ?_
    refine r_region ?_
    refine r_fieldAddr (off := 1) (o' := 1) rfl rfl rfl rfl ?_
    refine r_load1 (v := .bool false) rfl rfl rfl rfl ?_
    refine r_nil ?_
    refine r_tn ?_
    refine r_cond_f rfl ?_
    refine r_skip ?_
    refine r_tn ?_
    refine r_mixedD { xb := [], rb := [b], rs := [11], fs := [], acs := [15, 17] } (by kernel_rfl) (by kernel_rfl) (fun w hw k hk => by
      simp only [List.mem_cons, List.not_mem_nil, or_false] at hk
      rcases hk with rfl <;> exact Sat.lt hw) ?_
    refine r_move rfl rfl ?_
    refine r_move rfl rfl ?_
    refine r_nilCheck rfl rfl ?_
    refine r_fieldAddr (off := 0) (o' := 0) rfl rfl rfl rfl ?_
    refine r_load1 (v := .slice A xs.length c) rfl rfl rfl rfl ?_
    refine r_move rfl rfl ?_
    refine r_fieldAddr (off := 0) (o' := 0) rfl rfl rfl rfl ?_
    refine r_load1 (v := .int .i64 (n : Int)) rfl rfl rfl rfl ?_
    refine r_call rfl rfl rfl (by kernel_rfl) rfl (fun w hw => by exact hex1_30 n hn w) ?_
    refine r_addTx (l := [114, 101, 108, 101, 97, 115, 101, 32]) (m := [hexC n]) rfl rfl rfl (by simp only [List.length_cons, List.length_nil]; omega) ?_
    refine r_lit (sz := 1) (pv := [(0, txV ([114, 101, 108, 101, 97, 115, 101, 32] ++ [hexC n]))]) (cells := #[txV ([114, 101, 108, 101, 97, 115, 101, 32] ++ [hexC n])]) rfl rfl rfl rfl rfl rfl (by kernel_rfl) rfl (fun b17 => ?_) (by decide)
    refine r_append (k := 1) (news := [txV ([114, 101, 108, 101, 97, 115, 101, 32] ++ [hexC n])]) (sz := 1) (bytes := 16) rfl rfl rfl rfl rfl rfl (by decide) (fun w hw => own_rd (A := some ⟨b17, 0, none⟩) (m := 1) (c := 1) hw) rfl (fun u hu => by simp at hu; subst hu; rfl) (by omega) (by unfold maxLen; omega) fun A18 c18 => ?_
    refine r_nilCheck rfl rfl ?_
    refine r_fieldAddr (off := 0) (o' := 0) rfl rfl rfl rfl ?_
    refine r_store (m := 1) (cs' := #[.slice A18 (xs.length + 1) c18]) rfl rfl rfl rfl (by show 0 + 1 ≤ 1; decide) rfl rfl ?_
    refine r_nil ?_
    exact r_done0 (.inr rfl) rfl  fun w hw => ⟨(A18, c18), rfl, trivial, by
      rw [evT_false, pres_snoc]
      have h2 : Sat _ _ [.blk b (.cells #[.slice A18 (xs.length + 1) c18] 46 (0, 0)), .own 9 1 (.slice A18 (xs.length + 1) c18) (xs.length + 1) (xs.map txV ++ [txV ([114, 101, 108, 101, 97, 115, 101, 32] ++ [hexC n])])] w := hw.sub
      exact h2⟩
  · refine enterS Tryd.func21 rfl rfl rfl hS ?_
    refine r_seq ?_
    refine r_region ?_
    refine r_boxV (cs := #[.int .i64 (n : Int), .bool true]) rfl rfl fun b3 => ?_
    refine r_nil ?_
    refine r_tn ?_
    refine r_seq ?_
    refine r_region ?_
    refine r_assign rfl rfl ?_
    refine r_nil ?_
    refine r_tn ?_
    refine r_seq ?_
    refine r_seq ?_
    refine r_region ?_
    refine r_fieldAddr (off := 1) (o' := 1) rfl rfl rfl rfl ?_
    refine r_load1 (v := .bool true) rfl rfl rfl rfl ?_
    refine r_nil ?_
    refine r_tn ?_
    refine r_cond_t rfl ?_
    refine r_region ?_
    refine r_assign rfl rfl ?_
    refine r_nil ?_
    refine r_tn ?_
    refine r_mixedD { xb := [], rb := [b], rs := [11], fs := [], acs := [15, 17] } (by kernel_rfl) (by kernel_rfl) (fun w hw k hk => by
      simp only [List.mem_cons, List.not_mem_nil, or_false] at hk
      rcases hk with rfl <;> exact Sat.lt hw) ?_
    refine r_move rfl rfl ?_
    refine r_move rfl rfl ?_
    refine r_nilCheck rfl rfl ?_
    refine r_fieldAddr (off := 0) (o' := 0) rfl rfl rfl rfl ?_
    refine r_load1 (v := .slice A xs.length c) rfl rfl rfl rfl ?_
    refine r_move rfl rfl ?_
    refine r_fieldAddr (off := 0) (o' := 0) rfl rfl rfl rfl ?_
    refine r_load1 (v := .int .i64 (n : Int)) rfl rfl rfl rfl ?_
    refine r_call rfl rfl rfl (by kernel_rfl) rfl (fun w hw => by exact hex1_30 n hn w) ?_
    refine r_addTx (l := [112, 114, 101, 115, 115, 32]) (m := [hexC n]) rfl rfl rfl (by simp only [List.length_cons, List.length_nil]; omega) ?_
    refine r_lit (sz := 1) (pv := [(0, txV ([112, 114, 101, 115, 115, 32] ++ [hexC n]))]) (cells := #[txV ([112, 114, 101, 115, 115, 32] ++ [hexC n])]) rfl rfl rfl rfl rfl rfl (by kernel_rfl) rfl (fun b17 => ?_) (by decide)
    refine r_append (k := 1) (news := [txV ([112, 114, 101, 115, 115, 32] ++ [hexC n])]) (sz := 1) (bytes := 16) rfl rfl rfl rfl rfl rfl (by decide) (fun w hw => own_rd (A := some ⟨b17, 0, none⟩) (m := 1) (c := 1) hw) rfl (fun u hu => by simp at hu; subst hu; rfl) (by omega) (by unfold maxLen; omega) fun A18 c18 => ?_
    refine r_nilCheck rfl rfl ?_
    refine r_fieldAddr (off := 0) (o' := 0) rfl rfl rfl rfl ?_
    refine r_store (m := 1) (cs' := #[.slice A18 (xs.length + 1) c18]) rfl rfl rfl rfl (by show 0 + 1 ≤ 1; decide) rfl rfl ?_
    refine r_nil ?_
    exact r_done0 (.inr rfl) rfl  fun w hw => ⟨(A18, c18), rfl, trivial, by
      rw [evT_true, pres_snoc]
      have h2 : Sat _ _ [.blk b (.cells #[.slice A18 (xs.length + 1) c18] 46 (0, 0)), .own 9 1 (.slice A18 (xs.length + 1) c18) (xs.length + 1) (xs.map txV ++ [txV ([112, 114, 101, 115, 115, 32] ++ [hexC n])])] w := hw.sub
      exact h2⟩

theorem each30 (b : Nat) (xs : List (List UInt8)) (A : Option Addr) (c : Nat) (f : List Ev) (Af : Option Addr) (cf : Nat) (hk9 : ∀ e ∈ f, keyOK e) (hlen : xs.length ≤ 50000000 ∧ f.length ≤ 50000000) (S : List Nat) (w : World) (hS : Sat w S (PRes b xs A c) w) (hW : ∀ X w1, Sat w S X w1 → Rd w1 Af (evsL f)) :
    Calls Tryd.prog 20 #[.slice Af f.length cf, .func (.func 21) #[.pointer (some ⟨b, 0, none⟩)] #[]] w fun r w' => ∃ i : Option Addr × Nat, r = .returned (.tuple #[]) ∧ True ∧ Sat w S (PRes b (xs ++ f.map evT) i.1 i.2) w' := by
  refine enterS Tryd.func20 rfl rfl rfl hS ?_
  refine r_seq ?_
  refine r_region ?_
  refine r_move rfl rfl ?_
  refine r_len rfl rfl rfl ?_
  refine r_move rfl rfl ?_
  refine r_nil ?_
  refine r_tn ?_
  refine r_block ?_
  refine r_loop2 (fun k A c => [(1, .func (.func 21) #[.pointer (some ⟨b, 0, none⟩)] #[]), (6, .slice Af f.length cf), (7, .int .i64 (f.length : Int)), (8, .int .i64 (k : Int))]) (fun k A c => PRes b (xs ++ (f.take k).map evT) A c) (fun k A c => k ≤ f.length) f.length 0 A c (by omega) ⟨rfl, rfl, rfl, rfl, trivial⟩ (fun w hw => by rw [List.take_zero, List.map_nil, List.append_nil]; exact hw) fun k A c hk => ?_
  refine r_seq ?_
  refine r_region ?_
  refine r_lss rfl rfl rfl rfl ?_
  refine r_nil ?_
  refine r_tn ?_
  refine r_seq ?_
  refine r_cond rfl (fun hc => ?_) (fun hc => ?_)
  · refine r_skip ?_
    refine r_tn ?_
    refine r_seq ?_
    refine r_block ?_
    refine r_seq ?_
    refine r_region ?_
    have hk2 : k < f.length := by have h := of_decide_eq_true hc; omega
    clear hc
    obtain ⟨b1, o1, rfl⟩ := ev_some (hW _ _ hS) hk2
    refine r_indexSl (sz := 2) (o' := o1 + k * 2) rfl rfl rfl rfl rfl (by omega) (by omega) (by omega) ?_
    refine r_loadRd (m := 2) (vs := [.int .i64 (f[k]).1, .bool (f[k]).2]) rfl rfl rfl rfl rfl (fun w1 hw => ev_rd (hW _ w1 hw) hk2) ?_
    refine r_allocV (cs := #[.int .i64 0, .bool false]) (by kernel_rfl) rfl fun b5 => ?_
    refine r_storeV (vs := #[.int .i64 (f[k]).1, .bool (f[k]).2]) rfl rfl rfl rfl rfl rfl ?_
    refine r_nil ?_
    refine r_tn ?_
    refine r_region ?_
    refine r_move rfl rfl ?_
    refine r_loadV rfl rfl rfl rfl rfl ?_
    refine r_callm1 (ι := Option Addr × Nat) (v := fun _ => .tuple #[]) (A' := fun j => PRes b ((xs ++ (f.take k).map evT) ++ [evT f[k]]) j.1 j.2) (φ := fun _ => True) (A := PRes b (xs ++ (f.take k).map evT) A c) (G := [.blk b5 (.cells #[.int .i64 (f[k]).1, .bool (f[k]).2] 32 (0, 0))]) (fs := [.pointer (some ⟨b, 0, none⟩)]) (cs := []) (List.perm_append_comm (l₁ := [_])) rfl rfl rfl (by kernel_rfl) rfl (fun w1 hw hs => pevent30 b (xs ++ (f.take k).map evT) A c f[k] (hk9 _ (List.getElem_mem hk2)) (by rw [List.length_append, List.length_map, List.length_take]; omega) _ w1 hs) ?_
    rintro ⟨A14, c14⟩ _
    refine r_nil ?_
    refine r_bn ?_
    refine r_tn ?_
    refine r_region ?_
    refine r_add rfl rfl rfl (w64 (by omega)) ?_
    refine r_move rfl rfl ?_
    refine r_nil ?_
    refine r_tn ?_
    exact r_again2 (k + 1) A14 c14 (by omega) (by omega) ⟨rfl, rfl, rfl, rfl, trivial⟩ (fun w hw => by rw [takeE_snoc hk2, ← List.append_assoc]; exact hw.sub)
  · refine r_exit ?_
    refine r_te ?_
    refine r_te ?_
    refine r_be ?_
    have hk3 : k = f.length := by have h := of_decide_eq_false hc; omega
    subst hk3
    exact r_done0 (.inr rfl) rfl  fun w hw => ⟨(A, c), rfl, trivial, by rw [List.take_length] at hw; exact hw⟩

theorem commandsF30 (fs : List (List Ev)) (hl100 : fs.length ≤ 100) (hfr : ∀ f ∈ fs, okF f) (A : Option Addr) (c : Nat) (hv1 : List Value) (w : World) (hA : Rd w A hv1) (hF1 : FrRd w hv1 fs) (hG : Glob30 w) :
    Calls Tryd.prog 10 #[.slice A fs.length c] w fun e w' => ∃ i : Option Addr × Nat, e = .returned (.slice i.1 (cmdsL fs).length i.2) ∧ True ∧ Sat w [] [.own 9 1 (.slice i.1 (cmdsL fs).length i.2) (cmdsL fs).length ((cmdsL fs).map txV)] w' := by
  refine enter Tryd.func10 rfl rfl rfl ?_
  refine r_seq ?_
  refine r_region ?_
  refine r_assign rfl rfl ?_
  refine r_nil ?_
  refine r_tn ?_
  refine r_seq ?_
  refine r_region ?_
  refine r_allocV (cs := #[.slice none 0 0]) (by kernel_rfl) rfl fun b6 => ?_
  refine r_assign rfl rfl ?_
  refine r_nil ?_
  refine r_tn ?_
  refine r_seq ?_
  refine r_seq ?_
  refine r_region ?_
  refine r_assign rfl rfl ?_
  refine r_nil ?_
  refine r_tn ?_
  refine r_block ?_
  refine Run.ownNil 9 1 ?_
  refine r_loop3 (fun i (os : List (List UInt8)) A3 c3 => [(0, .slice A fs.length c), (3, .pointer (some ⟨b6, 0, none⟩)), (4, .int .i64 (i : Int))]) (fun i (os : List (List UInt8)) A3 c3 => PRes b6 os A3 c3) (fun i os A3 c3 => i ≤ fs.length ∧ os.length ≤ 52 * i ∧ os ++ cmdsL (fs.drop i) = cmdsL fs) fs.length 0 [] none 0 ⟨by omega, by simp, rfl⟩ ⟨rfl, rfl, rfl, trivial⟩ (fun w hw => by have h2 : Sat _ _ [.blk b6 (.cells #[.slice none 0 0] 46 (0, 0)), .own 9 1 (.slice none 0 0) 0 []] w := hw.sub; exact h2) fun i os A3 c3 hp => ?_
  obtain ⟨hi, hol, hos⟩ := hp
  refine r_seq ?_
  refine r_seq ?_
  refine r_region ?_
  refine r_move rfl rfl ?_
  refine r_move rfl rfl ?_
  refine r_len rfl rfl rfl ?_
  refine r_lss (p := decide (i < fs.length)) rfl rfl rfl (decide_eq_decide.2 ⟨fun _ => by omega, fun _ => by omega⟩) ?_
  refine r_nil ?_
  refine r_tn ?_
  refine r_cond rfl (fun hc => ?_) (fun hc => ?_)
  · refine r_skip ?_
    refine r_tn ?_
    refine r_block ?_
    refine r_seq ?_
    refine r_region ?_
    have hi2 : i < fs.length := by have h := of_decide_eq_true hc; omega
    clear hc
    obtain ⟨A1, c1, e1, r1⟩ := hF1.2 i hi2
    obtain ⟨bA, oA, rfl⟩ := rd_some hA e1
    refine r_move rfl rfl ?_
    refine r_move rfl rfl ?_
    refine r_indexSl (sz := 1) (o' := oA + i) rfl rfl rfl rfl rfl (by omega) (by omega) (by omega) ?_
    refine r_loadC (p := ⟨bA, oA + i, none⟩) (v := .slice A1 fs[i].length c1) rfl rfl rfl (fun w hw => (hA.keep hw).cell e1 rfl) ?_
    refine r_move rfl rfl ?_
    refine r_makeFunc (fs := [.pointer (some ⟨b6, 0, none⟩)]) (cs := []) rfl rfl rfl ?_
    refine r_callm (ι := Option Addr × Nat) (v := fun _ => .tuple #[]) (A' := fun j => PRes b6 (os ++ (fs[i]'hi2).map evT) j.1 j.2) (φ := fun _ => True) (A := PRes b6 os A3 c3) (G := []) (permNil _) rfl rfl rfl (by kernel_rfl) rfl (fun w1 hw hs => each30 b6 os A3 c3 (fs[i]'hi2) A1 c1 (fun e he => (hfr _ (List.getElem_mem hi2)).2 e he) (by have h1 := (hfr _ (List.getElem_mem hi2)).1; omega) _ w1 hs (fun X w2 h => r1.keep (after_call hw h))) ?_
    rintro ⟨A7, c7⟩ _
    rw [List.append_nil]
    refine r_nil ?_
    refine r_tn ?_
    refine r_seq ?_
    refine r_region ?_
    refine r_assign rfl rfl ?_
    refine r_nil ?_
    refine r_tn ?_
    refine r_seq ?_
    refine r_block ?_
    refine r_loopN (fun n => [(0, .slice (some ⟨bA, oA, none⟩) fs.length c), (3, .pointer (some ⟨b6, 0, none⟩)), (4, .int .i64 (i : Int)), (5, .int .i64 (n : Int))]) (fun n => PRes b6 (os ++ (fs[i]'hi2).map evT) A7 c7) (fun n => 1 ≤ n ∧ i + n ≤ fs.length ∧ ∀ j (h : i + j < fs.length), 1 ≤ j → j < n → fs[i + j] = []) fs.length 1 ⟨by omega, by omega, fun j h h1 h2 => by omega⟩ ⟨rfl, rfl, rfl, rfl, trivial⟩ (fun w hw => hw) fun n hn => ?_
    obtain ⟨hn1, hin, hemp⟩ := hn
    refine r_seq ?_
    refine r_seq ?_
    refine r_region ?_
    refine r_move rfl rfl ?_
    refine r_move rfl rfl ?_
    refine r_add rfl rfl rfl (w64 (by omega)) ?_
    refine r_move rfl rfl ?_
    refine r_len rfl rfl rfl ?_
    refine r_lss (p := decide (i + n < fs.length)) rfl rfl rfl (decide_eq_decide.2 ⟨fun _ => by omega, fun _ => by omega⟩) ?_
    refine r_move rfl rfl ?_
    refine r_split 24 rfl (fun hb24 => ?_) (fun hb24 => ?_)
    · refine r_go rfl rfl ?_
      have hin2 : i + n < fs.length := of_decide_eq_true hb24
      obtain ⟨A2, c2, e2, r2⟩ := hF1.2 (i + n) hin2
      refine r_move rfl rfl ?_
      refine r_go rfl rfl ?_
      refine r_move rfl rfl ?_
      refine r_go rfl rfl ?_
      refine r_move rfl rfl ?_
      refine r_go rfl rfl ?_
      refine r_add (r := ((i + n : Nat) : Int)) rfl rfl rfl ((w64 (by omega)).trans (by omega)) ?_
      refine r_go rfl rfl ?_
      refine r_indexSl (sz := 1) (o' := oA + (i + n)) rfl rfl rfl rfl rfl (by omega) (by omega) (by omega) ?_
      refine r_go rfl rfl ?_
      refine r_loadC (p := ⟨bA, oA + (i + n), none⟩) (v := .slice A2 fs[i + n].length c2) rfl rfl rfl (fun w hw => (hA.keep hw).cell e2 rfl) ?_
      refine r_go rfl rfl ?_
      refine r_len rfl rfl rfl ?_
      refine r_go rfl rfl ?_
      refine r_eql (p := decide (fs[i + n].length = 0)) rfl rfl rfl (decide_eq_decide.2 ⟨fun _ => by omega, fun _ => by omega⟩) ?_
      refine r_pick_t rfl rfl rfl ?_
      refine r_move rfl rfl ?_
      refine r_split 34 rfl (fun hb34 => ?_) (fun hb34 => ?_)
      · refine r_go rfl rfl ?_
        refine r_move rfl rfl ?_
        refine r_go rfl rfl ?_
        refine r_lss (p := true) rfl rfl rfl (decide_eq_true (by omega)) ?_
        refine r_pick_t rfl rfl rfl ?_
        refine r_nil ?_
        refine r_tn ?_
        refine r_cond_t rfl ?_
        refine r_skip ?_
        refine r_tn ?_
        refine r_block ?_
        refine r_region ?_
        refine r_move rfl rfl ?_
        refine r_add rfl rfl rfl (w64 (by omega)) ?_
        refine r_assign rfl rfl ?_
        refine r_nil ?_
        refine r_bn ?_
        refine r_tn ?_
        exact r_againN (n + 1) ⟨by omega, by omega, fun j h h1 h2 => by
          by_cases e : j = n
          · subst e; exact List.eq_nil_of_length_eq_zero (of_decide_eq_true hb34)
          · exact hemp j h h1 (by omega)⟩ (by omega) ⟨rfl, rfl, rfl, rfl, trivial⟩ (fun w hw => hw)
      · refine r_pass rfl rfl rfl rfl ?_
        refine r_pass rfl rfl rfl rfl ?_
        refine r_pick_f rfl rfl rfl ?_
        refine r_nil ?_
        refine r_tn ?_
        refine r_cond_f rfl ?_
        refine r_exit ?_
        refine r_te ?_
        refine r_te ?_
        refine r_be ?_
        refine r_tn ?_
        refine r_seq ?_
        have hx : i + n = fs.length ∨ ∃ h : i + n < fs.length, fs[i + n] ≠ [] := by
          first
            | exact .inr ⟨of_decide_eq_true hb24, fun e => of_decide_eq_false hb34 (by rw [e]; rfl)⟩
            | exact .inl (by have h := of_decide_eq_false hb24; omega)
        refine r_cut (ι := Option Addr × Nat) (fun j => ([(0, .slice (some ⟨bA, oA, none⟩) fs.length c), (3, .pointer (some ⟨b6, 0, none⟩)), (4, .int .i64 (i : Int)), (5, .int .i64 (n : Int))], PRes b6 ((os ++ (fs[i]'hi2).map evT) ++ (if (i + n < fs.length ∨ fs[i]'hi2 = [] ∨ 1 < n) then [waitT n] else [])) j.1 j.2)) ?_ ?_
        · refine r_seq ?_
          refine r_region ?_
          refine r_move rfl rfl ?_
          refine r_move rfl rfl ?_
          refine r_add rfl rfl rfl (w64 (by omega)) ?_
          refine r_move rfl rfl ?_
          refine r_len rfl rfl rfl ?_
          refine r_lss (p := decide (i + n < fs.length)) rfl rfl rfl (decide_eq_decide.2 ⟨fun _ => by omega, fun _ => by omega⟩) ?_
          refine r_move rfl rfl ?_
          refine r_split 46 rfl (fun hb46 => ?_) (fun hb46 => ?_)
          · refine r_pass rfl rfl rfl rfl ?_
            refine r_pass rfl rfl rfl rfl ?_
            refine r_pass rfl rfl rfl rfl ?_
            refine r_pass rfl rfl rfl rfl ?_
            refine r_pass rfl rfl rfl rfl ?_
            refine r_pass rfl rfl rfl rfl ?_
            refine r_pick_t rfl rfl rfl ?_
            refine r_move rfl rfl ?_
            refine r_pass rfl rfl rfl rfl ?_
            refine r_pass rfl rfl rfl rfl ?_
            refine r_pick_t rfl rfl rfl ?_
            refine r_nil ?_
            refine r_tn ?_
            refine r_cond_t rfl ?_
            refine r_mixedD { xb := [], rb := [b6], rs := [62], fs := [], acs := [64, 66] } (by kernel_rfl) (by kernel_rfl) (fun w hw k hk => by
              simp only [List.mem_cons, List.not_mem_nil, or_false] at hk
              rcases hk with rfl <;> exact Sat.lt hw) ?_
            refine r_move rfl rfl ?_
            refine r_move rfl rfl ?_
            refine r_nilCheck rfl rfl ?_
            refine r_fieldAddr (off := 0) (o' := 0) rfl rfl rfl rfl ?_
            have hol2 : (os ++ (fs[i]'hi2).map evT).length ≤ 1000000 := by have h1 := (hfr _ (List.getElem_mem hi2)).1; rw [List.length_append, List.length_map]; omega
            refine r_load1 (v := .slice A7 (os ++ (fs[i]'hi2).map evT).length c7) rfl rfl rfl rfl ?_
            refine r_move rfl rfl ?_
            refine r_call rfl rfl rfl (by kernel_rfl) rfl (fun w hw => by exact (by have h := itoa30 (n : Int) (by omega) (by omega) w (hG.keep hw); rw [itoa_nat] at h; exact h)) ?_
            refine r_addTx (l := [119, 97, 105, 116, 32]) (m := Lib.decDigits n) rfl rfl rfl (by have h := dec_len (show n < 18446744073709551616 by omega); simp only [List.length_cons, List.length_nil]; omega) ?_
            rw [waitT_def]
            refine r_lit (sz := 1) (pv := [(0, txV (waitT n))]) (cells := #[txV (waitT n)]) rfl rfl rfl rfl rfl rfl (by kernel_rfl) rfl (fun b66 => ?_) (by decide)
            refine r_append (k := 1) (news := [txV (waitT n)]) (sz := 1) (bytes := 16) rfl rfl rfl rfl rfl rfl (by decide) (fun w hw => own_rd (A := some ⟨b66, 0, none⟩) (m := 1) (c := 1) hw) rfl (fun u hu => by simp at hu; subst hu; rfl) (by omega) (by unfold maxLen; omega) fun A67 c67 => ?_
            refine r_nilCheck rfl rfl ?_
            refine r_fieldAddr (off := 0) (o' := 0) rfl rfl rfl rfl ?_
            refine r_store (m := 1) (cs' := #[.slice A67 ((os ++ (fs[i]'hi2).map evT).length + 1) c67]) rfl rfl rfl rfl (by show 0 + 1 ≤ 1; decide) rfl rfl ?_
            refine r_nil ?_
            refine r_tn ?_
            exact r_at (A67, c67) ⟨rfl, rfl, rfl, rfl, trivial⟩ (fun w hw => by
              rw [if_pos (.inl (of_decide_eq_true hb46)), pres_snoc]
              have h2 : Sat _ _ [.blk b6 (.cells #[.slice A67 ((os ++ (fs[i]'hi2).map evT).length + 1) c67] 46 (0, 0)), .own 9 1 (.slice A67 ((os ++ (fs[i]'hi2).map evT).length + 1) c67) ((os ++ (fs[i]'hi2).map evT).length + 1) ((os ++ (fs[i]'hi2).map evT).map txV ++ [txV (waitT n)])] w := hw.sub
              exact h2)
          · refine r_go rfl rfl ?_
            refine r_move rfl rfl ?_
            refine r_go rfl rfl ?_
            refine r_move rfl rfl ?_
            refine r_go rfl rfl ?_
            refine r_indexSl (sz := 1) (o' := oA + i) rfl rfl rfl rfl rfl (by omega) (by omega) (by omega) ?_
            refine r_go rfl rfl ?_
            refine r_loadC (p := ⟨bA, oA + i, none⟩) (v := .slice A1 fs[i].length c1) rfl rfl rfl (fun w hw => (hA.keep hw).cell e1 rfl) ?_
            refine r_go rfl rfl ?_
            refine r_len rfl rfl rfl ?_
            refine r_go rfl rfl ?_
            refine r_eql (p := decide (fs[i].length = 0)) rfl rfl rfl (decide_eq_decide.2 ⟨fun _ => by omega, fun _ => by omega⟩) ?_
            refine r_pick_f rfl rfl rfl ?_
            refine r_move rfl rfl ?_
            refine r_split 54 rfl (fun hb54 => ?_) (fun hb54 => ?_)
            · refine r_pass rfl rfl rfl rfl ?_
              refine r_pass rfl rfl rfl rfl ?_
              refine r_pick_t rfl rfl rfl ?_
              refine r_nil ?_
              refine r_tn ?_
              refine r_cond_t rfl ?_
              refine r_mixedD { xb := [], rb := [b6], rs := [62], fs := [], acs := [64, 66] } (by kernel_rfl) (by kernel_rfl) (fun w hw k hk => by
                simp only [List.mem_cons, List.not_mem_nil, or_false] at hk
                rcases hk with rfl <;> exact Sat.lt hw) ?_
              refine r_move rfl rfl ?_
              refine r_move rfl rfl ?_
              refine r_nilCheck rfl rfl ?_
              refine r_fieldAddr (off := 0) (o' := 0) rfl rfl rfl rfl ?_
              have hol2 : (os ++ (fs[i]'hi2).map evT).length ≤ 1000000 := by have h1 := (hfr _ (List.getElem_mem hi2)).1; rw [List.length_append, List.length_map]; omega
              refine r_load1 (v := .slice A7 (os ++ (fs[i]'hi2).map evT).length c7) rfl rfl rfl rfl ?_
              refine r_move rfl rfl ?_
              refine r_call rfl rfl rfl (by kernel_rfl) rfl (fun w hw => by exact (by have h := itoa30 (n : Int) (by omega) (by omega) w (hG.keep hw); rw [itoa_nat] at h; exact h)) ?_
              refine r_addTx (l := [119, 97, 105, 116, 32]) (m := Lib.decDigits n) rfl rfl rfl (by have h := dec_len (show n < 18446744073709551616 by omega); simp only [List.length_cons, List.length_nil]; omega) ?_
              rw [waitT_def]
              refine r_lit (sz := 1) (pv := [(0, txV (waitT n))]) (cells := #[txV (waitT n)]) rfl rfl rfl rfl rfl rfl (by kernel_rfl) rfl (fun b66 => ?_) (by decide)
              refine r_append (k := 1) (news := [txV (waitT n)]) (sz := 1) (bytes := 16) rfl rfl rfl rfl rfl rfl (by decide) (fun w hw => own_rd (A := some ⟨b66, 0, none⟩) (m := 1) (c := 1) hw) rfl (fun u hu => by simp at hu; subst hu; rfl) (by omega) (by unfold maxLen; omega) fun A67 c67 => ?_
              refine r_nilCheck rfl rfl ?_
              refine r_fieldAddr (off := 0) (o' := 0) rfl rfl rfl rfl ?_
              refine r_store (m := 1) (cs' := #[.slice A67 ((os ++ (fs[i]'hi2).map evT).length + 1) c67]) rfl rfl rfl rfl (by show 0 + 1 ≤ 1; decide) rfl rfl ?_
              refine r_nil ?_
              refine r_tn ?_
              exact r_at (A67, c67) ⟨rfl, rfl, rfl, rfl, trivial⟩ (fun w hw => by
                rw [if_pos (.inr (.inl (List.eq_nil_of_length_eq_zero (of_decide_eq_true hb54)))), pres_snoc]
                have h2 : Sat _ _ [.blk b6 (.cells #[.slice A67 ((os ++ (fs[i]'hi2).map evT).length + 1) c67] 46 (0, 0)), .own 9 1 (.slice A67 ((os ++ (fs[i]'hi2).map evT).length + 1) c67) ((os ++ (fs[i]'hi2).map evT).length + 1) ((os ++ (fs[i]'hi2).map evT).map txV ++ [txV (waitT n)])] w := hw.sub
                exact h2)
            · refine r_go rfl rfl ?_
              refine r_move rfl rfl ?_
              refine r_go rfl rfl ?_
              refine r_gtr (p := decide (1 < n)) rfl rfl rfl (decide_eq_decide.2 ⟨fun _ => by omega, fun _ => by omega⟩) ?_
              refine r_pick_f rfl rfl rfl ?_
              refine r_nil ?_
              refine r_tn ?_
              refine r_cond rfl (fun hc => ?_) (fun hc => ?_)
              · refine r_mixedD { xb := [], rb := [b6], rs := [62], fs := [], acs := [64, 66] } (by kernel_rfl) (by kernel_rfl) (fun w hw k hk => by
                  simp only [List.mem_cons, List.not_mem_nil, or_false] at hk
                  rcases hk with rfl <;> exact Sat.lt hw) ?_
                refine r_move rfl rfl ?_
                refine r_move rfl rfl ?_
                refine r_nilCheck rfl rfl ?_
                refine r_fieldAddr (off := 0) (o' := 0) rfl rfl rfl rfl ?_
                have hol2 : (os ++ (fs[i]'hi2).map evT).length ≤ 1000000 := by have h1 := (hfr _ (List.getElem_mem hi2)).1; rw [List.length_append, List.length_map]; omega
                refine r_load1 (v := .slice A7 (os ++ (fs[i]'hi2).map evT).length c7) rfl rfl rfl rfl ?_
                refine r_move rfl rfl ?_
                refine r_call rfl rfl rfl (by kernel_rfl) rfl (fun w hw => by exact (by have h := itoa30 (n : Int) (by omega) (by omega) w (hG.keep hw); rw [itoa_nat] at h; exact h)) ?_
                refine r_addTx (l := [119, 97, 105, 116, 32]) (m := Lib.decDigits n) rfl rfl rfl (by have h := dec_len (show n < 18446744073709551616 by omega); simp only [List.length_cons, List.length_nil]; omega) ?_
                rw [waitT_def]
                refine r_lit (sz := 1) (pv := [(0, txV (waitT n))]) (cells := #[txV (waitT n)]) rfl rfl rfl rfl rfl rfl (by kernel_rfl) rfl (fun b66 => ?_) (by decide)
                refine r_append (k := 1) (news := [txV (waitT n)]) (sz := 1) (bytes := 16) rfl rfl rfl rfl rfl rfl (by decide) (fun w hw => own_rd (A := some ⟨b66, 0, none⟩) (m := 1) (c := 1) hw) rfl (fun u hu => by simp at hu; subst hu; rfl) (by omega) (by unfold maxLen; omega) fun A67 c67 => ?_
                refine r_nilCheck rfl rfl ?_
                refine r_fieldAddr (off := 0) (o' := 0) rfl rfl rfl rfl ?_
                refine r_store (m := 1) (cs' := #[.slice A67 ((os ++ (fs[i]'hi2).map evT).length + 1) c67]) rfl rfl rfl rfl (by show 0 + 1 ≤ 1; decide) rfl rfl ?_
                refine r_nil ?_
                refine r_tn ?_
                exact r_at (A67, c67) ⟨rfl, rfl, rfl, rfl, trivial⟩ (fun w hw => by
                  rw [if_pos (.inr (.inr (of_decide_eq_true hc))), pres_snoc]
                  have h2 : Sat _ _ [.blk b6 (.cells #[.slice A67 ((os ++ (fs[i]'hi2).map evT).length + 1) c67] 46 (0, 0)), .own 9 1 (.slice A67 ((os ++ (fs[i]'hi2).map evT).length + 1) c67) ((os ++ (fs[i]'hi2).map evT).length + 1) ((os ++ (fs[i]'hi2).map evT).map txV ++ [txV (waitT n)])] w := hw.sub
                  exact h2)
              · refine r_skip ?_
                refine r_tn ?_
                exact r_at (A7, c7) ⟨rfl, rfl, rfl, rfl, trivial⟩ (fun w hw => by
                  rw [if_neg (fun h => by
                    rcases h with h | h | h
                    · exact of_decide_eq_false hb46 h
                    · exact of_decide_eq_false hb54 (by rw [h]; rfl)
                    · exact of_decide_eq_false hc h), List.append_nil]
                  exact hw)
        rintro ⟨A9, c9⟩
        refine r_region ?_
        refine r_move rfl rfl ?_
        refine r_move rfl rfl ?_
        refine r_add (r := ((i + n : Nat) : Int)) rfl rfl rfl ((w64 (by omega)).trans (by omega)) ?_
        refine r_assign rfl rfl ?_
        refine r_nil ?_
        refine r_bn ?_
        refine r_tn ?_
        exact r_again3 (i + n) ((os ++ (fs[i]'hi2).map evT) ++ (if (i + n < fs.length ∨ fs[i]'hi2 = [] ∨ 1 < n) then [waitT n] else [])) A9 c9 ⟨hin, by
          have h1 := (hfr _ (List.getElem_mem hi2)).1
          rw [List.length_append, List.length_append, List.length_map]
          split <;> simp only [List.length_cons, List.length_nil] <;> omega, by rw [← hos, cmds_step hi2 hn1 hin hemp hx, List.append_assoc, List.append_assoc]⟩ (by omega) ⟨rfl, rfl, rfl, trivial⟩ (fun w hw => hw)
    · refine r_pass rfl rfl rfl rfl ?_
      refine r_pass rfl rfl rfl rfl ?_
      refine r_pass rfl rfl rfl rfl ?_
      refine r_pass rfl rfl rfl rfl ?_
      refine r_pass rfl rfl rfl rfl ?_
      refine r_pass rfl rfl rfl rfl ?_
      refine r_pass rfl rfl rfl rfl ?_
      refine r_pass rfl rfl rfl rfl ?_
      refine r_pick_f rfl rfl rfl ?_
      refine r_move rfl rfl ?_
      refine r_pass rfl rfl rfl rfl ?_
      refine r_pass rfl rfl rfl rfl ?_
      refine r_pick_f rfl rfl rfl ?_
      refine r_nil ?_
      refine r_tn ?_
      refine r_cond_f rfl ?_
      refine r_exit ?_
      refine r_te ?_
      refine r_te ?_
      refine r_be ?_
      refine r_tn ?_
      refine r_seq ?_
      have hx : i + n = fs.length ∨ ∃ h : i + n < fs.length, fs[i + n] ≠ [] := by
        first
          | exact .inr ⟨of_decide_eq_true hb24, fun e => of_decide_eq_false hb34 (by rw [e]; rfl)⟩
          | exact .inl (by have h := of_decide_eq_false hb24; omega)
      refine r_cut (ι := Option Addr × Nat) (fun j => ([(0, .slice (some ⟨bA, oA, none⟩) fs.length c), (3, .pointer (some ⟨b6, 0, none⟩)), (4, .int .i64 (i : Int)), (5, .int .i64 (n : Int))], PRes b6 ((os ++ (fs[i]'hi2).map evT) ++ (if (i + n < fs.length ∨ fs[i]'hi2 = [] ∨ 1 < n) then [waitT n] else [])) j.1 j.2)) ?_ ?_
      · refine r_seq ?_
        refine r_region ?_
        refine r_move rfl rfl ?_
        refine r_move rfl rfl ?_
        refine r_add rfl rfl rfl (w64 (by omega)) ?_
        refine r_move rfl rfl ?_
        refine r_len rfl rfl rfl ?_
        refine r_lss (p := decide (i + n < fs.length)) rfl rfl rfl (decide_eq_decide.2 ⟨fun _ => by omega, fun _ => by omega⟩) ?_
        refine r_move rfl rfl ?_
        refine r_split 46 rfl (fun hb46 => ?_) (fun hb46 => ?_)
        · refine r_pass rfl rfl rfl rfl ?_
          refine r_pass rfl rfl rfl rfl ?_
          refine r_pass rfl rfl rfl rfl ?_
          refine r_pass rfl rfl rfl rfl ?_
          refine r_pass rfl rfl rfl rfl ?_
          refine r_pass rfl rfl rfl rfl ?_
          refine r_pick_t rfl rfl rfl ?_
          refine r_move rfl rfl ?_
          refine r_pass rfl rfl rfl rfl ?_
          refine r_pass rfl rfl rfl rfl ?_
          refine r_pick_t rfl rfl rfl ?_
          refine r_nil ?_
          refine r_tn ?_
          refine r_cond_t rfl ?_
          refine r_mixedD { xb := [], rb := [b6], rs := [62], fs := [], acs := [64, 66] } (by kernel_rfl) (by kernel_rfl) (fun w hw k hk => by
            simp only [List.mem_cons, List.not_mem_nil, or_false] at hk
            rcases hk with rfl <;> exact Sat.lt hw) ?_
          refine r_move rfl rfl ?_
          refine r_move rfl rfl ?_
          refine r_nilCheck rfl rfl ?_
          refine r_fieldAddr (off := 0) (o' := 0) rfl rfl rfl rfl ?_
          have hol2 : (os ++ (fs[i]'hi2).map evT).length ≤ 1000000 := by have h1 := (hfr _ (List.getElem_mem hi2)).1; rw [List.length_append, List.length_map]; omega
          refine r_load1 (v := .slice A7 (os ++ (fs[i]'hi2).map evT).length c7) rfl rfl rfl rfl ?_
          refine r_move rfl rfl ?_
          refine r_call rfl rfl rfl (by kernel_rfl) rfl (fun w hw => by exact (by have h := itoa30 (n : Int) (by omega) (by omega) w (hG.keep hw); rw [itoa_nat] at h; exact h)) ?_
          refine r_addTx (l := [119, 97, 105, 116, 32]) (m := Lib.decDigits n) rfl rfl rfl (by have h := dec_len (show n < 18446744073709551616 by omega); simp only [List.length_cons, List.length_nil]; omega) ?_
          rw [waitT_def]
          refine r_lit (sz := 1) (pv := [(0, txV (waitT n))]) (cells := #[txV (waitT n)]) rfl rfl rfl rfl rfl rfl (by kernel_rfl) rfl (fun b66 => ?_) (by decide)
          refine r_append (k := 1) (news := [txV (waitT n)]) (sz := 1) (bytes := 16) rfl rfl rfl rfl rfl rfl (by decide) (fun w hw => own_rd (A := some ⟨b66, 0, none⟩) (m := 1) (c := 1) hw) rfl (fun u hu => by simp at hu; subst hu; rfl) (by omega) (by unfold maxLen; omega) fun A67 c67 => ?_
          refine r_nilCheck rfl rfl ?_
          refine r_fieldAddr (off := 0) (o' := 0) rfl rfl rfl rfl ?_
          refine r_store (m := 1) (cs' := #[.slice A67 ((os ++ (fs[i]'hi2).map evT).length + 1) c67]) rfl rfl rfl rfl (by show 0 + 1 ≤ 1; decide) rfl rfl ?_
          refine r_nil ?_
          refine r_tn ?_
          exact r_at (A67, c67) ⟨rfl, rfl, rfl, rfl, trivial⟩ (fun w hw => by
            rw [if_pos (.inl (of_decide_eq_true hb46)), pres_snoc]
            have h2 : Sat _ _ [.blk b6 (.cells #[.slice A67 ((os ++ (fs[i]'hi2).map evT).length + 1) c67] 46 (0, 0)), .own 9 1 (.slice A67 ((os ++ (fs[i]'hi2).map evT).length + 1) c67) ((os ++ (fs[i]'hi2).map evT).length + 1) ((os ++ (fs[i]'hi2).map evT).map txV ++ [txV (waitT n)])] w := hw.sub
            exact h2)
        · refine r_go rfl rfl ?_
          refine r_move rfl rfl ?_
          refine r_go rfl rfl ?_
          refine r_move rfl rfl ?_
          refine r_go rfl rfl ?_
          refine r_indexSl (sz := 1) (o' := oA + i) rfl rfl rfl rfl rfl (by omega) (by omega) (by omega) ?_
          refine r_go rfl rfl ?_
          refine r_loadC (p := ⟨bA, oA + i, none⟩) (v := .slice A1 fs[i].length c1) rfl rfl rfl (fun w hw => (hA.keep hw).cell e1 rfl) ?_
          refine r_go rfl rfl ?_
          refine r_len rfl rfl rfl ?_
          refine r_go rfl rfl ?_
          refine r_eql (p := decide (fs[i].length = 0)) rfl rfl rfl (decide_eq_decide.2 ⟨fun _ => by omega, fun _ => by omega⟩) ?_
          refine r_pick_f rfl rfl rfl ?_
          refine r_move rfl rfl ?_
          refine r_split 54 rfl (fun hb54 => ?_) (fun hb54 => ?_)
          · refine r_pass rfl rfl rfl rfl ?_
            refine r_pass rfl rfl rfl rfl ?_
            refine r_pick_t rfl rfl rfl ?_
            refine r_nil ?_
            refine r_tn ?_
            refine r_cond_t rfl ?_
            refine r_mixedD { xb := [], rb := [b6], rs := [62], fs := [], acs := [64, 66] } (by kernel_rfl) (by kernel_rfl) (fun w hw k hk => by
              simp only [List.mem_cons, List.not_mem_nil, or_false] at hk
              rcases hk with rfl <;> exact Sat.lt hw) ?_
            refine r_move rfl rfl ?_
            refine r_move rfl rfl ?_
            refine r_nilCheck rfl rfl ?_
            refine r_fieldAddr (off := 0) (o' := 0) rfl rfl rfl rfl ?_
            have hol2 : (os ++ (fs[i]'hi2).map evT).length ≤ 1000000 := by have h1 := (hfr _ (List.getElem_mem hi2)).1; rw [List.length_append, List.length_map]; omega
            refine r_load1 (v := .slice A7 (os ++ (fs[i]'hi2).map evT).length c7) rfl rfl rfl rfl ?_
            refine r_move rfl rfl ?_
            refine r_call rfl rfl rfl (by kernel_rfl) rfl (fun w hw => by exact (by have h := itoa30 (n : Int) (by omega) (by omega) w (hG.keep hw); rw [itoa_nat] at h; exact h)) ?_
            refine r_addTx (l := [119, 97, 105, 116, 32]) (m := Lib.decDigits n) rfl rfl rfl (by have h := dec_len (show n < 18446744073709551616 by omega); simp only [List.length_cons, List.length_nil]; omega) ?_
            rw [waitT_def]
            refine r_lit (sz := 1) (pv := [(0, txV (waitT n))]) (cells := #[txV (waitT n)]) rfl rfl rfl rfl rfl rfl (by kernel_rfl) rfl (fun b66 => ?_) (by decide)
            refine r_append (k := 1) (news := [txV (waitT n)]) (sz := 1) (bytes := 16) rfl rfl rfl rfl rfl rfl (by decide) (fun w hw => own_rd (A := some ⟨b66, 0, none⟩) (m := 1) (c := 1) hw) rfl (fun u hu => by simp at hu; subst hu; rfl) (by omega) (by unfold maxLen; omega) fun A67 c67 => ?_
            refine r_nilCheck rfl rfl ?_
            refine r_fieldAddr (off := 0) (o' := 0) rfl rfl rfl rfl ?_
            refine r_store (m := 1) (cs' := #[.slice A67 ((os ++ (fs[i]'hi2).map evT).length + 1) c67]) rfl rfl rfl rfl (by show 0 + 1 ≤ 1; decide) rfl rfl ?_
            refine r_nil ?_
            refine r_tn ?_
            exact r_at (A67, c67) ⟨rfl, rfl, rfl, rfl, trivial⟩ (fun w hw => by
              rw [if_pos (.inr (.inl (List.eq_nil_of_length_eq_zero (of_decide_eq_true hb54)))), pres_snoc]
              have h2 : Sat _ _ [.blk b6 (.cells #[.slice A67 ((os ++ (fs[i]'hi2).map evT).length + 1) c67] 46 (0, 0)), .own 9 1 (.slice A67 ((os ++ (fs[i]'hi2).map evT).length + 1) c67) ((os ++ (fs[i]'hi2).map evT).length + 1) ((os ++ (fs[i]'hi2).map evT).map txV ++ [txV (waitT n)])] w := hw.sub
              exact h2)
          · refine r_go rfl rfl ?_
            refine r_move rfl rfl ?_
            refine r_go rfl rfl ?_
            refine r_gtr (p := decide (1 < n)) rfl rfl rfl (decide_eq_decide.2 ⟨fun _ => by omega, fun _ => by omega⟩) ?_
            refine r_pick_f rfl rfl rfl ?_
            refine r_nil ?_
            refine r_tn ?_
            refine r_cond rfl (fun hc => ?_) (fun hc => ?_)
            · refine r_mixedD { xb := [], rb := [b6], rs := [62], fs := [], acs := [64, 66] } (by kernel_rfl) (by kernel_rfl) (fun w hw k hk => by
                simp only [List.mem_cons, List.not_mem_nil, or_false] at hk
                rcases hk with rfl <;> exact Sat.lt hw) ?_
              refine r_move rfl rfl ?_
              refine r_move rfl rfl ?_
              refine r_nilCheck rfl rfl ?_
              refine r_fieldAddr (off := 0) (o' := 0) rfl rfl rfl rfl ?_
              have hol2 : (os ++ (fs[i]'hi2).map evT).length ≤ 1000000 := by have h1 := (hfr _ (List.getElem_mem hi2)).1; rw [List.length_append, List.length_map]; omega
              refine r_load1 (v := .slice A7 (os ++ (fs[i]'hi2).map evT).length c7) rfl rfl rfl rfl ?_
              refine r_move rfl rfl ?_
              refine r_call rfl rfl rfl (by kernel_rfl) rfl (fun w hw => by exact (by have h := itoa30 (n : Int) (by omega) (by omega) w (hG.keep hw); rw [itoa_nat] at h; exact h)) ?_
              refine r_addTx (l := [119, 97, 105, 116, 32]) (m := Lib.decDigits n) rfl rfl rfl (by have h := dec_len (show n < 18446744073709551616 by omega); simp only [List.length_cons, List.length_nil]; omega) ?_
              rw [waitT_def]
              refine r_lit (sz := 1) (pv := [(0, txV (waitT n))]) (cells := #[txV (waitT n)]) rfl rfl rfl rfl rfl rfl (by kernel_rfl) rfl (fun b66 => ?_) (by decide)
              refine r_append (k := 1) (news := [txV (waitT n)]) (sz := 1) (bytes := 16) rfl rfl rfl rfl rfl rfl (by decide) (fun w hw => own_rd (A := some ⟨b66, 0, none⟩) (m := 1) (c := 1) hw) rfl (fun u hu => by simp at hu; subst hu; rfl) (by omega) (by unfold maxLen; omega) fun A67 c67 => ?_
              refine r_nilCheck rfl rfl ?_
              refine r_fieldAddr (off := 0) (o' := 0) rfl rfl rfl rfl ?_
              refine r_store (m := 1) (cs' := #[.slice A67 ((os ++ (fs[i]'hi2).map evT).length + 1) c67]) rfl rfl rfl rfl (by show 0 + 1 ≤ 1; decide) rfl rfl ?_
              refine r_nil ?_
              refine r_tn ?_
              exact r_at (A67, c67) ⟨rfl, rfl, rfl, rfl, trivial⟩ (fun w hw => by
                rw [if_pos (.inr (.inr (of_decide_eq_true hc))), pres_snoc]
                have h2 : Sat _ _ [.blk b6 (.cells #[.slice A67 ((os ++ (fs[i]'hi2).map evT).length + 1) c67] 46 (0, 0)), .own 9 1 (.slice A67 ((os ++ (fs[i]'hi2).map evT).length + 1) c67) ((os ++ (fs[i]'hi2).map evT).length + 1) ((os ++ (fs[i]'hi2).map evT).map txV ++ [txV (waitT n)])] w := hw.sub
                exact h2)
            · refine r_skip ?_
              refine r_tn ?_
              exact r_at (A7, c7) ⟨rfl, rfl, rfl, rfl, trivial⟩ (fun w hw => by
                rw [if_neg (fun h => by
                  rcases h with h | h | h
                  · exact of_decide_eq_false hb46 h
                  · exact of_decide_eq_false hb54 (by rw [h]; rfl)
                  · exact of_decide_eq_false hc h), List.append_nil]
                exact hw)
      rintro ⟨A9, c9⟩
      refine r_region ?_
      refine r_move rfl rfl ?_
      refine r_move rfl rfl ?_
      refine r_add (r := ((i + n : Nat) : Int)) rfl rfl rfl ((w64 (by omega)).trans (by omega)) ?_
      refine r_assign rfl rfl ?_
      refine r_nil ?_
      refine r_bn ?_
      refine r_tn ?_
      exact r_again3 (i + n) ((os ++ (fs[i]'hi2).map evT) ++ (if (i + n < fs.length ∨ fs[i]'hi2 = [] ∨ 1 < n) then [waitT n] else [])) A9 c9 ⟨hin, by
        have h1 := (hfr _ (List.getElem_mem hi2)).1
        rw [List.length_append, List.length_append, List.length_map]
        split <;> simp only [List.length_cons, List.length_nil] <;> omega, by rw [← hos, cmds_step hi2 hn1 hin hemp hx, List.append_assoc, List.append_assoc]⟩ (by omega) ⟨rfl, rfl, rfl, trivial⟩ (fun w hw => hw)
  · refine r_exit ?_
    refine r_te ?_
    refine r_te ?_
    refine r_be ?_
    refine r_tn ?_
    refine r_seq ?_
    refine r_region ?_
    have hi3 : i = fs.length := by have h : ¬ i < fs.length := of_decide_eq_false hc; omega
    clear hc
    subst hi3
    rw [List.drop_length, cmdsL_nil, List.append_nil] at hos
    subst hos
    refine r_move rfl rfl ?_
    refine r_nilCheck rfl rfl ?_
    refine r_fieldAddr (off := 0) (o' := 0) rfl rfl rfl rfl ?_
    refine r_load1 (v := .slice A3 (cmdsL fs).length c3) rfl rfl rfl rfl ?_
    refine r_assign rfl rfl ?_
    refine r_nil ?_
    refine r_tn ?_
    refine r_ret ?_
    exact r_done1 (.inl rfl) rfl (res_tmp rfl) fun w hw => ⟨(A3, c3), rfl, trivial, hw.sub⟩
end Go.Proofs.YtghjbnbkfohmlaaDoor
