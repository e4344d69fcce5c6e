/-
  Rendering (chapter 24): Hex.
-/
import Derived.Test.YtdkgnnieehidbaaDoorWave24
namespace Go.Proofs.YtdkgnnieehidbaaDoor
open Go Go.RowKit
set_option linter.unusedVariables false
set_option linter.unusedSimpArgs false
set_option maxHeartbeats 2000000
set_option maxRecDepth 4000
attribute [local irreducible] mix

def hexC (k : Nat) : UInt8 := UInt8.ofNat (if k < 10 then 48 + k else 55 + k)
theorem hex_at : ∀ k, k < 16 → (ByteArray.mk #[48, 49, 50, 51, 52, 53, 54, 55, 56, 57, 65, 66, 67, 68, 69, 70])[k]? = some (hexC k) := by decide
/-- the four digits of a number -/
def hexB (p : Nat) : List UInt8 := [hexC (p / 4096 % 16), hexC (p / 256 % 16), hexC (p / 16 % 16), hexC (p % 16)]
def hexK (p k : Nat) : List Int := (List.range 4).map fun j => if 4 - k ≤ j then ((hexC (p / 16 ^ (3 - j) % 16)).toNat : Int) else 0
theorem hexK_zero (p : Nat) : (hexK p 0).map (Value.int .u8) = List.replicate 4 (.int .u8 0) := rfl
theorem hexK_len (p k : Nat) : (hexK p k).length = 4 := by simp [hexK]
theorem hexK_four (p : Nat) : hexK p 4 = [((hexC (p / 4096 % 16)).toNat : Int), ((hexC (p / 256 % 16)).toNat : Int), ((hexC (p / 16 % 16)).toNat : Int), ((hexC (p % 16)).toNat : Int)] := by
  have h : ∀ k, k ≤ 3 → p / 16 ^ 0 = p := fun _ _ => by rw [Nat.pow_zero, Nat.div_one]
  show [((hexC (p / 4096 % 16)).toNat : Int), ((hexC (p / 256 % 16)).toNat : Int), ((hexC (p / 16 % 16)).toNat : Int), ((hexC (p / 16 ^ 0 % 16)).toNat : Int)] = _
  rw [h 0 (by omega)]
theorem hexK_succ (p : Nat) {k : Nat} (hk : k < 4) : hexK p (k + 1) = (hexK p k).set (3 - k) ((hexC (p / 16 ^ k % 16)).toNat : Int) := by
  unfold hexK
  match k, hk with
  | 0, _ => rfl
  | 1, _ => rfl
  | 2, _ => rfl
  | 3, _ => rfl
theorem strOf_fold : ∀ (l : List Int) (b : List UInt8), l.foldl (fun r z => r.push (UInt8.ofNat z.toNat)) (tx b) = tx (b ++ l.map fun z => UInt8.ofNat z.toNat)
  | [], b => by simp
  | z :: l, b => by
    rw [List.foldl_cons, show (tx b).push (UInt8.ofNat z.toNat) = tx (b ++ [UInt8.ofNat z.toNat]) by
      apply ByteArray.ext
      simp [tx], strOf_fold l]
    simp
theorem strOf_tx (l : List Int) : strOf l = tx (l.map fun z => UInt8.ofNat z.toNat) := strOf_fold l []
theorem hex_tx (p : Nat) : strOf (hexK p 4) = tx (hexB p) := by
  rw [strOf_tx, hexK_four]
  have h : ∀ c : UInt8, UInt8.ofNat ((c.toNat : Int)).toNat = c := fun c => by
    show UInt8.ofNat c.toNat = c
    exact UInt8.ofNat_toNat
  simp only [List.map_cons, List.map_nil, h]
  rfl
theorem and15 (q : Nat) (h : q < 65536) : IntKind.i64.wrap ((BitVec.ofInt IntKind.i64.bits ((q : Nat) : Int) &&& BitVec.ofInt IntKind.i64.bits 15).toNat : Int) = ((q % 16 : Nat) : Int) := by
  have e : ∀ z : Nat, z < 65536 → (BitVec.ofInt IntKind.i64.bits (z : Int)).toNat = z := fun z hz => by
    show (BitVec.ofInt 64 (z : Int)).toNat = z
    rw [BitVec.ofInt_natCast, BitVec.toNat_ofNat]
    exact Nat.mod_eq_of_lt (by omega)
  rw [BitVec.toNat_and, e q h, show (BitVec.ofInt IntKind.i64.bits 15).toNat = 2 ^ 4 - 1 from e 15 (by decide), Nat.and_two_pow_sub_one_eq_mod]
  exact w64 (by omega)
theorem shr4w (q : Nat) : ((q : Nat) : Int).fdiv (2 ^ (min ((4 : Int)).toNat IntKind.i64.bits)) = ((q / 16 : Nat) : Int) := by
  rw [show (min ((4 : Int)).toNat IntKind.i64.bits) = 4 from rfl]
  exact (Int.fdiv_eq_ediv_of_nonneg _ (by decide)).trans rfl
attribute [local irreducible] hexK hexC hexB


theorem hex24 (p : Nat) (hp : p < 65536) (w : World) :
    Calls Tryd.prog 41 #[.int .i64 (p : Int), .int .i64 4] w fun e w' => e = .returned (.string (tx (hexB p))) ∧ Sat w [] [] w' := by
  refine enter Tryd.func41 rfl rfl rfl ?_
  refine r_seq ?_
  refine r_region ?_
  refine r_assign rfl rfl ?_
  refine r_nil ?_
  refine r_tn ?_
  refine r_seq ?_
  refine r_seq ?_
  refine r_region ?_
  refine r_move rfl rfl ?_
  refine r_lss (p := false) rfl rfl rfl rfl ?_
  refine r_move rfl rfl ?_
  refine r_go rfl rfl ?_
  refine r_move rfl rfl ?_
  refine r_go rfl rfl ?_
  refine r_gtr (p := false) rfl rfl rfl rfl ?_
  refine r_pick_f rfl rfl rfl ?_
  refine r_move rfl rfl ?_
  refine r_go rfl rfl ?_
  refine r_move rfl rfl ?_
  refine r_go rfl rfl ?_
  refine r_lss (p := false) rfl rfl rfl (decide_eq_false (by omega)) ?_
  refine r_pick_f rfl rfl rfl ?_
  refine r_move rfl rfl ?_
  refine r_go rfl rfl ?_
  refine r_move rfl rfl ?_
  refine r_go rfl rfl ?_
  refine r_gtr (p := false) rfl rfl rfl (decide_eq_false (by omega)) ?_
  refine r_pick_f rfl rfl rfl ?_
  refine r_nil ?_
  refine r_tn ?_
  refine r_cond_f rfl ?_
  refine r_skip ?_
  refine r_tn ?_
  refine r_seq ?_
  refine r_region ?_
  refine r_move rfl rfl ?_
  refine r_makeSlice (m := 4) (sz := 1) (bytes := 1) rfl rfl rfl rfl rfl rfl rfl (by decide) (by decide) (made_one (.int .u8 0) 4) (fun b22 => ?_)
  refine r_assign rfl rfl ?_
  refine r_nil ?_
  refine r_tn ?_
  refine r_seq ?_
  refine r_seq ?_
  refine r_region ?_
  refine r_move rfl rfl ?_
  refine r_move rfl rfl ?_
  refine r_nil ?_
  refine r_tn ?_
  refine r_block ?_
  refine r_loopN (fun k => [(0, .int .i64 ((p / 16 ^ k : Nat) : Int)), (1, .int .i64 4), (5, .slice (some ⟨b22, 0, none⟩) 4 4), (23, .int .i64 4), (24, .int .i64 (k : Int))]) (fun k => [.own 5 1 (.slice (some ⟨b22, 0, none⟩) 4 4) 4 ((hexK p k).map (Value.int .u8))]) (fun k => k ≤ 4) 4 0 (by omega) ⟨by rw [Nat.pow_zero, Nat.div_one]; rfl, rfl, rfl, rfl, rfl, trivial⟩ (fun w hw => by rw [hexK_zero]; have h2 : Sat _ _ [.own 5 1 (.slice (some ⟨b22, 0, none⟩) 4 4) 4 (List.replicate 4 (.int .u8 0))] w := hw.sub; exact h2) fun k hk => ?_
  refine r_seq ?_
  refine r_region ?_
  refine r_lss rfl rfl rfl rfl ?_
  refine r_nil ?_
  refine r_tn ?_
  refine r_seq ?_
  refine r_cond rfl (fun hc => ?_) (fun hc => ?_)
  · refine r_skip ?_
    refine r_tn ?_
    refine r_seq ?_
    refine r_block ?_
    refine r_seq ?_
    refine r_region ?_
    have hk2 : k < 4 := by have h := of_decide_eq_true hc; omega
    clear hc
    obtain ⟨q, hq⟩ : ∃ q, p / 16 ^ k = q := ⟨_, rfl⟩
    have hq2 : q < 65536 := by rw [← hq]; exact Nat.lt_of_le_of_lt (Nat.div_le_self _ _) hp
    rw [hq]
    refine r_move rfl rfl ?_
    refine r_assign rfl rfl ?_
    refine r_nil ?_
    refine r_tn ?_
    refine r_seq ?_
    refine r_region ?_
    refine r_move rfl rfl ?_
    refine r_move rfl rfl ?_
    refine r_sub (r := 3) rfl rfl rfl (by rfl) ?_
    refine r_move rfl rfl ?_
    refine r_sub (r := ((3 - k : Nat) : Int)) rfl rfl rfl ((w64 (by omega)).trans (by omega)) ?_
    refine r_move rfl rfl ?_
    refine r_and (r := ((q % 16 : Nat) : Int)) rfl rfl rfl (and15 q hq2) ?_
    refine r_idxStr (i' := q % 16) (z := hexC (q % 16)) rfl rfl rfl rfl rfl (hex_at _ (Nat.mod_lt _ (by omega))) ?_
    refine r_indexSl (sz := 1) (o' := 3 - k) rfl rfl rfl rfl rfl (by omega) (by omega) (by simp) ?_
    refine r_storeOwn (m := 4) (c := 4) rfl rfl rfl rfl rfl (by omega) ?_
    rw [show ((hexK p k).map (Value.int .u8)).set (3 - k) (.int .u8 ((hexC (q % 16)).toNat : Int)) = ((hexK p k).set (3 - k) ((hexC (q % 16)).toNat : Int)).map (Value.int .u8) by rw [List.map_set]]
    rw [← hq]
    refine r_nil ?_
    refine r_tn ?_
    refine r_region ?_
    refine r_move rfl rfl ?_
    refine r_shr (r := ((p / 16 ^ (k + 1) : Nat) : Int)) rfl rfl rfl (by omega) (by rw [Nat.pow_succ, ← Nat.div_div_eq_div_mul]; exact shr4w _) ?_
    refine r_assign rfl rfl ?_
    refine r_nil ?_
    refine r_bn ?_
    refine r_tn ?_
    refine r_region ?_
    refine r_add rfl rfl rfl (w64 (by omega)) ?_
    refine r_move rfl rfl ?_
    refine r_nil ?_
    refine r_tn ?_
    exact r_againN (k + 1) (by omega) (by omega) ⟨rfl, rfl, rfl, rfl, rfl, trivial⟩ (fun w hw => by rw [hexK_succ p hk2]; exact hw.sub)
  · refine r_exit ?_
    refine r_te ?_
    refine r_te ?_
    refine r_be ?_
    refine r_tn ?_
    refine r_seq ?_
    refine r_region ?_
    have hk3 : k = 4 := by have h := of_decide_eq_false hc; omega
    subst hk3
    refine r_move rfl rfl ?_
    refine r_bytesStr (l := hexK p 4) rfl rfl rfl rfl rfl (hexK_len p 4) (fun w hw => own_rd (A := some ⟨b22, 0, none⟩) (m := 4) (c := 4) hw) ?_
    rw [hex_tx]
    refine r_assign rfl rfl ?_
    refine r_nil ?_
    refine r_tn ?_
    refine r_ret ?_
    exact r_done1 (.inl rfl) rfl (res_tmp rfl) fun w hw => ⟨rfl, hw.clear⟩
end Go.Proofs.YtdkgnnieehidbaaDoor
