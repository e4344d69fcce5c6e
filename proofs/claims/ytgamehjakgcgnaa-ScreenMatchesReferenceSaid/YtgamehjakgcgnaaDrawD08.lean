/-
  Screens (chapter 08): the drawing of a plane.
-/
import Derived.Test.YtgamehjakgcgnaaOps08
namespace Go.Proofs.Ytgamehjakgcgnaa
open Go Go.RowKit
set_option linter.unusedVariables false
set_option linter.unusedSimpArgs false
set_option maxHeartbeats 2000000
set_option maxRecDepth 4000
attribute [local irreducible] mix

def cntB (big : Bool) : Nat := if big then 16 else 8
def nxA (A : Option Addr) (c st : Nat) : Option Addr := if c = st then A else A.map (·.add (st * 1))
/-- where the data of a plane begin -/
def datA (A : Option Addr) (c st : Nat) : Nat → Option Addr
  | 0 => A
  | j + 1 => nxA (datA A c st j) (c - j * st) st
theorem datR {w : World} {A : Option Addr} {c st : Nat} {d : List Int} (hR : Rd w A (d.map (Value.int .u8))) (hmc : d.length ≤ c) : ∀ j, j * st ≤ d.length → Rd w (datA A c st j) ((d.drop (j * st)).map (Value.int .u8))
  | 0, _ => by rw [Nat.zero_mul, List.drop_zero]; exact hR
  | j + 1, h => by
    have e : (j + 1) * st = j * st + st := Nat.succ_mul _ _
    rw [e] at h ⊢
    rw [← List.drop_drop, List.map_drop]
    exact Rd.drop st (datR hR hmc j (by omega)) (by rw [List.length_map, List.length_drop]; omega) (Nat.mul_one st)
theorem datB (A : Option Addr) (c st : Nat) {a : Addr} : ∀ j, datA A c st j = some a → ∃ a0, A = some a0 ∧ a0.block = a.block
  | 0, h => ⟨a, h, rfl⟩
  | j + 1, h => by
    have h : nxA (datA A c st j) (c - j * st) st = some a := h
    unfold nxA at h
    split at h
    · exact datB A c st j h
    · cases hd : datA A c st j with
      | none => rw [hd] at h; cases h
      | some a1 =>
        rw [hd] at h
        obtain ⟨a0, h0, h1⟩ := datB A c st (a := a1) j hd
        refine ⟨a0, h0, ?_⟩
        have h2 : a1.add (st * 1) = a := Option.some.inj h
        rw [h1, ← h2]
        unfold Addr.add
        split <;> first | rfl | (split <;> rfl)
/-- a row that lies below B -/
def RdB (B : Nat) (w : World) (A : Option Addr) (xs : List Value) : Prop := Rd w A xs ∧ ∀ (j : Nat) u, xs[j]? = some u → ∃ a, A = some a ∧ a.block < B
theorem Rd.below {w : World} {A : Option Addr} {xs : List Value} (h : Rd w A xs) : RdB w.heap.size w A xs := ⟨h, fun j u hj => by
  obtain ⟨b, o, e, hc⟩ := h j u hj
  exact ⟨_, e, World.block_lt_of_cell? w ⟨b, o + j, none⟩ hc⟩⟩
theorem RdB.keep {B : Nat} {w w1 : World} {A : Option Addr} {xs : List Value} {S : List Nat} {H : List Res} (h : RdB B w A xs) (hT : ∀ k ∈ S, B ≤ k) (hS : Sat w S H w1) : RdB B w1 A xs := ⟨fun j u hj => by
  obtain ⟨a0, e, hlt⟩ := h.2 j u hj
  refine h.1.keepS hS (fun a ha hm => ?_) j u hj
  rw [e] at ha
  injection ha with ha
  subst ha
  have := hT _ hm
  omega, h.2⟩
theorem datRB {B : Nat} {w : World} {A : Option Addr} {c st : Nat} {d : List Int} (h : RdB B w A (d.map (Value.int .u8))) (hmc : d.length ≤ c) (j : Nat) (hj : j * st ≤ d.length) : RdB B w (datA A c st j) ((d.drop (j * st)).map (Value.int .u8)) := by
  refine ⟨datR h.1 hmc j hj, fun i u hi => ?_⟩
  obtain ⟨b, o, e, _⟩ := datR h.1 hmc j hj i u hi
  obtain ⟨a0, e0, e1⟩ := datB A c st j e
  rw [List.map_drop, List.getElem?_drop] at hi
  obtain ⟨a2, e2, hlt⟩ := h.2 _ u hi
  rw [e0] at e2
  injection e2 with e2
  subst e2
  exact ⟨_, e, by rw [← e1]; exact hlt⟩
/-- the pattern of a plane -/
def sprD (s : Scr) (big clip : Bool) (x y : Nat) (d : List Int) : Nat → Nat → Bool := sprQ (rowsU d big) (cntB big) (x % wd s.hires) (y % ht s.hires) s.hires clip (rowsU d big).length
/-- whether there was a collision -/
def stH (ff : Nat → (Nat → Nat → Bool) → (Nat → Nat → Bool)) (hh : Nat → (Nat → Nat → Bool) → Bool) (P : Nat → Nat → Nat → Bool) (pre : List (Fin 4)) : Bool := (pre.foldl (fun (st : (Nat → Nat → Nat → Bool) × Nat × Bool) x => (setPl st.1 x.val (ff st.2.1 (st.1 x.val)), st.2.1 + 1, st.2.2 || hh st.2.1 (st.1 x.val))) (P, 0, false)).2.2


theorem stH_snoc (ff : Nat → (Nat → Nat → Bool) → (Nat → Nat → Bool)) (hh : Nat → (Nat → Nat → Bool) → Bool) (P : Nat → Nat → Nat → Bool) (pre : List (Fin 4)) (x : Fin 4) : stH ff hh P (pre ++ [x]) = (stH ff hh P pre || hh pre.length ((stP ff P pre).1 x.val)) := by
  have key : ∀ (l : List (Fin 4)) (st : (Nat → Nat → Nat → Bool) × Nat × Bool), ((l.foldl (fun (st : (Nat → Nat → Nat → Bool) × Nat × Bool) x => (setPl st.1 x.val (ff st.2.1 (st.1 x.val)), st.2.1 + 1, st.2.2 || hh st.2.1 (st.1 x.val))) st).1, (l.foldl (fun (st : (Nat → Nat → Nat → Bool) × Nat × Bool) x => (setPl st.1 x.val (ff st.2.1 (st.1 x.val)), st.2.1 + 1, st.2.2 || hh st.2.1 (st.1 x.val))) st).2.1) = l.foldl (fun st x => (setPl st.1 x.val (ff st.2 (st.1 x.val)), st.2 + 1)) (st.1, st.2.1) := by
    intro l
    induction l with
    | nil => intro st; rfl
    | cons x l ih => intro st; rw [List.foldl_cons, List.foldl_cons, ih]
  have k := key pre (P, 0, false)
  have k1 := congrArg Prod.fst k
  have k2 := congrArg Prod.snd k
  have h2 := stP_two ff P pre
  unfold stH
  rw [List.foldl_append]
  show (_ || hh _ (_ : Nat → Nat → Bool)) = _
  have k1 : (pre.foldl (fun (st : (Nat → Nat → Nat → Bool) × Nat × Bool) x => (setPl st.1 x.val (ff st.2.1 (st.1 x.val)), st.2.1 + 1, st.2.2 || hh st.2.1 (st.1 x.val))) (P, 0, false)).1 = (stP ff P pre).1 := k1
  have k2 : (pre.foldl (fun (st : (Nat → Nat → Nat → Bool) × Nat × Bool) x => (setPl st.1 x.val (ff st.2.1 (st.1 x.val)), st.2.1 + 1, st.2.2 || hh st.2.1 (st.1 x.val))) (P, 0, false)).2.1 = (stP ff P pre).2 := k2
  rw [k1, k2, h2]
theorem rowsU_all {d : List Int} (h : ∀ z ∈ d, 0 ≤ z ∧ z ≤ 255) (big : Bool) : (rowsU d big).all (fun z => decide (0 ≤ z) && decide (z ≤ 65535)) = true := by
  refine List.all_eq_true.2 fun z hz => ?_
  rw [Bool.and_eq_true]
  cases big with
  | false =>
    have h1 := h z hz
    exact ⟨decide_eq_true h1.1, decide_eq_true (by omega)⟩
  | true =>
    obtain ⟨k, hk, rfl⟩ := List.mem_map.1 (show z ∈ (List.range (d.length / 2)).map (pairAt d) from hz)
    have hk := List.mem_range.1 hk
    have h1 := h _ (List.getElem_mem (show 2 * k < d.length by omega))
    have h2 := h _ (List.getElem_mem (show 2 * k + 1 < d.length by omega))
    have e1 : d.getD (2 * k) 0 = d[2 * k]'(by omega) := by simp [List.getD, show 2 * k < d.length by omega]
    have e2 : d.getD (2 * k + 1) 0 = d[2 * k + 1]'(by omega) := by simp [List.getD, show 2 * k + 1 < d.length by omega]
    unfold pairAt
    rw [e1, e2]
    exact ⟨decide_eq_true (by omega), decide_eq_true (by omega)⟩
theorem rowsU_len16 {d : List Int} {st : Nat} {big : Bool} (hl : d.length = st) (h : st ≤ if big then 32 else 16) : (rowsU d big).length ≤ 16 := by
  cases big with
  | false => rw [rowsU_small, hl]; exact h
  | true => rw [rowsU_big, pairU_len, hl]; have h : st ≤ 32 := h; omega
attribute [local irreducible] scrV stP planeV stH sprD
theorem sprD_def (s : Scr) (big clip : Bool) (x y : Nat) (d : List Int) : sprD s big clip x y d = sprQ (rowsU d big) (cntB big) (x % wd s.hires) (y % ht s.hires) s.hires clip (rowsU d big).length := by unfold sprD; rfl
theorem drawD08 (s : Scr) (st : Nat) (big clip : Bool) (x y : Nat) (b1 b2 b3 b4 b5 b6 b7 b8 b9 b10 b11 : Nat) (hit : Bool) (A : Option Addr) (c : Nat) (d : List Int) (p : Nat → Nat → Bool) (w : World) (hd8 : ∀ z ∈ d, 0 ≤ z ∧ z ≤ 255) (hst : st ≤ d.length) (hdc : d.length ≤ c) (hst2 : st ≤ if big then 32 else 16) (hdl : d.length ≤ 1000000) (B : Nat) (hR : RdB B w A (d.map (Value.int .u8))) (hTB : ∀ k ∈ [b1, b2, b3, b4, b5, b6, b7, b8, b9, b10, b11], B ≤ k) (hS : Sat w [b1, b2, b3, b4, b5, b6, b7, b8, b9, b10, b11] [.blk b1 (.cells #[.slice A d.length c] 39 (0, 0)), .blk b2 (.cells #[.int .i64 (st : Int)] 3 (0, 0)), .blk b3 (.cells #[.bool big] 4 (0, 0)), .blk b4 (.cells #[.int .i64 ((cntB big : Nat) : Int)] 3 (0, 0)), .blk b5 (.cells #[.int .i64 (x : Int)] 3 (0, 0)), .blk b6 (.cells #[.int .i64 (wd s.hires : Nat)] 3 (0, 0)), .blk b7 (.cells #[.int .i64 (y : Int)] 3 (0, 0)), .blk b8 (.cells #[.int .i64 (ht s.hires : Nat)] 3 (0, 0)), .blk b9 (.cells (scrV s) 32 (0, 0)), .blk b10 (.cells #[.bool clip] 4 (0, 0)), .blk b11 (.cells #[.bool hit] 4 (0, 0))] w) :
    Calls Try.prog 38 #[.agg (planeV p), .pointer (some ⟨b1, 0, none⟩), .pointer (some ⟨b2, 0, none⟩), .pointer (some ⟨b3, 0, none⟩), .pointer (some ⟨b4, 0, none⟩), .pointer (some ⟨b5, 0, none⟩), .pointer (some ⟨b6, 0, none⟩), .pointer (some ⟨b7, 0, none⟩), .pointer (some ⟨b8, 0, none⟩), .pointer (some ⟨b9, 0, none⟩), .pointer (some ⟨b10, 0, none⟩), .pointer (some ⟨b11, 0, none⟩)] w fun e w' => e = .returned (.agg (planeV (xorQ p (sprD s big clip x y (d.take st))))) ∧ Sat w [b1, b2, b3, b4, b5, b6, b7, b8, b9, b10, b11] [.blk b1 (.cells #[.slice (nxA A c st) (d.length - st) (c - st)] 39 (0, 0)), .blk b2 (.cells #[.int .i64 (st : Int)] 3 (0, 0)), .blk b3 (.cells #[.bool big] 4 (0, 0)), .blk b4 (.cells #[.int .i64 ((cntB big : Nat) : Int)] 3 (0, 0)), .blk b5 (.cells #[.int .i64 (x : Int)] 3 (0, 0)), .blk b6 (.cells #[.int .i64 (wd s.hires : Nat)] 3 (0, 0)), .blk b7 (.cells #[.int .i64 (y : Int)] 3 (0, 0)), .blk b8 (.cells #[.int .i64 (ht s.hires : Nat)] 3 (0, 0)), .blk b9 (.cells (scrV s) 32 (0, 0)), .blk b10 (.cells #[.bool clip] 4 (0, 0)), .blk b11 (.cells #[.bool (hit || hitK p (sprD s big clip x y (d.take st)) 64)] 4 (0, 0))] w' := by
  have hwd : 64 ≤ wd s.hires := by cases s.hires <;> decide
  have hht : 32 ≤ ht s.hires := by cases s.hires <;> decide
  refine enterS Try.func38 rfl rfl rfl hS ?_
  refine r_seq ?_
  refine r_region ?_
  refine r_boxV rfl rfl fun b12 => ?_
  refine r_allocV (cs := planeV noneQ) (by kernel_rfl) rfl fun b13 => ?_
  refine r_nil ?_
  refine r_tn ?_
  refine r_seq ?_
  refine r_tree { xb := [], rb := [b1, b2, b3, b4, b5, b6, b7, b8, b9, b10], rs := [17, 18, 20, 22, 23, 24, 26, 27, 30, 31], fs := [], acs := [14, 21] } (.take 0 (.take 1 (.take 2 (.take 3 (.take 5 (.take 6 (.take 7 (.take 8 (.take 9 (.take 10 (.take 11 (.take 12 (.take 13 (.take 14 (.fork 4 (.fork 15 (.take 16 (.take 17 .done)) 16 (.take 15 (.take 17 .done))) 16 (.take 4 (.take 15 (.take 17 .done)))))))))))))))))) (by kernel_rfl) (by kernel_rfl) (fun w2 hw2 k hk => by
    simp only [List.mem_cons, List.not_mem_nil, or_false] at hk
    rcases hk with rfl | rfl | rfl | rfl | rfl | rfl | rfl | rfl | rfl | rfl <;> exact Sat.lt hw2) ?_
  refine r_take rfl ?_
  refine r_load1 rfl rfl rfl (by rfl) ?_
  refine r_nil ?_
  refine r_take rfl ?_
  refine r_load1 rfl rfl rfl (by rfl) ?_
  refine r_nil ?_
  refine r_take rfl ?_
  refine r_sliceHi (h' := (d.take st).length) rfl rfl rfl rfl rfl (by rw [List.length_take, Nat.min_eq_left hst]) (by rw [List.length_take]; omega) ?_
  refine r_nil ?_
  refine r_take rfl ?_
  refine r_load1 rfl rfl rfl (by rfl) ?_
  refine r_nil ?_
  refine r_take rfl ?_
  refine r_load1 rfl rfl rfl (by rfl) ?_
  refine r_nil ?_
  refine r_take rfl ?_
  refine r_load1 rfl rfl rfl (by rfl) ?_
  refine r_nil ?_
  refine r_take rfl ?_
  refine r_load1 rfl rfl rfl (by rfl) ?_
  refine r_nil ?_
  refine r_take rfl ?_
  refine r_rem (r := ((x % wd s.hires : Nat) : Int)) rfl rfl rfl (by omega) rfl ?_
  refine r_nil ?_
  refine r_take rfl ?_
  refine r_load1 rfl rfl rfl (by rfl) ?_
  refine r_nil ?_
  refine r_take rfl ?_
  refine r_load1 rfl rfl rfl (by rfl) ?_
  refine r_nil ?_
  refine r_take rfl ?_
  refine r_rem (r := ((y % ht s.hires : Nat) : Int)) rfl rfl rfl (by omega) rfl ?_
  refine r_nil ?_
  refine r_take rfl ?_
  refine r_fieldAddr (off := 512) (o' := 512) rfl rfl rfl rfl ?_
  refine r_nil ?_
  refine r_take rfl ?_
  refine r_load1 rfl rfl rfl (scr_hires s) ?_
  refine r_nil ?_
  refine r_take rfl ?_
  refine r_load1 rfl rfl rfl (by rfl) ?_
  refine r_nil ?_
  refine r_fork rfl rfl ?_ ?_
  · refine r_callx rfl rfl rfl (by kernel_rfl) rfl (fun w hw => by exact rows08 (d.take st) big A c (fun z hz => hd8 z (List.mem_of_mem_take hz)) (by rw [List.length_take]; omega) w (by rw [List.map_take]; exact (hR.keep hTB hw).1.take _)) ?_
    rintro ⟨A21, c21⟩ _
    refine r_nil ?_
    refine r_fork rfl rfl ?_ ?_
    · refine r_call (v := .agg (planeV (sprD s big clip x y (d.take st)))) rfl rfl rfl (by kernel_rfl) rfl (fun w2 hw2 => by rw [sprD_def]; exact sprite07 A21 c21 (rowsU (d.take st) big) (cntB big) (x % wd s.hires) (y % ht s.hires) s.hires clip w2 (own_rd (A := A21) (m := (rowsU (d.take st) big).length) (c := c21) hw2) (rowsU_all (fun z hz => hd8 z (List.mem_of_mem_take hz)) big) (rowsU_len16 (by rw [List.length_take, Nat.min_eq_left hst]) hst2) (by cases big <;> decide) (Nat.mod_lt _ (by omega)) (Nat.mod_lt _ (by omega))) ?_
      refine r_nil ?_
      refine r_take rfl ?_
      refine r_allocV (cs := planeV noneQ) (by kernel_rfl) rfl fun b14 => ?_
      refine r_nil ?_
      refine r_take rfl ?_
      refine r_storeV rfl rfl rfl (planeV_size _) (planeV_size _) (planeV_one _) ?_
      refine r_nil ?_
      refine r_treeEnd ?_
      refine r_tn ?_
      refine r_seq ?_
      refine r_region ?_
      refine r_load1 rfl rfl rfl (by rfl) ?_
      refine r_load1 rfl rfl rfl (by rfl) ?_
      refine r_sliceLo (h' := st) rfl rfl rfl rfl rfl rfl hst ?_
      refine r_store (m := 1) (cs' := #[.slice (nxA A c st) (d.length - st) (c - st)]) rfl rfl rfl rfl (Nat.le_of_ble_eq_true rfl) rfl rfl ?_
      refine r_nil ?_
      refine r_tn ?_
      refine r_seq ?_
      refine r_region ?_
      refine r_loadV rfl rfl rfl rfl (planeV_size _) ?_
      refine r_loadV rfl rfl rfl rfl (planeV_size _) ?_
      refine r_call rfl rfl rfl (by kernel_rfl) rfl (fun w hw => by exact draw07 p (sprD s big clip x y (d.take st)) w) ?_
      refine r_move rfl rfl ?_
      refine r_extract rfl rfl rfl ?_
      refine r_extract rfl rfl rfl ?_
      refine r_allocV (cs := planeV noneQ) (by kernel_rfl) rfl fun b15 => ?_
      refine r_storeV rfl rfl rfl (planeV_size _) (planeV_size _) (planeV_one _) ?_
      refine r_assign rfl rfl ?_
      refine r_nil ?_
      refine r_tn ?_
      refine r_seq ?_
      refine r_region ?_
      refine r_load1 rfl rfl rfl (by rfl) ?_
      refine r_move rfl rfl ?_
      refine r_split 43 rfl (fun hb43 => ?_) (fun hb43 => ?_)
      · refine r_pass rfl rfl rfl rfl ?_
        refine r_pick_t rfl rfl rfl ?_
        refine r_store (m := 1) (cs' := #[.bool (hit || hitK p (sprD s big clip x y (d.take st)) 64)]) rfl rfl rfl rfl (Nat.le_of_ble_eq_true rfl) rfl (by rw [hb43]; rfl) ?_
        refine r_nil ?_
        refine r_tn ?_
        refine r_seq ?_
        refine r_region ?_
        refine r_loadV rfl rfl rfl rfl (planeV_size _) ?_
        refine r_storeV rfl rfl rfl (planeV_size _) (planeV_size _) (planeV_one _) ?_
        refine r_nil ?_
        refine r_tn ?_
        refine r_ret ?_
        exact r_done1 (.inl rfl) rfl (res_cellV rfl rfl rfl (planeV_size _)) fun w2 hw2 => ⟨rfl, hw2.sub⟩
      · refine r_go rfl rfl ?_
        refine r_move rfl rfl ?_
        refine r_pick_f rfl rfl rfl ?_
        refine r_store (m := 1) (cs' := #[.bool (hit || hitK p (sprD s big clip x y (d.take st)) 64)]) rfl rfl rfl rfl (Nat.le_of_ble_eq_true rfl) rfl (by rw [hb43]; rfl) ?_
        refine r_nil ?_
        refine r_tn ?_
        refine r_seq ?_
        refine r_region ?_
        refine r_loadV rfl rfl rfl rfl (planeV_size _) ?_
        refine r_storeV rfl rfl rfl (planeV_size _) (planeV_size _) (planeV_one _) ?_
        refine r_nil ?_
        refine r_tn ?_
        refine r_ret ?_
        exact r_done1 (.inl rfl) rfl (res_cellV rfl rfl rfl (planeV_size _)) fun w2 hw2 => ⟨rfl, hw2.sub⟩
    · refine r_allocV (cs := planeV noneQ) (by kernel_rfl) rfl fun b14 => ?_
      refine r_nil ?_
      refine r_take rfl ?_
      refine r_call (v := .agg (planeV (sprD s big clip x y (d.take st)))) rfl rfl rfl (by kernel_rfl) rfl (fun w2 hw2 => by rw [sprD_def]; exact sprite07 A21 c21 (rowsU (d.take st) big) (cntB big) (x % wd s.hires) (y % ht s.hires) s.hires clip w2 (own_rd (A := A21) (m := (rowsU (d.take st) big).length) (c := c21) hw2) (rowsU_all (fun z hz => hd8 z (List.mem_of_mem_take hz)) big) (rowsU_len16 (by rw [List.length_take, Nat.min_eq_left hst]) hst2) (by cases big <;> decide) (Nat.mod_lt _ (by omega)) (Nat.mod_lt _ (by omega))) ?_
      refine r_nil ?_
      refine r_take rfl ?_
      refine r_storeV rfl rfl rfl (planeV_size _) (planeV_size _) (planeV_one _) ?_
      refine r_nil ?_
      refine r_treeEnd ?_
      refine r_tn ?_
      refine r_seq ?_
      refine r_region ?_
      refine r_load1 rfl rfl rfl (by rfl) ?_
      refine r_load1 rfl rfl rfl (by rfl) ?_
      refine r_sliceLo (h' := st) rfl rfl rfl rfl rfl rfl hst ?_
      refine r_store (m := 1) (cs' := #[.slice (nxA A c st) (d.length - st) (c - st)]) rfl rfl rfl rfl (Nat.le_of_ble_eq_true rfl) rfl rfl ?_
      refine r_nil ?_
      refine r_tn ?_
      refine r_seq ?_
      refine r_region ?_
      refine r_loadV rfl rfl rfl rfl (planeV_size _) ?_
      refine r_loadV rfl rfl rfl rfl (planeV_size _) ?_
      refine r_call rfl rfl rfl (by kernel_rfl) rfl (fun w hw => by exact draw07 p (sprD s big clip x y (d.take st)) w) ?_
      refine r_move rfl rfl ?_
      refine r_extract rfl rfl rfl ?_
      refine r_extract rfl rfl rfl ?_
      refine r_allocV (cs := planeV noneQ) (by kernel_rfl) rfl fun b15 => ?_
      refine r_storeV rfl rfl rfl (planeV_size _) (planeV_size _) (planeV_one _) ?_
      refine r_assign rfl rfl ?_
      refine r_nil ?_
      refine r_tn ?_
      refine r_seq ?_
      refine r_region ?_
      refine r_load1 rfl rfl rfl (by rfl) ?_
      refine r_move rfl rfl ?_
      refine r_split 43 rfl (fun hb43 => ?_) (fun hb43 => ?_)
      · refine r_pass rfl rfl rfl rfl ?_
        refine r_pick_t rfl rfl rfl ?_
        refine r_store (m := 1) (cs' := #[.bool (hit || hitK p (sprD s big clip x y (d.take st)) 64)]) rfl rfl rfl rfl (Nat.le_of_ble_eq_true rfl) rfl (by rw [hb43]; rfl) ?_
        refine r_nil ?_
        refine r_tn ?_
        refine r_seq ?_
        refine r_region ?_
        refine r_loadV rfl rfl rfl rfl (planeV_size _) ?_
        refine r_storeV rfl rfl rfl (planeV_size _) (planeV_size _) (planeV_one _) ?_
        refine r_nil ?_
        refine r_tn ?_
        refine r_ret ?_
        exact r_done1 (.inl rfl) rfl (res_cellV rfl rfl rfl (planeV_size _)) fun w2 hw2 => ⟨rfl, hw2.sub⟩
      · refine r_go rfl rfl ?_
        refine r_move rfl rfl ?_
        refine r_pick_f rfl rfl rfl ?_
        refine r_store (m := 1) (cs' := #[.bool (hit || hitK p (sprD s big clip x y (d.take st)) 64)]) rfl rfl rfl rfl (Nat.le_of_ble_eq_true rfl) rfl (by rw [hb43]; rfl) ?_
        refine r_nil ?_
        refine r_tn ?_
        refine r_seq ?_
        refine r_region ?_
        refine r_loadV rfl rfl rfl rfl (planeV_size _) ?_
        refine r_storeV rfl rfl rfl (planeV_size _) (planeV_size _) (planeV_one _) ?_
        refine r_nil ?_
        refine r_tn ?_
        refine r_ret ?_
        exact r_done1 (.inl rfl) rfl (res_cellV rfl rfl rfl (planeV_size _)) fun w2 hw2 => ⟨rfl, hw2.sub⟩
  · refine r_allocV (cs := planeV noneQ) (by kernel_rfl) rfl fun b14 => ?_
    refine r_nil ?_
    refine r_take rfl ?_
    refine r_callx rfl rfl rfl (by kernel_rfl) rfl (fun w hw => by exact rows08 (d.take st) big A c (fun z hz => hd8 z (List.mem_of_mem_take hz)) (by rw [List.length_take]; omega) w (by rw [List.map_take]; exact (hR.keep hTB hw).1.take _)) ?_
    rintro ⟨A21, c21⟩ _
    refine r_nil ?_
    refine r_take rfl ?_
    refine r_call (v := .agg (planeV (sprD s big clip x y (d.take st)))) rfl rfl rfl (by kernel_rfl) rfl (fun w2 hw2 => by rw [sprD_def]; exact sprite07 A21 c21 (rowsU (d.take st) big) (cntB big) (x % wd s.hires) (y % ht s.hires) s.hires clip w2 (own_rd (A := A21) (m := (rowsU (d.take st) big).length) (c := c21) hw2) (rowsU_all (fun z hz => hd8 z (List.mem_of_mem_take hz)) big) (rowsU_len16 (by rw [List.length_take, Nat.min_eq_left hst]) hst2) (by cases big <;> decide) (Nat.mod_lt _ (by omega)) (Nat.mod_lt _ (by omega))) ?_
    refine r_nil ?_
    refine r_take rfl ?_
    refine r_storeV rfl rfl rfl (planeV_size _) (planeV_size _) (planeV_one _) ?_
    refine r_nil ?_
    refine r_treeEnd ?_
    refine r_tn ?_
    refine r_seq ?_
    refine r_region ?_
    refine r_load1 rfl rfl rfl (by rfl) ?_
    refine r_load1 rfl rfl rfl (by rfl) ?_
    refine r_sliceLo (h' := st) rfl rfl rfl rfl rfl rfl hst ?_
    refine r_store (m := 1) (cs' := #[.slice (nxA A c st) (d.length - st) (c - st)]) rfl rfl rfl rfl (Nat.le_of_ble_eq_true rfl) rfl rfl ?_
    refine r_nil ?_
    refine r_tn ?_
    refine r_seq ?_
    refine r_region ?_
    refine r_loadV rfl rfl rfl rfl (planeV_size _) ?_
    refine r_loadV rfl rfl rfl rfl (planeV_size _) ?_
    refine r_call rfl rfl rfl (by kernel_rfl) rfl (fun w hw => by exact draw07 p (sprD s big clip x y (d.take st)) w) ?_
    refine r_move rfl rfl ?_
    refine r_extract rfl rfl rfl ?_
    refine r_extract rfl rfl rfl ?_
    refine r_allocV (cs := planeV noneQ) (by kernel_rfl) rfl fun b15 => ?_
    refine r_storeV rfl rfl rfl (planeV_size _) (planeV_size _) (planeV_one _) ?_
    refine r_assign rfl rfl ?_
    refine r_nil ?_
    refine r_tn ?_
    refine r_seq ?_
    refine r_region ?_
    refine r_load1 rfl rfl rfl (by rfl) ?_
    refine r_move rfl rfl ?_
    refine r_split 43 rfl (fun hb43 => ?_) (fun hb43 => ?_)
    · refine r_pass rfl rfl rfl rfl ?_
      refine r_pick_t rfl rfl rfl ?_
      refine r_store (m := 1) (cs' := #[.bool (hit || hitK p (sprD s big clip x y (d.take st)) 64)]) rfl rfl rfl rfl (Nat.le_of_ble_eq_true rfl) rfl (by rw [hb43]; rfl) ?_
      refine r_nil ?_
      refine r_tn ?_
      refine r_seq ?_
      refine r_region ?_
      refine r_loadV rfl rfl rfl rfl (planeV_size _) ?_
      refine r_storeV rfl rfl rfl (planeV_size _) (planeV_size _) (planeV_one _) ?_
      refine r_nil ?_
      refine r_tn ?_
      refine r_ret ?_
      exact r_done1 (.inl rfl) rfl (res_cellV rfl rfl rfl (planeV_size _)) fun w2 hw2 => ⟨rfl, hw2.sub⟩
    · refine r_go rfl rfl ?_
      refine r_move rfl rfl ?_
      refine r_pick_f rfl rfl rfl ?_
      refine r_store (m := 1) (cs' := #[.bool (hit || hitK p (sprD s big clip x y (d.take st)) 64)]) rfl rfl rfl rfl (Nat.le_of_ble_eq_true rfl) rfl (by rw [hb43]; rfl) ?_
      refine r_nil ?_
      refine r_tn ?_
      refine r_seq ?_
      refine r_region ?_
      refine r_loadV rfl rfl rfl rfl (planeV_size _) ?_
      refine r_storeV rfl rfl rfl (planeV_size _) (planeV_size _) (planeV_one _) ?_
      refine r_nil ?_
      refine r_tn ?_
      refine r_ret ?_
      exact r_done1 (.inl rfl) rfl (res_cellV rfl rfl rfl (planeV_size _)) fun w2 hw2 => ⟨rfl, hw2.sub⟩
end Go.Proofs.Ytgamehjakgcgnaa
