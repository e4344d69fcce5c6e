/-
  Records (chapter 23): RecordDiffs.
-/
import Derived.Test.YtgicjkjppnkodaaCards23
import Derived.Test.YtgicjkjppnkodaaAw23
namespace Go.Proofs.Ytgicjkjppnkodaa
open Go Go.RowKit
set_option linter.unusedVariables false
set_option linter.unusedSimpArgs false
set_option maxHeartbeats 2000000
set_option maxRecDepth 4000
attribute [local irreducible] mix

theorem recsK_nil (l : List Card) : recsL (recsK l 0) = [] := rfl
theorem recs_sound {l : List Rec} (h : ∀ r ∈ l, r.pat.length = 16) {i : Nat} (hi : i < l.length) : (recsL l)[i * 535 + 513]? = some (.bool (l[i]).sound) := by
  rw [recs_at h hi (by decide)]
  have h2 := rec_sound l[i]
  unfold recV at h2
  rwa [List.getElem?_toArray] at h2
theorem recs_pitch {l : List Rec} (h : ∀ r ∈ l, r.pat.length = 16) {i : Nat} (hi : i < l.length) : (recsL l)[i * 535 + 530]? = some (.int .u8 (l[i]).pitch) := by
  rw [recs_at h hi (by decide)]
  have h2 := rec_pitch (h _ (List.getElem_mem hi))
  unfold recV at h2
  rwa [List.getElem?_toArray] at h2
theorem recsL_take : ∀ {l : List Rec}, (∀ r ∈ l, r.pat.length = 16) → ∀ {m : Nat}, m ≤ l.length → recsL (l.take m) = (recsL l).take (m * 535)
  | _, _, 0, _ => by rw [List.take_zero, Nat.zero_mul, List.take_zero]; rfl
  | [], _, m + 1, h => by simp at h
  | r :: l, h, m + 1, hm => by
    show recL r ++ recsL (l.take m) = (recL r ++ recsL l).take ((m + 1) * 535)
    have hr := recL_len (h r (.head _))
    rw [recsL_take (fun r hr => h r (.tail _ hr)) (by simpa using hm), show (m + 1) * 535 = (recL r).length + m * 535 by omega, List.take_append, Nat.add_sub_cancel_left, List.take_of_length_le (l := recL r) (by omega)]
theorem set_pat16 {l b : List Rec} (h : ∀ r ∈ l, r.pat.length = 16) {i : Nat} (hi : i < l.length) {r2 : Rec} (h2 : r2.pat.length = 16) (e : l.set i r2 = b) : ∀ r ∈ b, r.pat.length = 16 := fun r hr => by
  subst e
  rcases List.mem_or_eq_of_mem_set hr with h1 | rfl
  · exact h r h1
  · exact h2
theorem set_pre {l b : List Rec} {i : Nat} {r2 : Rec} (e : l.set i r2 = b) (j : Nat) (h1 : j < l.length) (h2 : j < b.length) (hj : j < i) : l[j] = b[j] := by
  subst e
  rw [List.getElem_set_ne (by omega)]
theorem set_snd {l b : List Rec} {i : Nat} {hi : i < l.length} (e : l.set i { l[i] with sound := !l[i].sound } = b) (h1 : i < l.length) (h2 : i < b.length) : l[i].sound ≠ b[i].sound := by
  subst e
  rw [List.getElem_set_self]
  show l[i].sound ≠ !l[i].sound
  cases l[i].sound <;> decide
theorem diff_at {a b : List Rec} {m : Nat} (ha : m < a.length) (hb : m < b.length) (hpre : ∀ j (h1 : j < a.length) (h2 : j < b.length), j < m → recEq a[j] b[j] = true) (hne : recEq a[m] b[m] = false) {d : Int} (h : DiffIs a b d) : d = (m : Int) := by
  rcases h with ⟨rfl, _, hall⟩ | ⟨k, rfl, hk1, hk2, hk3⟩
  · have h2 := hall m ha hb
    rw [hne] at h2; cases h2
  · rcases Nat.lt_trichotomy k m with hlt | rfl | hgt
    · have h2 := hk3 (by omega) (by omega)
      rw [hpre k (by omega) (by omega) hlt] at h2; cases h2
    · rfl
    · obtain ⟨_, _, h2⟩ := hk1 m hgt
      rw [hne] at h2; cases h2
theorem diff_cut {a : List Rec} (hp : ∀ r ∈ a, r.pat.length = 16) {m : Nat} (ha : m < a.length) {d : Int} (h : DiffIs a (a.take m) d) : d = (m : Int) := by
  have hl : (a.take m).length = m := by rw [List.length_take]; omega
  rcases h with ⟨rfl, h1, _⟩ | ⟨k, rfl, hk1, hk2, hk3⟩
  · omega
  · rcases Nat.lt_trichotomy k m with hlt | rfl | hgt
    · have h2 := hk3 (by omega) (by omega)
      rw [List.getElem_take, recEq_self (hp _ (List.getElem_mem _))] at h2; cases h2
    · rfl
    · obtain ⟨_, h2, _⟩ := hk1 m hgt
      omega
theorem diff_cut2 {a : List Rec} (hp : ∀ r ∈ a, r.pat.length = 16) {m : Nat} (ha : m < a.length) {d : Int} (h : DiffIs (a.take m) a d) : d = (m : Int) := by
  have hl : (a.take m).length = m := by rw [List.length_take]; omega
  rcases h with ⟨rfl, h1, _⟩ | ⟨k, rfl, hk1, hk2, hk3⟩
  · omega
  · rcases Nat.lt_trichotomy k m with hlt | rfl | hgt
    · have h2 := hk3 (by omega) (by omega)
      rw [List.getElem_take, recEq_self (hp _ (List.getElem_mem _))] at h2; cases h2
    · rfl
    · obtain ⟨h2, _, _⟩ := hk1 m hgt
      omega


attribute [local irreducible] topB recsL validR usedF


theorem RecordDiffs_walk (A : Option Addr) (c : Nat) (l : List Card) (cut : Int) (sound : Bool) (W : World) (hA : Rd W A (cardsL l)) (ok : ∀ c ∈ l, okCard c) (hcut : (Lit.int .u8 cut).wf = true) :
    Calls Try.prog 6 #[.slice A l.length c, .int .u8 cut, .bool sound] W fun e w' => e = .returned (.bool true) ∧ Sat W [] [] w' := by
  obtain ⟨hq0, hq1⟩ := wfu8 hcut
  obtain ⟨q, rfl⟩ : ∃ q : Nat, cut = q := ⟨cut.toNat, by omega⟩
  refine enter Try.func6 rfl rfl rfl ?_
  refine r_seq ?_
  refine r_region ?_
  refine r_assign rfl rfl ?_
  refine r_nil ?_
  refine r_tn ?_
  refine r_seq ?_
  refine r_seq ?_
  refine r_region ?_
  refine r_call rfl rfl rfl (by kernel_rfl) rfl (fun w hw => by exact awake23 w) ?_
  refine r_not rfl rfl rfl ?_
  refine r_move rfl rfl ?_
  refine r_go rfl rfl ?_
  refine r_move rfl rfl ?_
  refine r_go rfl rfl ?_
  refine r_len rfl rfl rfl ?_
  refine r_go rfl rfl ?_
  refine r_gtr (p := decide (4 < l.length)) rfl rfl rfl (decide_eq_decide.2 ⟨fun _ => by omega, fun _ => by omega⟩) ?_
  refine r_pick_f rfl rfl rfl ?_
  refine r_nil ?_
  refine r_tn ?_
  refine r_cond rfl (fun hc => ?_) (fun hc => ?_)
  · refine r_seq ?_
    refine r_region ?_
    refine r_call rfl rfl rfl (by kernel_rfl) rfl (fun w hw => by exact awake23 w) ?_
    refine r_assign rfl rfl ?_
    refine r_nil ?_
    refine r_tn ?_
    refine r_ret ?_
    refine r_tr ?_
    exact r_done1 (.inl rfl) rfl (res_tmp rfl) fun w hw => ⟨rfl, hw.clear⟩
  · refine r_skip ?_
    refine r_tn ?_
    refine r_seq ?_
    have hl4 : l.length ≤ 4 := by have h := of_decide_eq_false hc; omega
    clear hc
    refine r_region ?_
    refine r_assign rfl rfl ?_
    refine r_nil ?_
    refine r_tn ?_
    refine r_seq ?_
    refine r_seq ?_
    refine r_region ?_
    refine r_assign rfl rfl ?_
    refine r_nil ?_
    refine r_tn ?_
    refine r_block ?_
    refine Run.ownNil 48 535 ?_
    refine r_loop2 (fun k A2 c2 => [(0, .slice A l.length c), (1, .int .u8 (q : Int)), (2, .bool sound), (7, .slice A2 k c2), (8, .int .i64 (k : Int))]) (fun k A2 c2 => [.own 48 535 (.slice A2 k c2) k (recsL (recsK l k))]) (fun k A2 c2 => k ≤ l.length) l.length 0 none 0 (by omega) ⟨rfl, rfl, rfl, rfl, rfl, trivial⟩ (fun w hw => by rw [recsK_nil]; have h2 : Sat _ _ [.own 48 535 (.slice none 0 0) 0 ([])] w := hw.sub; exact h2) fun k A2 c2 hk => ?_
    refine r_seq ?_
    refine r_seq ?_
    refine r_region ?_
    refine r_move rfl rfl ?_
    refine r_move rfl rfl ?_
    refine r_len rfl rfl rfl ?_
    refine r_lss rfl rfl rfl rfl ?_
    refine r_nil ?_
    refine r_tn ?_
    refine r_cond rfl (fun hc => ?_) (fun hc => ?_)
    · refine r_skip ?_
      refine r_tn ?_
      refine r_seq ?_
      refine r_block ?_
      refine r_region ?_
      have hkl : k < l.length := by have h := of_decide_eq_true hc; omega
      obtain ⟨ba, oa, rfl⟩ := cards_some hA ok hkl
      have hri := Rd_card hA ok hkl
      have hok := ok _ (List.getElem_mem hkl)
      have hp : (recOf l[k]).pat.length = 16 := hok.1.2
      refine r_move rfl rfl ?_
      refine r_move rfl rfl ?_
      refine r_move rfl rfl ?_
      refine r_indexSl (sz := 36) (o' := oa + k * 36) rfl rfl rfl rfl rfl (by omega) (by omega) (by simp) ?_
      refine r_loadRd (vs := cardL l[k]) rfl rfl rfl rfl (cardV_size hok.1) (fun w hw => hri.keep hw) ?_
      refine r_callx rfl rfl rfl (by kernel_rfl) rfl (fun w hw => by exact of23 l[k] hok.1 w) ?_
      rintro i30 hi30
      refine r_call rfl rfl rfl (by kernel_rfl) rfl (fun w hw => by exact forward23 (recOf l[k]) i30 hp w (hi30 w (fun x hx => hw.ok x (by simp [hx])))) ?_
      refine Run.less (fun w hw => hw.behind.behind) ?_
      refine r_lit (sz := 535) (z := .agg (recV rec0)) (pv := [(0, .agg (recV (recOf l[k])))]) (cells := recV (recOf l[k])) rfl rfl rfl (by kernel_rfl) rfl rfl (fill_one (v := .agg (recV (recOf l[k]))) (by decide) (recV_size hp) (by simp)) (recV_size hp) (fun b32 => ?_) (by decide)
      refine r_append (k := 1) (news := recL (recOf l[k])) (sz := 535) (bytes := 4152) (z := .agg (recV rec0)) rfl rfl rfl rfl (by kernel_rfl) (recV_size rfl) (by decide) (fun w hw => by have h := own_rd (A := some ⟨b32, 0, none⟩) (m := 1) (c := 1) hw; rw [recV_list] at h; exact h) (recL_len hp) (fun u hu => recL_one hu) (by omega) (by unfold maxLen; omega) fun A33 c33 => ?_
      refine r_assign rfl rfl ?_
      refine r_nil ?_
      refine r_bn ?_
      refine r_tn ?_
      refine r_region ?_
      refine r_move rfl rfl ?_
      refine r_add rfl rfl rfl (w64 (by omega)) ?_
      refine r_assign rfl rfl ?_
      refine r_nil ?_
      refine r_tn ?_
      exact r_again2 (k + 1) A33 c33 (by omega) (by omega) ⟨rfl, rfl, rfl, rfl, rfl, trivial⟩ (fun w hw => by rw [recsK_succ hkl, recsL_snoc]; exact hw.sub)
    · refine r_exit ?_
      refine r_te ?_
      refine r_te ?_
      refine r_be ?_
      refine r_tn ?_
      refine r_seq ?_
      refine r_region ?_
      have hk3 : k = l.length := by have h := of_decide_eq_false hc; omega
      subst hk3
      rw [recsK_all]
      have hpat := recs_pat ok
      obtain ⟨rs, hrs⟩ : ∃ rs, l.map recOf = rs := ⟨_, rfl⟩
      have hlen : rs.length = l.length := by rw [← hrs, List.length_map]
      rw [hrs] at hpat ⊢
      rw [← hlen]
      rw [← hlen] at hl4
      refine r_have (fun w hw => own_le (A := A2) (m := rs.length) (c := c2) hw) fun hle2 => ?_
      refine r_move rfl rfl ?_
      refine r_convert (r := (q : Int)) rfl rfl rfl rfl (w64 (by omega)) ?_
      refine r_move rfl rfl ?_
      refine r_len rfl rfl rfl ?_
      refine r_add (r := ((rs.length + 1 : Nat) : Int)) rfl rfl rfl ((w64 (by omega)).trans (by omega)) ?_
      obtain ⟨m, hm⟩ : ∃ m, q % (rs.length + 1) = m := ⟨_, rfl⟩
      have hml : m ≤ rs.length := by have h := Nat.mod_lt q (show 0 < rs.length + 1 by omega); omega
      refine r_rem (r := (m : Int)) rfl rfl rfl (by omega) (congrArg Int.ofNat hm) ?_
      refine r_assign rfl rfl ?_
      refine r_nil ?_
      refine r_tn ?_
      refine r_seq ?_
      refine r_region ?_
      refine r_lit (sz := 535) (z := .agg (recV rec0)) (pv := []) (cells := #[]) rfl rfl rfl (by kernel_rfl) rfl rfl (by kernel_rfl) rfl (fun b40 => ?_) (by decide)
      refine r_move rfl rfl ?_
      refine r_append (k := rs.length) (news := recsL rs) (sz := 535) (bytes := 4152) (z := .agg (recV rec0)) rfl rfl rfl rfl (by kernel_rfl) (recV_size rfl) (by decide) (fun w hw => own_rd (A := A2) (m := rs.length) (c := c2) hw) (recsL_len hpat) (fun u hu => recsL_one' hu) (by omega) (by unfold maxLen; omega) fun A42 c42 => ?_
      rw [Nat.zero_add, show (#[] : Array Value).toList ++ recsL rs = recsL rs from rfl]
      refine r_assign rfl rfl ?_
      refine r_nil ?_
      refine r_tn ?_
      refine r_seq ?_
      refine r_seq ?_
      refine r_region ?_
      refine r_move rfl rfl ?_
      refine r_move rfl rfl ?_
      refine r_len rfl rfl rfl ?_
      refine r_lss (p := decide (m < rs.length)) rfl rfl rfl (decide_eq_decide.2 ⟨fun _ => by omega, fun _ => by omega⟩) ?_
      refine r_nil ?_
      refine r_tn ?_
      refine r_cond rfl (fun hc => ?_) (fun hc => ?_)
      · refine r_seq ?_
        refine r_region ?_
        have hmr : m < rs.length := of_decide_eq_true hc
        refine r_have (fun w hw => own_some (A := A42) (m := rs.length) (c := c42) hw (by omega)) fun hg => ?_
        obtain ⟨g42, rfl⟩ := hg
        refine r_move rfl rfl ?_
        refine r_move rfl rfl ?_
        refine r_move rfl rfl ?_
        refine r_move rfl rfl ?_
        refine r_indexSl (sz := 535) (o' := m * 535) rfl rfl rfl rfl rfl (by omega) (by omega) (by simp) ?_
        refine r_fieldAddr (off := 513) (o' := m * 535 + 513) rfl rfl rfl rfl ?_
        refine r_loadC (p := ⟨g42, m * 535 + 513, none⟩) (v := .bool rs[m].sound) rfl rfl rfl (fun w hw => by have h := (own_rd (A := some ⟨g42, 0, none⟩) (m := rs.length) (c := c42) hw).cell (j := m * 535 + 513) (u := .bool rs[m].sound) (recs_sound hpat hmr) rfl; simpa using h) ?_
        refine r_not rfl rfl rfl ?_
        refine r_indexSl (sz := 535) (o' := m * 535) rfl rfl rfl rfl rfl (by omega) (by omega) (by simp) ?_
        refine r_fieldAddr (off := 513) (o' := m * 535 + 513) rfl rfl rfl rfl ?_
        refine r_storeOwnN (m := rs.length) (c := c42) rfl rfl rfl rfl rfl (by omega) ?_
        rw [recsL_set hpat hmr (by decide) (recL_sound _ _)]
        obtain ⟨b1, hb1⟩ : ∃ b1, rs.set m { rs[m] with sound := !rs[m].sound } = b1 := ⟨_, rfl⟩
        rw [hb1]
        have hlb : b1.length = rs.length := by rw [← hb1, List.length_set]
        have hpb : ∀ r ∈ b1, r.pat.length = 16 := set_pat16 hpat hmr (r2 := { rs[m] with sound := !rs[m].sound }) (hpat rs[m] (List.getElem_mem hmr)) hb1
        have hpre : ∀ j (h1 : j < rs.length) (h2 : j < b1.length), j < m → rs[j] = b1[j] := set_pre hb1
        have hsn : ∀ (h1 : m < rs.length) (h2 : m < b1.length), rs[m].sound ≠ b1[m].sound := set_snd hb1
        refine r_nil ?_
        refine r_tn ?_
        refine r_seq ?_
        refine r_cut (fun bs : { bs : List Rec // bs.length = rs.length ∧ (∀ r ∈ bs, r.pat.length = 16) ∧ (∀ j (h1 : j < rs.length) (h2 : j < bs.length), j < m → rs[j] = bs[j]) ∧ ∀ (h1 : m < rs.length) (h2 : m < bs.length), rs[m].sound ≠ bs[m].sound } => ([(7, .slice A2 rs.length c2), (9, .int .i64 (m : Int)), (10, .slice (some ⟨g42, 0, none⟩) bs.1.length c42)], [.own 48 535 (.slice A2 rs.length c2) rs.length (recsL rs), .own 48 535 (.slice (some ⟨g42, 0, none⟩) bs.1.length c42) bs.1.length (recsL bs.1)])) ?_ ?_
        · refine r_seq ?_
          refine r_region ?_
          refine r_move rfl rfl ?_
          refine r_move rfl rfl ?_
          refine r_split 58 rfl (fun hb58 => ?_) (fun hb58 => ?_)
          · refine r_go rfl rfl ?_
            refine r_move rfl rfl ?_
            refine r_go rfl rfl ?_
            refine r_add (r := ((m + 1 : Nat) : Int)) rfl rfl rfl ((w64 (by omega)).trans (by omega)) ?_
            refine r_go rfl rfl ?_
            refine r_move rfl rfl ?_
            refine r_go rfl rfl ?_
            refine r_len rfl rfl rfl ?_
            refine r_go rfl rfl ?_
            refine r_lss (p := decide (m + 1 < rs.length)) rfl rfl rfl (decide_eq_decide.2 ⟨fun _ => by omega, fun _ => by omega⟩) ?_
            refine r_pick_t rfl rfl rfl ?_
            refine r_nil ?_
            refine r_tn ?_
            refine r_cond rfl (fun hc => ?_) (fun hc => ?_)
            · refine r_region ?_
              have hm1 : m + 1 < rs.length := of_decide_eq_true hc
              have hm1b : m + 1 < b1.length := by omega
              refine r_move rfl rfl ?_
              refine r_move rfl rfl ?_
              refine r_add (r := ((m + 1 : Nat) : Int)) rfl rfl rfl ((w64 (by omega)).trans (by omega)) ?_
              refine r_indexSl (sz := 535) (o' := (m + 1) * 535) rfl rfl rfl rfl rfl (by omega) (by omega) (by simp) ?_
              refine r_fieldAddr (off := 530) (o' := (m + 1) * 535 + 530) rfl rfl rfl rfl ?_
              refine r_loadC (p := ⟨g42, (m + 1) * 535 + 530, none⟩) (v := .int .u8 b1[m + 1].pitch) rfl rfl rfl (fun w hw => by have h := (own_rd (A := some ⟨g42, 0, none⟩) (m := rs.length) (c := c42) hw).cell (j := (m + 1) * 535 + 530) (u := .int .u8 b1[m + 1].pitch) (recs_pitch hpb hm1b) rfl; simpa using h) ?_
              refine r_add rfl rfl rfl rfl ?_
              refine r_indexSl (sz := 535) (o' := (m + 1) * 535) rfl rfl rfl rfl rfl (by omega) (by omega) (by simp) ?_
              refine r_fieldAddr (off := 530) (o' := (m + 1) * 535 + 530) rfl rfl rfl rfl ?_
              refine r_storeOwnN (m := rs.length) (c := c42) rfl rfl rfl rfl rfl (by omega) ?_
              rw [recsL_set hpb hm1b (by decide) (recL_pitch (hpb _ (List.getElem_mem hm1b)) _)]
              obtain ⟨b2, hb2⟩ : ∃ b2, b1.set (m + 1) { b1[m + 1] with pitch := IntKind.u8.wrap (b1[m + 1].pitch + 1) } = b2 := ⟨_, rfl⟩
              rw [hb2]
              have hlb : b2.length = rs.length := by rw [← hb2, List.length_set]; exact hlb
              have hpb2 : ∀ r ∈ b2, r.pat.length = 16 := set_pat16 hpb hm1b (r2 := { b1[m + 1] with pitch := IntKind.u8.wrap (b1[m + 1].pitch + 1) }) (hpb b1[m + 1] (List.getElem_mem hm1b)) hb2
              have hpre2 : ∀ j (h1 : j < rs.length) (h2 : j < b2.length), j < m → rs[j] = b2[j] := fun j h1 h2 hj => (hpre j h1 (by omega) hj).trans (set_pre hb2 j (by omega) h2 (by omega))
              have hsn2 : ∀ (h1 : m < rs.length) (h2 : m < b2.length), rs[m].sound ≠ b2[m].sound := fun h1 h2 e => hsn h1 (by omega) (by rw [set_pre hb2 m (by omega) h2 (by omega)]; exact e)
              refine r_nil ?_
              refine r_tn ?_
              exact r_at (⟨b2, ⟨hlb, hpb2, hpre2, hsn2⟩⟩ : { bs : List Rec // bs.length = rs.length ∧ (∀ r ∈ bs, r.pat.length = 16) ∧ (∀ j (h1 : j < rs.length) (h2 : j < bs.length), j < m → rs[j] = bs[j]) ∧ ∀ (h1 : m < rs.length) (h2 : m < bs.length), rs[m].sound ≠ bs[m].sound }) ⟨rfl, rfl, by show _ = some (Value.slice (some ⟨g42, 0, none⟩) b2.length c42); rw [hlb]; rfl, trivial⟩ (fun w hw => by
                have h2 : Sat W [] [.own 48 535 (.slice A2 rs.length c2) rs.length (recsL rs), .own 48 535 (.slice (some ⟨g42, 0, none⟩) b2.length c42) b2.length (recsL b2)] w := by rw [hlb]; exact hw.sub
                exact h2)
            · refine r_skip ?_
              refine r_tn ?_
              exact r_at (⟨b1, ⟨hlb, hpb, hpre, hsn⟩⟩ : { bs : List Rec // bs.length = rs.length ∧ (∀ r ∈ bs, r.pat.length = 16) ∧ (∀ j (h1 : j < rs.length) (h2 : j < bs.length), j < m → rs[j] = bs[j]) ∧ ∀ (h1 : m < rs.length) (h2 : m < bs.length), rs[m].sound ≠ bs[m].sound }) ⟨rfl, rfl, by show _ = some (Value.slice (some ⟨g42, 0, none⟩) b1.length c42); rw [hlb]; rfl, trivial⟩ (fun w hw => by
                have h2 : Sat W [] [.own 48 535 (.slice A2 rs.length c2) rs.length (recsL rs), .own 48 535 (.slice (some ⟨g42, 0, none⟩) b1.length c42) b1.length (recsL b1)] w := by rw [hlb]; exact hw.sub
                exact h2)
          · refine r_pass rfl rfl rfl rfl ?_
            refine r_pass rfl rfl rfl rfl ?_
            refine r_pass rfl rfl rfl rfl ?_
            refine r_pass rfl rfl rfl rfl ?_
            refine r_pass rfl rfl rfl rfl ?_
            refine r_pick_f rfl rfl rfl ?_
            refine r_nil ?_
            refine r_tn ?_
            refine r_cond_f rfl ?_
            refine r_skip ?_
            refine r_tn ?_
            exact r_at (⟨b1, ⟨hlb, hpb, hpre, hsn⟩⟩ : { bs : List Rec // bs.length = rs.length ∧ (∀ r ∈ bs, r.pat.length = 16) ∧ (∀ j (h1 : j < rs.length) (h2 : j < bs.length), j < m → rs[j] = bs[j]) ∧ ∀ (h1 : m < rs.length) (h2 : m < bs.length), rs[m].sound ≠ bs[m].sound }) ⟨rfl, rfl, by show _ = some (Value.slice (some ⟨g42, 0, none⟩) b1.length c42); rw [hlb]; rfl, trivial⟩ (fun w hw => by
              have h2 : Sat W [] [.own 48 535 (.slice A2 rs.length c2) rs.length (recsL rs), .own 48 535 (.slice (some ⟨g42, 0, none⟩) b1.length c42) b1.length (recsL b1)] w := by rw [hlb]; exact hw.sub
              exact h2)
        rintro ⟨bs, hlb, hpb, hpre, hsn⟩
        have hmb : m < bs.length := by omega
        have hne := recEq_sound (hpat _ (List.getElem_mem hmr)) (hpb _ (List.getElem_mem hmb)) (hsn hmr hmb)
        have hne2 := recEq_sound (hpb _ (List.getElem_mem hmb)) (hpat _ (List.getElem_mem hmr)) (fun e => hsn hmr hmb e.symm)
        show Run _ _ _ [(7, .slice A2 rs.length c2), (9, .int .i64 (m : Int)), (10, .slice (some ⟨g42, 0, none⟩) bs.length c42)] [.own 48 535 (.slice A2 rs.length c2) rs.length (recsL rs), .own 48 535 (.slice (some ⟨g42, 0, none⟩) bs.length c42) bs.length (recsL bs)] _
        refine r_seq ?_
        refine r_region ?_
        refine r_move rfl rfl ?_
        refine r_move rfl rfl ?_
        refine r_callx rfl rfl rfl (by kernel_rfl) rfl (fun w hw => by exact diff23 rs bs A2 (some ⟨g42, 0, none⟩) c2 c42 hpat hpb (by omega) (by first | omega | (rw [List.length_take]; omega)) w (own_rd (A := A2) (m := rs.length) (c := c2) hw) (own_rd (A := some ⟨g42, 0, none⟩) (m := bs.length) (c := c42) hw)) ?_
        rintro d76 hd76
        refine r_move rfl rfl ?_
        obtain rfl := diff_at hmr hmb (fun j h1 h2 hj => by rw [hpre j h1 h2 hj]; exact recEq_self (hpb _ (List.getElem_mem h2))) hne hd76
        refine r_eql (p := true) rfl rfl rfl (decide_eq_true rfl) ?_
        refine r_move rfl rfl ?_
        refine r_go rfl rfl ?_
        refine r_move rfl rfl ?_
        refine r_go rfl rfl ?_
        refine r_move rfl rfl ?_
        refine r_go rfl rfl ?_
        refine r_callx rfl rfl rfl (by kernel_rfl) rfl (fun w hw => by exact diff23 bs rs (some ⟨g42, 0, none⟩) A2 c42 c2 hpb hpat (by omega) (by first | omega | (rw [List.length_take]; omega)) w (own_rd (A := some ⟨g42, 0, none⟩) (m := bs.length) (c := c42) hw) (own_rd (A := A2) (m := rs.length) (c := c2) hw)) ?_
        rintro d82 hd82
        refine r_go rfl rfl ?_
        refine r_move rfl rfl ?_
        refine r_go rfl rfl ?_
        obtain rfl := diff_at hmb hmr (fun j h1 h2 hj => by rw [hpre j h2 h1 hj]; exact recEq_self (hpb _ (List.getElem_mem h1))) hne2 hd82
        refine r_eql (p := true) rfl rfl rfl (decide_eq_true rfl) ?_
        refine r_pick_t rfl rfl rfl ?_
        refine r_move rfl rfl ?_
        refine r_go rfl rfl ?_
        refine r_move rfl rfl ?_
        refine r_go rfl rfl ?_
        refine r_move rfl rfl ?_
        refine r_go rfl rfl ?_
        refine r_move rfl rfl ?_
        refine r_go rfl rfl ?_
        refine r_sliceHi (h' := (rs.take m).length) rfl rfl rfl rfl rfl (by rw [List.length_take, Nat.min_eq_left (by omega)]) (by rw [List.length_take]; omega) ?_
        refine r_go rfl rfl ?_
        refine r_callx rfl rfl rfl (by kernel_rfl) rfl (fun w hw => by exact diff23 rs (rs.take m) A2 A2 c2 c2 hpat (fun r hr => hpat r (List.mem_of_mem_take hr)) (by omega) (by first | omega | (rw [List.length_take]; omega)) w (own_rd (A := A2) (m := rs.length) (c := c2) hw) (by rw [recsL_take hpat (by omega)]; exact (own_rd (A := A2) (m := rs.length) (c := c2) hw).take _)) ?_
        rintro d91 hd91
        refine r_go rfl rfl ?_
        refine r_move rfl rfl ?_
        refine r_go rfl rfl ?_
        obtain rfl := diff_cut hpat hmr hd91
        refine r_eql (p := true) rfl rfl rfl (decide_eq_true rfl) ?_
        refine r_pick_t rfl rfl rfl ?_
        refine r_move rfl rfl ?_
        refine r_go rfl rfl ?_
        refine r_move rfl rfl ?_
        refine r_go rfl rfl ?_
        refine r_move rfl rfl ?_
        refine r_go rfl rfl ?_
        refine r_sliceHi (h' := (rs.take m).length) rfl rfl rfl rfl rfl (by rw [List.length_take, Nat.min_eq_left (by omega)]) (by rw [List.length_take]; omega) ?_
        refine r_go rfl rfl ?_
        refine r_move rfl rfl ?_
        refine r_go rfl rfl ?_
        refine r_callx rfl rfl rfl (by kernel_rfl) rfl (fun w hw => by exact diff23 (rs.take m) rs A2 A2 c2 c2 (fun r hr => hpat r (List.mem_of_mem_take hr)) hpat (by rw [List.length_take]; omega) (by omega) w (by rw [recsL_take hpat (by omega)]; exact (own_rd (A := A2) (m := rs.length) (c := c2) hw).take _) (own_rd (A := A2) (m := rs.length) (c := c2) hw)) ?_
        rintro d100 hd100
        refine r_go rfl rfl ?_
        refine r_move rfl rfl ?_
        refine r_go rfl rfl ?_
        obtain rfl := diff_cut2 hpat hmr hd100
        refine r_eql (p := true) rfl rfl rfl (decide_eq_true rfl) ?_
        refine r_pick_t rfl rfl rfl ?_
        refine r_assign rfl rfl ?_
        refine r_nil ?_
        refine r_tn ?_
        refine r_ret ?_
        refine r_tr ?_
        exact r_done1 (.inl rfl) rfl (res_tmp rfl) fun w hw => ⟨rfl, hw.clear⟩
      · refine r_skip ?_
        refine r_tn ?_
        refine r_seq ?_
        refine r_region ?_
        refine r_move rfl rfl ?_
        refine r_move rfl rfl ?_
        refine r_callx rfl rfl rfl (by kernel_rfl) rfl (fun w hw => by exact diff23 rs rs A2 A42 c2 c42 hpat hpat (by omega) (by omega) w (own_rd (A := A2) (m := rs.length) (c := c2) hw) (own_rd (A := A42) (m := rs.length) (c := c42) hw)) ?_
        rintro d106 hd106
        obtain rfl := diff_same hpat hd106
        refine r_eql (p := true) rfl rfl rfl (decide_eq_true rfl) ?_
        refine r_assign rfl rfl ?_
        refine r_nil ?_
        refine r_tn ?_
        refine r_ret ?_
        exact r_done1 (.inl rfl) rfl (res_tmp rfl) fun w hw => ⟨rfl, hw.clear⟩
end Go.Proofs.Ytgicjkjppnkodaa
