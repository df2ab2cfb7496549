/- The pure side of WatchRow: who is there is a row with me in it, and more ticks take none in. -/
import Derived.Test.YtenmlpkgodnjnaaF7
namespace Go.Proofs.Ytenmlpkgodnjnaa.Pure
open Go.RowKit Go.Proofs.Ytenmlpkgodnjnaa.F Go.Proofs.YtenmlpkgodnjnaaW.PrintWords Go.Proofs.YtenmlpkgodnjnaaW.PrintLast Go.Proofs.YtenmlpkgodnjnaaW.PrintMore

theorem wr_drop (l : List Int) (i : Int) (h0 : 0 ≤ i) (h : i < l.length) : l.drop i.toNat = rd l i :: l.drop (i + 1).toNat := by
  have h1 : i.toNat < l.length := by omega
  rw [List.drop_eq_getElem_cons h1, show (i + 1).toNat = i.toNat + 1 by omega]
  congr 1
  simp [rd, List.getD_eq_getElem?_getD, h1]
theorem wr_rd (l : List Int) (i : Int) (h0 : 0 ≤ i) (h : i < l.length) : ∃ h1 : i.toNat < l.length, rd l i = l[i.toNat] := by
  have h1 : i.toNat < l.length := by omega
  exact ⟨h1, by simp [rd, List.getD_eq_getElem?_getD, h1]⟩
theorem wr_mem (lim : Int) (q : List Int) (x : Int) : x ∈ thereL lim q ↔ ∃ j : Nat, ∃ v : Int, q[j]? = some v ∧ v ≤ lim ∧ x = (j : Int) + 1 := by
  unfold thereL
  rw [List.mem_map]
  constructor
  · rintro ⟨⟨v, j⟩, hm, rfl⟩
    rw [List.mem_filter, List.mem_zipIdx_iff_getElem?] at hm
    exact ⟨j, v, hm.1, by simpa using hm.2, rfl⟩
  · rintro ⟨j, v, h, hq, rfl⟩
    exact ⟨(v, j), List.mem_filter.mpr ⟨List.mem_zipIdx_iff_getElem?.mpr h, by simpa using hq⟩, rfl⟩
theorem wr_rises (lim : Int) : ∀ (n : Nat) (q : List Int), q.length = n → (thereL lim q).Pairwise (· < ·) ∧ ∀ x ∈ thereL lim q, 1 ≤ x ∧ x ≤ n := by
  intro n
  induction n with
  | zero =>
    intro q hq
    obtain rfl := List.eq_nil_of_length_eq_zero hq
    simp [thereL]
  | succ n ih =>
    intro q hq
    rcases List.eq_nil_or_concat q with rfl | ⟨q', v, rfl⟩
    · simp at hq
    have h1 := ih q' (by simpa using hq)
    have hn : q'.length = n := by simpa using hq
    rw [List.concat_eq_append, thereL_snoc]
    split
    · refine ⟨List.pairwise_append.mpr ⟨h1.1, by simp, fun x hx y hy => ?_⟩, fun x hx => ?_⟩
      · have := h1.2 x hx
        simp at hy; omega
      · rcases List.mem_append.mp hx with hx | hx
        · have := h1.2 x hx; omega
        · simp at hx; omega
    · rw [List.append_nil]
      exact ⟨h1.1, fun x hx => by have := h1.2 x hx; omega⟩
theorem has_l0 (l : List Int) (x : Int) (hl : l.length ≤ 1000) : ∀ (d k : Nat) (i : Int), 0 ≤ i → i ≤ l.length → (l.length : Int) - i = d → d < k → gemotlaw9_has.l0 k l x i = some ((l.drop i.toNat).contains x) := by
  intro d
  induction d with
  | zero =>
    intro k i h0 h1 hd hk
    obtain ⟨k, rfl⟩ : ∃ m, k = m + 1 := ⟨k - 1, by omega⟩
    simp only [gemotlaw9_has.l0]
    rw [if_neg (by omega), List.drop_eq_nil_of_le (by omega)]
    rfl
  | succ d ih =>
    intro k i h0 h1 hd hk
    obtain ⟨k, rfl⟩ : ∃ m, k = m + 1 := ⟨k - 1, by omega⟩
    have hw : wrap64 (i + 1) = i + 1 := by unfold wrap64; omega
    simp only [gemotlaw9_has.l0]
    rw [if_pos (by omega), if_pos h0, hw, wr_drop l i h0 (by omega), ih k (i + 1) (by omega) (by omega) (by omega) (by omega), List.contains_cons]
    by_cases c : rd l i = x
    · rw [if_pos c, c]; simp
    · rw [if_neg c]
      have : (x == rd l i) = false := beq_eq_false_iff_ne.mpr (fun h => c h.symm)
      rw [this, Bool.false_or]
theorem has_f (k : Nat) (l : List Int) (x : Int) (hl : l.length ≤ 1000) (hk : l.length < k) : gemotlaw9_has.f k l x = some (l.contains x) :=
  has_l0 l x hl l.length k 0 (Int.le_refl _) (by omega) (by omega) hk
section
variable (me lim : Int)
/-- What a watch's counters are, whatever is heard. -/
def Inv (q : List Int) : Prop := q.length = 8 ∧ q[(me - 1).toNat]? = some 0 ∧ ∀ (j : Nat) (v : Int), q[j]? = some v → 0 ≤ v ∧ v ≤ lim + 1
variable (hm : 1 ≤ me ∧ me ≤ 8) (hl : 1 ≤ lim ∧ lim ≤ 100)
theorem Inv.hear {q : List Int} (h : Inv me lim q) (hl : 1 ≤ lim) (p : Int) : Inv me lim (hearQ q p) := by
  unfold hearQ
  split
  case isFalse => exact h
  refine ⟨by rw [List.length_set]; exact h.1, ?_, fun j v hv => ?_⟩
  · rw [List.getElem?_set]
    split
    · rw [if_pos (by omega)]
    · exact h.2.1
  · rw [List.getElem?_set] at hv
    split at hv
    · split at hv
      · cases hv; omega
      · cases hv
    · exact h.2.2 j v hv
include hm hl in
theorem inv_new : Inv me lim (hearQ (List.replicate 8 (lim + 1)) me) := by
  unfold hearQ
  rw [if_pos ⟨hm.1, by simp; omega⟩]
  refine ⟨by simp, ?_, fun j v hv => ?_⟩
  · rw [List.getElem?_set, if_pos rfl, if_pos (by simp; omega)]
  · rw [List.getElem?_set] at hv
    split at hv
    · split at hv
      · cases hv; omega
      · cases hv
    · rw [List.getElem?_replicate] at hv
      split at hv
      · cases hv; omega
      · cases hv
include hl in
theorem tick_get {q : List Int} (h : Inv me lim q) (j : Nat) (v' : Int) (hv : (tickQ me lim q)[j]? = some v') : ∃ v, q[j]? = some v ∧ v' = (if (j : Int) + 1 = me then v else if v + 1 < lim + 1 then v + 1 else lim + 1) := by
  unfold tickQ at hv
  rw [List.getElem?_mapIdx, Option.map_eq_some_iff] at hv
  obtain ⟨v, h1, h2⟩ := hv
  have h3 := h.2.2 j v h1
  have w1 : wrap64 (v + 1) = v + 1 := by unfold wrap64; omega
  have w2 : wrap64 (lim + 1) = lim + 1 := by unfold wrap64; omega
  refine ⟨v, h1, ?_⟩
  rw [← h2]
  unfold tick1
  rw [w1, w2]
  unfold mn
  (repeat' split) <;> omega
include hm hl in
theorem Inv.tick {q : List Int} (h : Inv me lim q) : Inv me lim (tickQ me lim q) := by
  refine ⟨by unfold tickQ; rw [List.length_mapIdx]; exact h.1, ?_, fun j v' hv => ?_⟩
  · unfold tickQ
    rw [List.getElem?_mapIdx, h.2.1]
    simp only [Option.map_some, tick1]
    rw [if_pos (by omega)]
  · obtain ⟨v, h1, h2⟩ := tick_get me lim hl h j v' hv
    have h3 := h.2.2 j v h1
    rw [h2]
    (repeat' split) <;> omega
include hm hl in
theorem Inv.me_there {q : List Int} (h : Inv me lim q) : me ∈ thereL lim q := (wr_mem lim q me).mpr ⟨(me - 1).toNat, 0, h.2.1, by omega, by omega⟩
include hl in
theorem heard_there {q : List Int} (h : Inv me lim q) (p : Int) (hp : 1 ≤ p ∧ p ≤ 8) : p ∈ thereL lim (hearQ q p) := by
  refine (wr_mem lim _ p).mpr ⟨(p - 1).toNat, 0, ?_, by omega, by omega⟩
  have := h.1
  unfold hearQ
  rw [if_pos ⟨hp.1, by omega⟩, List.getElem?_set, if_pos rfl, if_pos (by omega)]
include hl in
theorem tick_there {q : List Int} (h : Inv me lim q) (x : Int) (hx : x ∈ thereL lim (tickQ me lim q)) : x ∈ thereL lim q := by
  obtain ⟨j, v', h1, h2, h3⟩ := (wr_mem lim _ x).mp hx
  obtain ⟨v, h4, h5⟩ := tick_get me lim hl h j v' h1
  refine (wr_mem lim q x).mpr ⟨j, v, h4, ?_, h3⟩
  rw [h5] at h2
  (repeat' split at h2) <;> omega
theorem there8 {q : List Int} (h : Inv me lim q) : (thereL lim q).length ≤ 8 := by have := thereL_len lim q; have := h.1; omega
include hm hl in
theorem wr_l3 (q q2 : List Int) (h : Inv me lim q) (h2 : Inv me lim q2) (hs : ∀ x ∈ thereL lim q2, x ∈ thereL lim q) : ∀ (d k : Nat) (i : Int), 0 ≤ i → i ≤ (thereL lim q2).length → ((thereL lim q2).length : Int) - i = d → d + 20 < k →
    gemotlaw9_WatchRow.l3 k me (thereL lim q) (thereL lim q2) i = some true := by
  have n1 := there8 me lim h
  have n2 := there8 me lim h2
  intro d
  induction d with
  | zero =>
    intro k i h0 h1 hd hk
    obtain ⟨k, rfl⟩ : ∃ m, k = m + 1 := ⟨k - 1, by omega⟩
    simp only [gemotlaw9_WatchRow.l3]
    rw [if_neg (by omega), has_f k _ _ (by omega) (by omega), has_f k _ _ (by omega) (by omega)]
    simp only [Option.bind_some]
    rw [if_pos (List.contains_iff_mem.mpr (h.me_there me lim hm hl)), List.contains_iff_mem.mpr (h2.me_there me lim hm hl)]
  | succ d ih =>
    intro k i h0 h1 hd hk
    obtain ⟨k, rfl⟩ : ∃ m, k = m + 1 := ⟨k - 1, by omega⟩
    have hw : wrap64 (i + 1) = i + 1 := by unfold wrap64; omega
    have hr := wr_drop (thereL lim q2) i h0 (by omega)
    have hm2 : rd (thereL lim q2) i ∈ thereL lim q2 := List.mem_of_mem_drop (show _ ∈ (thereL lim q2).drop i.toNat by rw [hr]; exact List.mem_cons_self)
    simp only [gemotlaw9_WatchRow.l3]
    rw [if_pos (by omega), if_pos h0, has_f k _ _ (by omega) (by omega)]
    simp only [Option.bind_some]
    rw [if_pos (List.contains_iff_mem.mpr (hs _ hm2)), hw]
    exact ih k (i + 1) (by omega) (by omega) (by omega) (by omega)
include hm hl in
theorem wr_l2 (more : Int) (q : List Int) (h : Inv me lim q) : ∀ (d k : Nat) (i : Int) (q2 : List Int), 0 ≤ i → wrap64 (1 + Go.bits .and .i64 more 63) - i ≤ d → d + 40 < k → Inv me lim q2 → (∀ x ∈ thereL lim q2, x ∈ thereL lim q) →
    gemotlaw9_WatchRow.l2 k me more (thereL lim q) i me lim q2 = some true := by
  have hN : wrap64 (1 + Go.bits .and .i64 more 63) ≤ 9223372036854775807 := by unfold wrap64; omega
  intro d
  induction d with
  | zero =>
    intro k i q2 h0 hd hk h2 hs
    obtain ⟨k, rfl⟩ : ∃ m, k = m + 1 := ⟨k - 1, by omega⟩
    have n2 := there8 me lim h2
    simp only [gemotlaw9_WatchRow.l2, watch_There.f]
    rw [if_neg (by omega), if_pos (by have := h2.1; omega)]
    simp only [Option.bind_some]
    exact wr_l3 me lim hm hl q q2 h h2 hs (thereL lim q2).length k 0 (Int.le_refl _) (by omega) (by omega) (by omega)
  | succ d ih =>
    intro k i q2 h0 hd hk h2 hs
    obtain ⟨k, rfl⟩ : ∃ m, k = m + 1 := ⟨k - 1, by omega⟩
    have n2 := there8 me lim h2
    by_cases c : i < wrap64 (1 + Go.bits .and .i64 more 63)
    · have hw : wrap64 (i + 1) = i + 1 := by rw [wrap64]; omega
      simp only [gemotlaw9_WatchRow.l2, watch_Tick.f]
      rw [if_pos c, if_pos (by have := h2.1; omega), hw]
      simp only [Option.bind_some]
      exact ih k (i + 1) _ (by omega) (by omega) (by omega) (h2.tick me lim hm hl) (fun x hx => hs x (tick_there me lim hl h2 x hx))
    · simp only [gemotlaw9_WatchRow.l2, watch_There.f]
      rw [if_neg c, if_pos (by have := h2.1; omega)]
      simp only [Option.bind_some]
      exact wr_l3 me lim hm hl q q2 h h2 hs (thereL lim q2).length k 0 (Int.le_refl _) (by omega) (by omega) (by omega)
include hm hl in
theorem wr_l1 (more : Int) (q : List Int) (h : Inv me lim q) (N : Nat) (hN : wrap64 (1 + Go.bits .and .i64 more 63) ≤ N) : ∀ (d k : Nat) (i : Int), 0 ≤ i → i ≤ (thereL lim q).length → ((thereL lim q).length : Int) - i = d → d + N + 60 < k →
    gemotlaw9_WatchRow.l1 k me more (thereL lim q) i me lim q = some true := by
  have n1 := there8 me lim h
  have hr := wr_rises lim 8 q h.1
  intro d
  induction d with
  | zero =>
    intro k i h0 h1 hd hk
    obtain ⟨k, rfl⟩ : ∃ m, k = m + 1 := ⟨k - 1, by omega⟩
    simp only [gemotlaw9_WatchRow.l1]
    rw [if_neg (by omega)]
    exact wr_l2 me lim hm hl more q h N k 0 q (Int.le_refl _) (by omega) (by omega) h (fun x hx => hx)
  | succ d ih =>
    intro k i h0 h1 hd hk
    obtain ⟨k, rfl⟩ : ∃ m, k = m + 1 := ⟨k - 1, by omega⟩
    have hw : wrap64 (i + 1) = i + 1 := by unfold wrap64; omega
    have hw2 : wrap64 (i - 1) = i - 1 := by unfold wrap64; omega
    obtain ⟨hi, er⟩ := wr_rd (thereL lim q) i h0 (by omega)
    have hb := hr.2 _ (List.getElem_mem hi)
    rw [← er] at hb
    simp only [gemotlaw9_WatchRow.l1]
    rw [if_pos (by omega), if_pos h0, if_neg (by omega), if_neg (by omega), hw]
    have hgo := ih k (i + 1) (by omega) (by omega) (by omega) (by omega)
    by_cases c : i > 0
    · obtain ⟨hj, es⟩ := wr_rd (thereL lim q) (i - 1) (by omega) (by omega)
      have hp := List.pairwise_iff_getElem.mp hr.1 (i - 1).toNat i.toNat hj hi (by omega)
      rw [← er, ← es] at hp
      rw [if_pos c, hw2, if_pos (by omega), if_pos (by omega), if_neg (by omega)]
      exact hgo
    · rw [if_neg c]; exact hgo
include hm hl in
theorem wr_l0 (more : Int) (l : List Int) (hL : l.length ≤ 60) (N : Nat) (hN : wrap64 (1 + Go.bits .and .i64 more 63) ≤ N) : ∀ (d k : Nat) (i : Int) (q : List Int), 0 ≤ i → i ≤ l.length → (l.length : Int) - i = d → d + N + 100 < k → Inv me lim q →
    gemotlaw9_WatchRow.l0 k me l more i me lim q = some true := by
  intro d
  induction d with
  | zero =>
    intro k i q h0 h1 hd hk h
    obtain ⟨k, rfl⟩ : ∃ m, k = m + 1 := ⟨k - 1, by omega⟩
    have n1 := there8 me lim h
    simp only [gemotlaw9_WatchRow.l0, watch_There.f]
    rw [if_neg (by omega), if_pos (by have := h.1; omega)]
    simp only [Option.bind_some]
    exact wr_l1 me lim hm hl more q h N hN (thereL lim q).length k 0 (Int.le_refl _) (by omega) (by omega) (by omega)
  | succ d ih =>
    intro k i q h0 h1 hd hk h
    obtain ⟨k, rfl⟩ : ∃ m, k = m + 1 := ⟨k - 1, by omega⟩
    have hw : wrap64 (i + 1) = i + 1 := by unfold wrap64; omega
    have h8 := h.1
    have hh := h.hear me lim hl.1 (rd l i)
    have n1 := there8 me lim hh
    simp only [gemotlaw9_WatchRow.l0, watch_Tick.f, watch_Hear.f, watch_There.f]
    rw [if_pos (by omega), if_pos h0, hw]
    by_cases c : rd l i = 0
    · rw [if_pos c, if_pos (by omega)]
      simp only [Option.bind_some]
      exact ih k (i + 1) _ (by omega) (by omega) (by omega) (by omega) (h.tick me lim hm hl)
    · have hgo := ih k (i + 1) _ (by omega) (by omega) (by omega) (by omega) hh
      rw [if_neg c, if_pos (by omega)]
      simp only [Option.bind_some]
      by_cases c1 : rd l i ≥ 1
      · rw [if_pos c1]
        by_cases c2 : rd l i ≤ 8
        · rw [if_pos c2, if_pos (by have := hh.1; omega)]
          simp only [Option.bind_some]
          rw [has_f k _ _ (by omega) (by omega)]
          simp only [Option.bind_some]
          rw [if_pos (List.contains_iff_mem.mpr (heard_there me lim hl h _ ⟨c1, c2⟩))]
          exact hgo
        · rw [if_neg c2]; exact hgo
      · rw [if_neg c1]; exact hgo
end
theorem WatchRow : ∀ (a0 : Int) (a1 : Int) (l2 : List Int) (a3 : Int), ((Lit.int .i64 a0).wf = true) → ((Lit.int .i64 a1).wf = true) → (l2.length ≤ 9223372036854775807 ∧ ∀ y ∈ l2, (Lit.int .i64 y).wf = true) → ((Lit.int .i64 a3).wf = true) → ∃ k, gemotlaw9_WatchRow.f k a0 a1 l2 a3 = some true := by
  intro me lim l more _ _ _ _
  have jt : ∀ k a b c, gemotlaw9_WatchRow.j0 (k + 1) me l more true true a b c = some true := by
    intro k a b c
    simp only [gemotlaw9_WatchRow.j0]
    rw [if_pos trivial]
  refine ⟨(wrap64 (1 + Go.bits .and .i64 more 63)).toNat + 400 + 1, ?_⟩
  simp only [gemotlaw9_WatchRow.f, gemotlaw9_shown.f, watch_New.f, Option.bind_some]
  rw [if_pos trivial]
  by_cases ok : newOk me lim
  · rw [if_pos ok, if_pos rfl]
    obtain ⟨h1, h2, h3, h4⟩ := ok
    by_cases c : (l.length : Int) > 60
    · rw [decide_eq_true c]; exact jt _ _ _ _
    rw [decide_eq_false c]
    simp only [gemotlaw9_WatchRow.j0]
    rw [if_neg (by simp)]
    exact wr_l0 me lim ⟨h1, h2⟩ ⟨h3, h4⟩ more l (by omega) (wrap64 (1 + Go.bits .and .i64 more 63)).toNat (by omega) l.length _ 0 _ (Int.le_refl _) (by omega) (by omega) (by omega) (inv_new me lim ⟨h1, h2⟩ ⟨h3, h4⟩)
  · rw [if_neg ok, if_neg (by decide)]
    exact jt _ _ _ _
end Go.Proofs.Ytenmlpkgodnjnaa.Pure
