/- Trees as they grow: the tree functions over plain trees; what is built of members; what the statements of chapter 13 make. -/
import Derived.Test.YtiofobdmkkbmlaaDoorLTree
import Derived.Test.YtiofobdmkkbmlaaDoorF27
import Derived.Test.YtiofobdmkkbmlaaDoorF25
import Derived.Test.YtiofobdmkkbmlaaDoorF19
import Derived.Test.YtiofobdmkkbmlaaDoorF21
import Derived.Test.YtiofobdmkkbmlaaDoorF16
import Derived.Test.YtiofobdmkkbmlaaDoorF9
namespace Go.Proofs.YtiofobdmkkbmlaaDoor.Pure
set_option linter.unusedVariables false
set_option linter.unusedSimpArgs false
open Go.RowKit Go.Proofs.YtiofobdmkkbmlaaDoor.F Go.Proofs.YtiofobdmkkbmlaaDoorW.PrintWords Go.Proofs.YtiofobdmkkbmlaaDoorW.PrintLast Go.Proofs.YtiofobdmkkbmlaaDoorW.PrintMore

theorem ri64 {a : Int} (h : (Lit.int .i64 a).wf = true) : -9223372036854775808 ≤ a ∧ a ≤ 9223372036854775807 := by
  simp only [Lit.wf, IntKind.min, IntKind.max, IntKind.signed, IntKind.bits, Bool.and_eq_true, decide_eq_true_eq, if_true, Bool.false_eq_true, if_false] at h
  omega
theorem wr_in {n : Int} (h : -9223372036854775808 ≤ n ∧ n ≤ 9223372036854775807) : wrap64 n = n := by unfold wrap64; omega
theorem wr_next {i n : Nat} (h : i + 1 ≤ n) (hn : n < 9223372036854775808) : wrap64 ((i : Int) + 1) = ((i + 1 : Nat) : Int) := by unfold wrap64; omega
theorem rd_nat (l : List Int) (i : Nat) (h : i < l.length) : rd l (i : Int) = l[i] := by
  unfold rd; simp [List.getD_eq_getElem?_getD, List.getElem?_eq_getElem h]

/-! ### The tree functions at a tree's text -/
theorem right_small {t : Tr} (h : t.Right) : t.text.size ≤ 22 := by
  have h1 := right_len h
  have h2 := t.bytes_len
  have h3 : t.text.size = t.bytes.length := rfl
  omega
theorem right_big {t : Tr} (h : t.Right) : t.text.size ≤ 1000 := by have := right_small h; omega
theorem leaf_right {p : Int} (h : 1 ≤ p ∧ p ≤ 8) : (Tr.leaf p).Right := ⟨fun x hx => by rw [List.mem_singleton.mp hx]; exact h, by simp [Tr.leaves]⟩
theorem leaf_t {p : Int} (h : 1 ≤ p ∧ p ≤ 8) : tree_Leaf.f p = some ((Tr.leaf p).text, 0) := leaf_good h
theorem members_t {t : Tr} (h : t.Right) : tree_Members.f t.text = some t.mems := by
  unfold tree_Members.f memsT
  rw [if_pos (right_big h), treeOf_text h]
theorem depth_t {t : Tr} (h : t.Right) : tree_Depth.f t.text = some (t.depth : Int) := by
  unfold tree_Depth.f depthT
  rw [if_pos (right_big h), treeOf_text h]
theorem right_t {t : Tr} (h : t.Right) : tree_Right.f t.text = some true := by
  unfold tree_Right.f
  rw [if_pos (right_big h), treeOf_text h]; rfl
theorem join_in {t : Tr} (h : t.Right) {p : Int} (hm : p ∈ t.leaves) : tree_Join.f t.text p = some (⟨#[]⟩, 1) := by
  unfold tree_Join.f joinT
  rw [if_pos (right_big h), treeOf_text h]
  show some (if _ then _ else _) = _
  rw [if_neg (fun x => x.2 hm)]
theorem join_out {t : Tr} (h : t.Right) {p : Int} (hp : 1 ≤ p ∧ p ≤ 8) (hm : p ∉ t.leaves) : tree_Join.f t.text p = some ((t.join p).text, 0) := by
  unfold tree_Join.f joinT
  rw [if_pos (right_big h), treeOf_text h]
  show some (if _ then _ else _) = _
  rw [if_pos ⟨hp, hm⟩]
theorem leave_one {q p : Int} (h : (Tr.leaf q).Right) : tree_Leave.f (Tr.leaf q).text p = some (⟨#[]⟩, 8) := by
  unfold tree_Leave.f leaveT
  rw [if_pos (right_big h), treeOf_text h]
theorem leave_not {t : Tr} (h : t.Right) {p : Int} (hm : p ∉ t.leaves) : tree_Leave.f t.text p = some (⟨#[]⟩, 8) := by
  cases t with
  | leaf q => exact leave_one h
  | node l r =>
    unfold tree_Leave.f leaveT
    rw [if_pos (right_big h), treeOf_text h]
    show some (if _ then _ else _) = _
    rw [if_neg hm]
theorem leave_in {t u : Tr} (h : t.Right) {p : Int} (h2 : 2 ≤ t.leaves.length) (hm : p ∈ t.leaves) (hu : t.out p = some u) : tree_Leave.f t.text p = some (u.text, 0) := by
  cases t with
  | leaf q => simp [Tr.leaves] at h2
  | node l r =>
    unfold tree_Leave.f leaveT
    rw [if_pos (right_big h), treeOf_text h]
    show some (if _ then _ else _) = _
    rw [if_pos hm, hu]; rfl
theorem merge_meet {a b : Tr} (ha : a.Right) (hb : b.Right) {x : Int} (h1 : x ∈ a.leaves) (h2 : x ∈ b.leaves) : tree_Merge.f a.text b.text = some (⟨#[]⟩, 1) := by
  unfold tree_Merge.f mergeS
  rw [if_pos ⟨right_big ha, right_big hb⟩, treeOf_text ha, treeOf_text hb]
  show some (if _ then _ else _) = _
  rw [if_pos]
  exact List.length_pos_of_mem (List.mem_filter.mpr ⟨mems_mem.mpr h1, List.contains_iff_mem.mpr (mems_mem.mpr h2)⟩)
theorem merge_apart {a b : Tr} (ha : a.Right) (hb : b.Right) (h : ∀ x ∈ a.leaves, x ∉ b.leaves) : tree_Merge.f a.text b.text = some ((mergeT a b).text, 0) := by
  unfold tree_Merge.f mergeS
  rw [if_pos ⟨right_big ha, right_big hb⟩, treeOf_text ha, treeOf_text hb]
  show some (if _ then _ else _) = _
  rw [if_neg]
  intro hc
  obtain ⟨x, hx⟩ := List.exists_mem_of_length_pos hc
  have := List.mem_filter.mp hx
  exact h x (mems_mem.mp this.1) (mems_mem.mp (List.contains_iff_mem.mp this.2))
theorem node_right {a b : Tr} (ha : a.Right) (hb : b.Right) (h : ∀ x ∈ a.leaves, x ∉ b.leaves) : (Tr.node a b).Right :=
  ⟨Tr.Ok.node ha.1 hb.1, List.nodup_append.mpr ⟨ha.2, hb.2, fun x hx y hy e => h x hx (e ▸ hy)⟩⟩
theorem merge_right {a b : Tr} (ha : a.Right) (hb : b.Right) (h : ∀ x ∈ a.leaves, x ∉ b.leaves) : (mergeT a b).Right := by
  unfold mergeT
  by_cases c : greaterT a b = true
  · rw [if_pos c]; exact node_right ha hb h
  · rw [if_neg c]; exact node_right hb ha (fun x hx hy => h x hy hx)
theorem merge_leaves (a b : Tr) : (mergeT a b).leaves.Perm (a.leaves ++ b.leaves) := by
  unfold mergeT
  by_cases c : greaterT a b = true
  · rw [if_pos c]; exact .refl _
  · rw [if_neg c]; exact List.perm_append_comm
theorem merge_depth (a b : Tr) : (mergeT a b).depth = 1 + max a.depth b.depth := by
  unfold mergeT
  by_cases c : greaterT a b = true
  · rw [if_pos c]; rfl
  · rw [if_neg c]; show 1 + max b.depth a.depth = _; omega

/-! ### pick, made -/
theorem pick13 {c n : Int} (h : -9223372036854775808 ≤ c ∧ c ≤ 9223372036854775807) (h0 : 0 < n) (h1 : n ≤ 100000) : ∃ v, gemotlaw13_pick.f c n = some v ∧ 0 ≤ v ∧ v < n := by
  refine ⟨_, if_pos ⟨h.1, h.2, h0, by omega⟩, Int.emod_nonneg _ (by omega), Int.emod_lt_of_pos _ h0⟩
theorem made_step (l : List Int) (hl : l.length < 9223372036854775808) (hw : ∀ x ∈ l, (Lit.int .i64 x).wf = true) (t : Tr) (ht : t.Right) (i : Nat) (hi : i < l.length) (h40 : i < 40) :
    ∃ t1 : Tr, t1.Right ∧ ∀ k, gemotlaw13_made.l0 (k + 3) l t.text i = gemotlaw13_made.l0 k l t1.text ((i + 1 : Nat) : Int) := by
  have hr := ri64 (hw l[i] (List.getElem_mem hi))
  have hz : -9223372036854775808 ≤ Int.tdiv l[i] 3 ∧ Int.tdiv l[i] 3 ≤ 9223372036854775807 := by
    have hab : (Int.tdiv l[i] 3).natAbs = l[i].natAbs / 3 := Int.natAbs_tdiv l[i] 3
    clear hl h40 ht
    omega
  have hd : wrap64 (Int.tdiv l[i] 3) = Int.tdiv l[i] 3 := wr_in hz
  obtain ⟨v, hv, v0, v1⟩ := pick13 (c := wrap64 (Int.tdiv l[i] 3)) (n := 8) (by rw [hd]; exact hz) (by decide) (by decide)
  obtain ⟨m, hm, m0, m1⟩ := pick13 (c := l[i]) (n := 3) hr (by decide) (by decide)
  have hp : wrap64 (1 + v) = 1 + v := wr_in (by omega)
  have hP : 1 ≤ 1 + v ∧ 1 + v ≤ 8 := by omega
  have hx : wrap64 ((i : Int) + 1) = ((i + 1 : Nat) : Int) := wr_next (n := l.length) (by omega) (by omega)
  obtain ⟨a, e, hj, ha⟩ : ∃ a e, tree_Join.f t.text (1 + v) = some (a, e) ∧ (e = 0 → ∃ u : Tr, u.Right ∧ a = u.text) := by
    by_cases c : 1 + v ∈ t.leaves
    · exact ⟨_, _, join_in ht c, fun h => absurd h (by decide)⟩
    · exact ⟨_, _, join_out ht hP c, fun _ => ⟨_, join_right ht hP c, rfl⟩⟩
  obtain ⟨b, f, hL, hb⟩ : ∃ a e, tree_Leave.f t.text (1 + v) = some (a, e) ∧ (e = 0 → ∃ u : Tr, u.Right ∧ a = u.text) := by
    by_cases c : 1 + v ∈ t.leaves
    · by_cases c2 : 2 ≤ t.leaves.length
      · obtain ⟨u, hu⟩ := out_some (p := 1 + v) c2 ht.2
        exact ⟨_, _, leave_in ht c2 c hu, fun _ => ⟨u, (out_right ht hu).1, rfl⟩⟩
      · cases t with
        | leaf q => exact ⟨_, _, leave_one ht, fun h => absurd h (by decide)⟩
        | node x y => exact absurd (by have := x.leaves_pos; have := y.leaves_pos; show 2 ≤ (x.leaves ++ y.leaves).length; rw [List.length_append]; omega) c2
    · exact ⟨_, _, leave_not ht c, fun h => absurd h (by decide)⟩
  obtain ⟨c, g, hM, hc⟩ : ∃ a e, tree_Merge.f t.text (Tr.leaf (1 + v)).text = some (a, e) ∧ (e = 0 → ∃ u : Tr, u.Right ∧ a = u.text) := by
    by_cases c : 1 + v ∈ t.leaves
    · exact ⟨_, _, merge_meet ht (leaf_right hP) c (List.mem_singleton_self _), fun h => absurd h (by decide)⟩
    · have hap : ∀ x ∈ t.leaves, x ∉ (Tr.leaf (1 + v)).leaves := fun x hx hy => c (List.mem_singleton.mp hy ▸ hx)
      exact ⟨_, _, merge_apart ht (leaf_right hP) hap, fun _ => ⟨_, merge_right ht (leaf_right hP) hap, rfl⟩⟩
  clear hz
  -- what the pick of the last step gives
  have key : ∀ (a2 : ByteArray) (e2 : Int), (e2 = 0 → ∃ u : Tr, u.Right ∧ a2 = u.text) → ∃ t1 : Tr, t1.Right ∧ ∀ k, gemotlaw13_made.j2 (k + 1) l t.text i (Tr.leaf (1 + v)).text a2 e2 = gemotlaw13_made.l0 k l t1.text ((i + 1 : Nat) : Int) := by
    intro a2 e2 h2
    have hj2 : ∀ k, gemotlaw13_made.j2 (k + 1) l t.text i (Tr.leaf (1 + v)).text a2 e2 = if m = 2 then (if g = 0 then gemotlaw13_made.l0 k l c ((i + 1 : Nat) : Int) else gemotlaw13_made.l0 k l t.text ((i + 1 : Nat) : Int)) else (if e2 = 0 then gemotlaw13_made.l0 k l a2 ((i + 1 : Nat) : Int) else gemotlaw13_made.l0 k l t.text ((i + 1 : Nat) : Int)) := by
      intro k
      rw [gemotlaw13_made.j2, if_pos (by omega), if_pos (by omega), rd_nat l i hi, hm, Option.bind_some, hx]
      by_cases c2 : m = 2
      · rw [if_pos c2, if_pos c2, hM, Option.bind_some]
      · rw [if_neg c2, if_neg c2]
    by_cases c2 : m = 2
    · by_cases c3 : g = 0
      · obtain ⟨u, hu, rfl⟩ := hc c3
        exact ⟨u, hu, fun k => by rw [hj2, if_pos c2, if_pos c3]⟩
      · exact ⟨t, ht, fun k => by rw [hj2, if_pos c2, if_neg c3]⟩
    · by_cases c3 : e2 = 0
      · obtain ⟨u, hu, rfl⟩ := h2 c3
        exact ⟨u, hu, fun k => by rw [hj2, if_neg c2, if_pos c3]⟩
      · exact ⟨t, ht, fun k => by rw [hj2, if_neg c2, if_neg c3]⟩
  have hj1 : ∀ k, gemotlaw13_made.l0 (k + 3) l t.text i = if m = 1 then gemotlaw13_made.j2 (k + 1) l t.text i (Tr.leaf (1 + v)).text b f else gemotlaw13_made.j2 (k + 1) l t.text i (Tr.leaf (1 + v)).text a e := by
    intro k
    rw [gemotlaw13_made.l0, if_pos (by omega), show (decide ((i : Int) < 40)) = true from decide_eq_true (by omega), gemotlaw13_made.j1, if_pos rfl, if_pos (by omega), if_pos (by omega), rd_nat l i hi, hv, Option.bind_some, hp, leaf_t hP, Option.bind_some, hj, Option.bind_some, hm, Option.bind_some]
    by_cases c2 : m = 1
    · rw [if_pos c2, if_pos c2, hL, Option.bind_some]
    · rw [if_neg c2, if_neg c2]
  by_cases c2 : m = 1
  · obtain ⟨t1, h1, h2⟩ := key b f hb
    exact ⟨t1, h1, fun k => by rw [hj1, if_pos c2, h2]⟩
  · obtain ⟨t1, h1, h2⟩ := key a e ha
    exact ⟨t1, h1, fun k => by rw [hj1, if_neg c2, h2]⟩
theorem made_end (l : List Int) (t : Tr) (i : Nat) (h : ¬ (i < l.length ∧ i < 40)) (k : Nat) : gemotlaw13_made.l0 (k + 2) l t.text i = some t.text := by
  rw [gemotlaw13_made.l0]
  by_cases c : i < l.length
  · rw [if_pos (by omega), show (decide ((i : Int) < 40)) = false from decide_eq_false (by omega), gemotlaw13_made.j1, if_neg (by decide)]
  · rw [if_neg (by omega), gemotlaw13_made.j1, if_neg (by decide)]
theorem made_go (l : List Int) (hl : l.length < 9223372036854775808) (hw : ∀ x ∈ l, (Lit.int .i64 x).wf = true) : ∀ (d i : Nat) (t : Tr), t.Right → i + d = 40 →
    ∃ t1 : Tr, t1.Right ∧ ∀ k, 3 * d + 2 ≤ k → gemotlaw13_made.l0 k l t.text i = some t1.text
  | 0, i, t, ht, hi => ⟨t, ht, fun k hk => by
      obtain ⟨j, rfl⟩ : ∃ j, k = j + 2 := ⟨k - 2, by omega⟩
      exact made_end l t i (by omega) j⟩
  | d + 1, i, t, ht, hi => by
    by_cases c : i < l.length
    · obtain ⟨t1, h1, h2⟩ := made_step l hl hw t ht i c (by omega)
      obtain ⟨t2, h3, h4⟩ := made_go l hl hw d (i + 1) t1 h1 (by omega)
      refine ⟨t2, h3, fun k hk => ?_⟩
      obtain ⟨j, rfl⟩ : ∃ j, k = j + 3 := ⟨k - 3, by omega⟩
      rw [h2]; exact h4 j (by omega)
    · refine ⟨t, ht, fun k hk => ?_⟩
      obtain ⟨j, rfl⟩ : ∃ j, k = j + 2 := ⟨k - 2, by omega⟩
      exact made_end l t i (by omega) j
theorem made13 (l : List Int) (hl : l.length < 9223372036854775808) (hw : ∀ x ∈ l, (Lit.int .i64 x).wf = true) : ∃ t : Tr, t.Right ∧ ∀ k, 200 ≤ k → gemotlaw13_made.f k l = some t.text := by
  obtain ⟨t, h1, h2⟩ := made_go l hl hw 40 0 (.leaf 1) (leaf_right (by decide)) (by omega)
  exact ⟨t, h1, fun k hk => h2 k (by omega)⟩

/-! ### Build -/
theorem build_l0 (l : List Int) (hl : l.length ≤ 8) (hr : ∀ x ∈ l, 1 ≤ x ∧ x ≤ 8) : ∀ (d k i : Nat) (t : Tr), t.Right → i + d = l.length → d < k → (l.drop i).Nodup → (∀ x ∈ l.drop i, x ∉ t.leaves) →
    tree_Build.l0 k t.text l l.length i = some (((l.drop i).foldl Tr.join t).text, 0) ∧ ((l.drop i).foldl Tr.join t).Right
  | 0, k + 1, i, t, ht, hi, hk, hn, hx => by
    rw [tree_Build.l0, if_neg (by omega), List.drop_eq_nil_of_le (by omega)]
    exact ⟨rfl, ht⟩
  | d + 1, k + 1, i, t, ht, hi, hk, hn, hx => by
    have hlt : i < l.length := by omega
    have hd := List.drop_eq_getElem_cons hlt
    rw [hd] at hn hx
    have hp := hr l[i] (List.getElem_mem hlt)
    have hm : l[i] ∉ t.leaves := hx _ (List.mem_cons_self ..)
    have hnn := List.nodup_cons.mp hn
    have ih := build_l0 l hl hr d k (i + 1) (t.join l[i]) (join_right ht hp hm) (by omega) (by omega) hnn.2 (fun x hx2 hx3 => by
      rcases List.mem_append.mp ((join_leaves t l[i]).mem_iff.mp hx3) with h | h
      · exact hx x (List.mem_cons_of_mem _ hx2) h
      · exact hnn.1 (List.mem_singleton.mp h ▸ hx2))
    rw [tree_Build.l0, if_pos (by omega), if_pos (by omega), if_pos (by omega), rd_nat l i hlt, join_out ht hp hm, Option.bind_some, if_pos rfl, wr_next (n := l.length) (by omega) (by omega), hd, List.foldl_cons]
    exact ih
theorem build_ok {x : Int} {l : List Int} (h : upB 0 (x :: l) = true) (k : Nat) (hk : 10 ≤ k) : tree_Build.f k (x :: l) = some ((l.foldl Tr.join (.leaf x)).text, 0) ∧ (l.foldl Tr.join (.leaf x)).Right := by
  obtain ⟨h1, h2, _⟩ := (upB_iff _ 0 (by omega)).mp h
  have hc := List.pairwise_cons.mp h1
  have hr : ∀ y ∈ x :: l, 1 ≤ y ∧ y ≤ 8 := fun y hy => ⟨by have := hc.1 y hy; omega, h2 y hy⟩
  have hn : (x :: l).Nodup := hc.2.imp (fun h => by omega)
  have hlen : (x :: l).length ≤ 8 := by
    have hs : ∀ (m : List Int) (a : Int), (a :: m).Pairwise (· < ·) → (∀ y ∈ m, y ≤ 8) → (m.length : Int) ≤ max 0 (8 - a) := by
      intro m
      induction m with
      | nil => intro a _ _; simp; omega
      | cons b m ih =>
        intro a h3 h4
        have h5 := List.pairwise_cons.mp h3
        have h6 := h5.1 b (List.mem_cons_self ..)
        have h7 := h4 b (List.mem_cons_self ..)
        have := ih b h5.2 (fun y hy => h4 y (List.mem_cons_of_mem _ hy))
        rw [List.length_cons]; omega
    have := hs (x :: l) 0 h1 h2
    omega
  have hx := hr x (List.mem_cons_self ..)
  have hnn := List.nodup_cons.mp hn
  have hb := build_l0 l (by rw [List.length_cons] at hlen; omega) (fun y hy => hr y (List.mem_cons_of_mem _ hy)) l.length k 0 (.leaf x) (leaf_right hx) (by omega) (by rw [List.length_cons] at hlen; omega) hnn.2 (fun y hy hm => hnn.1 (List.mem_singleton.mp hm ▸ hy))
  rw [List.drop_zero] at hb
  refine ⟨?_, hb.2⟩
  unfold tree_Build.f view_Row.f
  rw [if_pos (by omega), Option.bind_some, h, if_pos rfl, if_pos (by rw [List.length_cons]; omega), show rd (x :: l) 0 = x from rfl, leaf_t hx, Option.bind_some, if_pos (by rw [List.length_cons]; omega)]
  exact hb.1
theorem build_none (k : Nat) : tree_Build.f k [] = some (⟨#[]⟩, 1) := rfl
theorem foldl_leaves : ∀ (l : List Int) (t : Tr), (l.foldl Tr.join t).leaves.Perm (t.leaves ++ l)
  | [], t => by rw [List.append_nil]; exact .refl _
  | x :: l, t => by
    rw [List.foldl_cons]
    refine (foldl_leaves l _).trans ?_
    rw [show t.leaves ++ x :: l = (t.leaves ++ [x]) ++ l from by simp]
    exact (join_leaves t x).append_right _
theorem shown_tree : [2, 3, 4, 5].foldl Tr.join (Tr.leaf 1) = .node (.node (.node (.leaf 1) (.leaf 2)) (.node (.leaf 3) (.leaf 4))) (.leaf 5) := by
  simp [Tr.join, Tr.put, Tr.place, Tr.full, Tr.depth, Tr.leaves]
theorem shown13 (k : Nat) (hk : 10 ≤ k) : gemotlaw13_shown.f k = some true := by
  have h := (build_ok (x := 1) (l := [2, 3, 4, 5]) (by decide) k hk).1
  rw [shown_tree] at h
  unfold gemotlaw13_shown.f
  rw [h, Option.bind_some, if_pos (by rw [ByteArray.toList_eq]; rfl)]
  rfl
end Go.Proofs.YtiofobdmkkbmlaaDoor.Pure
