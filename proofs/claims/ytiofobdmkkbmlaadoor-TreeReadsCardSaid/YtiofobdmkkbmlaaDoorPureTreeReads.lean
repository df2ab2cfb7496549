/- The pure side of TreeReads: whether a text is a tree, whose, how deep, and who joins and leaves, are as the chapter says. -/
import Derived.Test.YtiofobdmkkbmlaaDoorLRefTree2
import Derived.Test.YtiofobdmkkbmlaaDoorF3
namespace Go.Proofs.YtiofobdmkkbmlaaDoor.Pure
set_option linter.unusedVariables false
set_option linter.unusedSimpArgs false
open Go.RowKit Go.Proofs.YtiofobdmkkbmlaaDoor.F Go.Proofs.YtiofobdmkkbmlaaDoorW.PrintWords Go.Proofs.YtiofobdmkkbmlaaDoorW.PrintLast Go.Proofs.YtiofobdmkkbmlaaDoorW.PrintMore

theorem join_ref (s : ByteArray) (hs : s.size < 100) (p : Int) (k : Nat) (hk : 3400 ≤ k) : gemotref13_Join.f k s p = tree_Join.f s p := by
  obtain ⟨j, rfl⟩ : ∃ j, k = j + 1 := ⟨k - 1, by omega⟩
  unfold gemotref13_Join.f tree_Join.f joinT
  rw [right_f s hs _ (by omega), Option.bind_some, if_pos (show s.size ≤ 1000 by omega)]
  have jt : gemotref13_Join.j0 (j + 1) s p true = some (⟨#[]⟩, 1) := by rw [gemotref13_Join.j0, if_pos rfl]
  cases hu : treeOf s with
  | none => rw [if_neg (by decide), jt]
  | some t =>
    obtain ⟨e1, e2⟩ := treeOf_some.mp hu
    have h8 := right_len e2
    have h9 := t.depth_lt
    rw [if_pos (by rfl)]
    simp only
    by_cases c1 : p < 1
    · rw [if_pos c1, jt, if_neg (fun q => by omega)]
    · by_cases c2 : p > 8
      · rw [if_neg c1, if_pos c2, jt, if_neg (fun q => by omega)]
      · rw [if_neg c1, if_neg c2, e1, digits_t e2.1 (right_big e2) _ (by have := right_small e2; omega), Option.bind_some, has_f _ _ (by omega), Option.bind_some]
        by_cases c3 : p ∈ t.leaves
        · rw [List.contains_iff_mem.mpr c3, ← e1, jt, if_neg (fun q => q.2 c3)]
        · have hb : t.leaves.contains p = false := Bool.eq_false_iff.mpr (fun q => c3 (List.contains_iff_mem.mp q))
          rw [hb, gemotref13_Join.j0, if_neg (by decide), place_f t e2 j (by omega), Option.bind_some, put_f p (by omega) t e2 c3 _ j (by omega), Option.bind_some, if_pos ⟨by omega, c3⟩]
          rfl
theorem leave_ref (s : ByteArray) (hs : s.size < 100) (p : Int) (k : Nat) (hk : 3400 ≤ k) : gemotref13_Leave.f k s p = tree_Leave.f s p := by
  unfold gemotref13_Leave.f tree_Leave.f leaveT
  rw [right_f s hs _ (by omega), Option.bind_some, if_pos (show s.size ≤ 1000 by omega)]
  cases hu : treeOf s with
  | none => rw [if_neg (by decide)]
  | some t =>
    obtain ⟨e1, e2⟩ := treeOf_some.mp hu
    have h8 := right_len e2
    have h9 := t.depth_lt
    rw [if_pos (by rfl), e1, digits_t e2.1 (right_big e2) _ (by have := right_small e2; omega), Option.bind_some, has_f _ _ (by omega), Option.bind_some]
    cases t with
    | leaf q =>
      simp only
      by_cases c : (Tr.leaf q).leaves.contains p = true
      · rw [if_pos c, if_pos (show ((Tr.leaf q).text.size : Int) = 1 from rfl)]
      · rw [if_neg c]
    | node l r =>
      simp only
      by_cases c : (Tr.node l r).leaves.contains p = true
      · have hm := List.contains_iff_mem.mp c
        have hp := e2.1 p hm
        rw [if_pos c, if_neg (node_size l r), out_f p hp _ e2 k (by omega), Option.bind_some, if_pos hm]
        rfl
      · rw [if_neg c, if_neg (fun q => c (List.contains_iff_mem.mpr q))]
theorem leaf_ref (p : Int) : gemotref13_Leaf.f p = tree_Leaf.f p := by
  by_cases c : 1 ≤ p ∧ p ≤ 8
  · rw [leaf_t c]
    unfold gemotref13_Leaf.f
    rw [if_neg (by omega), if_neg (by omega), leaf_f c, Option.bind_some]
  · unfold gemotref13_Leaf.f tree_Leaf.f
    by_cases a : p < 1
    · rw [if_pos a, if_pos a]
    · rw [if_neg a, if_neg a, if_pos (by omega), if_pos (by omega)]
theorem joinT_some (s : ByteArray) (h : s.size < 100) (p : Int) : ∃ a e, tree_Join.f s p = some (a, e) := ⟨_, _, if_pos (by omega)⟩
theorem leaveT_some (s : ByteArray) (h : s.size < 100) (p : Int) : ∃ a e, tree_Leave.f s p = some (a, e) := ⟨_, _, if_pos (by omega)⟩
theorem leafT_some (p : Int) : ∃ a e, tree_Leaf.f p = some (a, e) := by
  by_cases c : 1 ≤ p ∧ p ≤ 8
  · exact ⟨_, _, leaf_t c⟩
  · unfold tree_Leaf.f
    by_cases a : p < 1
    · rw [if_pos a]; exact ⟨_, _, rfl⟩
    · rw [if_neg a, if_pos (by omega)]; exact ⟨_, _, rfl⟩
theorem TreeReads (a0 : ByteArray) (a1 : Int) (h0 : a0.size ≤ 9223372036854775807) (h1 : (Lit.int .i64 a1).wf = true) : ∃ k, gemotlaw13_TreeReads.f k a0 a1 = some true := by
  refine ⟨5000, ?_⟩
  unfold gemotlaw13_TreeReads.f
  rw [shown13 5000 (by omega), Option.bind_some, if_pos rfl, gemotlaw13_TreeReads.j0]
  by_cases c : (a0.size : Int) > 90
  · rw [if_pos (decide_eq_true c)]
  · have hs : a0.size < 100 := by omega
    rw [if_neg (by rw [decide_eq_false c]; decide)]
    obtain ⟨a, e, hj⟩ := joinT_some a0 hs a1
    obtain ⟨b, f, hl⟩ := leaveT_some a0 hs a1
    obtain ⟨x, i, hx⟩ := leafT_some a1
    have hR : tree_Right.f a0 = some (treeOf a0).isSome := if_pos (by omega)
    rw [join_ref a0 hs a1 _ (by omega), leave_ref a0 hs a1 _ (by omega), leaf_ref, hj, hl, hx]
    simp only [Option.bind_some]
    rw [hR, right_f a0 hs _ (by omega), Option.bind_some, Option.bind_some, if_pos (beq_self_eq_true _)]
    have hm : ∃ m, tree_Members.f a0 = some m ∧ gemotref13_Members.f 4999 a0 = some m := by
      cases hu : treeOf a0 with
      | none =>
        refine ⟨[], ?_, members_none hs hu _ (by omega)⟩
        unfold tree_Members.f memsT
        rw [if_pos (by omega), hu]
      | some t =>
        obtain ⟨e1, e2⟩ := treeOf_some.mp hu
        exact ⟨t.mems, by rw [e1]; exact members_t e2, by rw [e1]; exact members_ref e2 _ (by omega)⟩
    obtain ⟨m, m1, m2⟩ := hm
    rw [m1, m2, Option.bind_some, Option.bind_some]
    show ((some (m == m)).bind _) = _
    rw [beq_self_eq_true, Option.bind_some, if_pos rfl]
    have hd : ∃ d, tree_Depth.f a0 = some d ∧ gemotref13_Depth.f 4999 a0 = some d := by
      cases hu : treeOf a0 with
      | none =>
        refine ⟨-1, ?_, ?_⟩
        · unfold tree_Depth.f depthT
          rw [if_pos (by omega), hu]
        · unfold gemotref13_Depth.f
          rw [right_f a0 hs _ (by omega), hu, Option.bind_some, if_neg (by decide)]
      | some t =>
        obtain ⟨e1, e2⟩ := treeOf_some.mp hu
        have h8 := right_len e2
        have h9 := t.depth_lt
        refine ⟨(t.depth : Int), by rw [e1]; exact depth_t e2, ?_⟩
        unfold gemotref13_Depth.f
        rw [right_f a0 hs _ (by omega), hu, Option.bind_some, if_pos (by rfl), e1, deep_f t e2 _ (by omega), Option.bind_some]
    obtain ⟨d, d1, d2⟩ := hd
    rw [d1, d2, Option.bind_some, Option.bind_some, if_pos rfl, if_pos trivial, if_pos trivial, if_pos trivial, if_pos trivial, if_pos trivial, beq_self_eq_true]
end Go.Proofs.YtiofobdmkkbmlaaDoor.Pure
