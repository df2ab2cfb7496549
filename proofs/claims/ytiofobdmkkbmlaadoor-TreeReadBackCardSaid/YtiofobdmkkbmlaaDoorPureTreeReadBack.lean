/- The pure side of TreeReadBack: a tree is read as it is written; in other brackets it is none. -/
import Derived.Test.YtiofobdmkkbmlaaDoorLMerge
import Derived.Test.YtiofobdmkkbmlaaDoorF5
namespace Go.Proofs.YtiofobdmkkbmlaaDoor.Pure
set_option linter.unusedVariables false
set_option linter.unusedSimpArgs false
open Go.RowKit Go.Proofs.YtiofobdmkkbmlaaDoor.F Go.Proofs.YtiofobdmkkbmlaaDoorW.PrintWords Go.Proofs.YtiofobdmkkbmlaaDoorW.PrintLast Go.Proofs.YtiofobdmkkbmlaaDoorW.PrintMore

theorem right_no {s : ByteArray} (hs : s.size ≤ 1000) (h : treeOf s = none) : tree_Right.f s = some false := by
  unfold tree_Right.f
  rw [if_pos hs, h]; rfl
theorem treeOf_no {s : ByteArray} (h : prs s.data.toList = none) : treeOf s = none := by unfold treeOf; rw [h]
theorem treeOf_rest {s : ByteArray} {t : Tr} {c : UInt8} {r : List UInt8} (h : prs s.data.toList = some (t, c :: r)) : treeOf s = none := by unfold treeOf; rw [h]
theorem bytes_cat (a b : ByteArray) : (a ++ b).data.toList = a.data.toList ++ b.data.toList := by simp
theorem one_bracket (t : Tr) (ht : t.Ok) : treeOf ((⟨#[40]⟩ : ByteArray) ++ t.text ++ (⟨#[41]⟩ : ByteArray)) = none := by
  refine treeOf_no ?_
  rw [bytes_cat, bytes_cat]
  show prs ([40] ++ t.bytes ++ [41]) = none
  rw [List.append_assoc, List.singleton_append, prs_cons, if_neg (by decide), if_pos (by decide), prs_of t _ ht]
  rfl
theorem two_behind (t : Tr) (ht : t.Ok) (p : Int) : treeOf (t.text ++ (Tr.leaf p).text) = none := by
  have h1 : (t.text ++ (Tr.leaf p).text).data.toList = t.bytes ++ [UInt8.ofNat (48 + p.toNat)] := bytes_cat _ _
  exact treeOf_rest (t := t) (by rw [h1]; exact prs_of t _ ht)
theorem half_bracket (t : Tr) (ht : t.Ok) (p : Int) (hp : 1 ≤ p ∧ p ≤ 8) : treeOf ((⟨#[40]⟩ : ByteArray) ++ t.text ++ (Tr.leaf p).text) = none := by
  refine treeOf_no ?_
  rw [bytes_cat, bytes_cat]
  show prs ([40] ++ t.bytes ++ (Tr.leaf p).bytes) = none
  have hl := prs_of (.leaf p) [] (leaf_right hp).1
  rw [List.append_nil] at hl
  rw [List.append_assoc, List.singleton_append, prs_cons, if_neg (by decide), if_pos (by decide), prs_of t _ ht]
  simp only
  rw [hl]
theorem TreeReadBack (l0 : List Int) (a1 : Int) (h0 : l0.length ≤ 9223372036854775807 ∧ ∀ y ∈ l0, (Lit.int .i64 y).wf = true) (h1 : (Lit.int .i64 a1).wf = true) : ∃ k, gemotlaw13_TreeReadBack.f k l0 a1 = some true := by
  obtain ⟨t, ht, hm⟩ := made13 l0 (by omega) h0.2
  refine ⟨300, ?_⟩
  obtain ⟨v, hv, v0, v1⟩ := pick13 (n := 8) (ri64 h1) (by decide) (by decide)
  have hP : 1 ≤ 1 + v ∧ 1 + v ≤ 8 := by omega
  unfold gemotlaw13_TreeReadBack.f
  rw [shown13 300 (by omega), Option.bind_some, if_pos rfl, hm 300 (by omega), Option.bind_some, hv, Option.bind_some, wr_in (n := 1 + v) (by omega), leaf_t hP, Option.bind_some]
  generalize hp : 1 + v = p at hP
  have hL := leaf_right hP
  have T1 := right_small ht
  have F1 : (Tr.leaf p).text.size = 1 := rfl
  have z40 : (⟨#[40]⟩ : ByteArray).size = 1 := rfl
  have z41 : (⟨#[41]⟩ : ByteArray).size = 1 := rfl
  have s1 : 1 + t.text.size ≤ 9223372036854775807 := by omega
  have s2 : ((⟨#[40]⟩ : ByteArray) ++ t.text).size + (Tr.leaf p).text.size ≤ 9223372036854775807 := by rw [ByteArray.size_append]; omega
  have s3 : (((⟨#[40]⟩ : ByteArray) ++ t.text) ++ (Tr.leaf p).text).size + 1 ≤ 9223372036854775807 := by rw [ByteArray.size_append, ByteArray.size_append]; omega
  have s4 : 1 + (Tr.leaf p).text.size ≤ 9223372036854775807 := by omega
  have s5 : ((⟨#[40]⟩ : ByteArray) ++ (Tr.leaf p).text).size + t.text.size ≤ 9223372036854775807 := by rw [ByteArray.size_append]; omega
  have s6 : (((⟨#[40]⟩ : ByteArray) ++ (Tr.leaf p).text) ++ t.text).size + 1 ≤ 9223372036854775807 := by rw [ByteArray.size_append, ByteArray.size_append]; omega
  have s7 : ((⟨#[40]⟩ : ByteArray) ++ t.text).size + 1 ≤ 9223372036854775807 := by rw [ByteArray.size_append]; omega
  have s8 : t.text.size + (Tr.leaf p).text.size ≤ 9223372036854775807 := by omega
  have n1 := right_no (by rw [ByteArray.size_append, ByteArray.size_append]; omega) (one_bracket t ht.1)
  have n2 := right_no (by rw [ByteArray.size_append]; omega) (two_behind t ht.1 p)
  have n3 := right_no (by rw [ByteArray.size_append, ByteArray.size_append]; omega) (half_bracket t ht.1 p hP)
  by_cases c : p ∈ t.leaves
  · rw [merge_meet ht hL c (List.mem_singleton_self _), Option.bind_some, if_neg (by decide), if_pos rfl, if_pos s1, if_pos s2, if_pos s3, text_node]
    have hno : treeOf (Tr.node t (.leaf p)).text = none := by
      cases hu : treeOf (Tr.node t (.leaf p)).text with
      | none => rfl
      | some u =>
        obtain ⟨e1, e2⟩ := treeOf_some.mp hu
        have e3 := text_inj (Tr.Ok.node ht.1 hL.1) e2.1 e1
        rw [← e3] at e2
        have e4 := (List.nodup_append.mp e2.2).2.2
        exact absurd rfl (e4 p c p (List.mem_singleton_self _))
    rw [right_no (by rw [← text_node, ByteArray.size_append, ByteArray.size_append, ByteArray.size_append]; omega) hno]
    rfl
  · have hap : ∀ x ∈ t.leaves, x ∉ (Tr.leaf p).leaves := fun x hx hy => c (List.mem_singleton.mp hy ▸ hx)
    have hpa : ∀ x ∈ (Tr.leaf p).leaves, x ∉ t.leaves := fun x hx hy => hap x hy hx
    have r1 := right_t (node_right ht hL hap)
    have r2 := right_t (node_right hL ht hpa)
    rw [merge_apart ht hL hap, Option.bind_some, if_pos rfl, if_pos s1, if_pos s2, if_pos s3]
    rw [text_node, text_node]
    unfold mergeT
    by_cases g : greaterT t (.leaf p) = true
    · rw [if_pos g, if_pos rfl, r1, Option.bind_some, if_pos rfl, if_pos s4, if_pos s5, if_pos s6, r2, Option.bind_some, if_pos rfl, if_pos s7, n1, Option.bind_some, if_neg (by decide), if_pos s8, n2, Option.bind_some, if_neg (by decide), n3]
      rfl
    · have hd : t.depth = 0 := by
        by_cases d : t.depth = 0
        · exact d
        · refine absurd ?_ g
          unfold greaterT
          rw [if_pos (show t.depth ≠ (Tr.leaf p).depth from d)]
          exact decide_eq_true (by show 0 < t.depth; omega)
      have hne : ¬ (Tr.node (.leaf p) t).text.toList = (Tr.node t (.leaf p)).text.toList := fun h => by
        have h2 := text_inj (Tr.Ok.node hL.1 ht.1) (Tr.Ok.node ht.1 hL.1) (by rw [ByteArray.toList_eq, ByteArray.toList_eq] at h; exact ByteArray.ext (Array.ext' h))
        injection h2 with h3 h4
        exact c (by rw [← h3]; exact List.mem_singleton_self _)
      rw [if_neg g, if_neg hne, if_pos s4, if_pos s5, if_pos s6, if_pos rfl, depth_t ht, hd, Option.bind_some, if_pos (show ((0 : Nat) : Int) = 0 from rfl), r2, Option.bind_some, if_pos rfl, Option.bind_some, if_pos rfl, if_pos s7, n1, Option.bind_some, if_neg (by decide), if_pos s8, n2, Option.bind_some, if_neg (by decide), n3]
      rfl
end Go.Proofs.YtiofobdmkkbmlaaDoor.Pure
