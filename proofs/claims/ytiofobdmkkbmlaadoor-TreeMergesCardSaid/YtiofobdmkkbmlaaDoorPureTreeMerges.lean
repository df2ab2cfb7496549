/- The pure side of TreeMerges: what is made of two trees, and of members, is as the chapter says. -/
import Derived.Test.YtiofobdmkkbmlaaDoorLRefTree2
import Derived.Test.YtiofobdmkkbmlaaDoorLMerge
import Derived.Test.YtiofobdmkkbmlaaDoorF4
namespace Go.Proofs.YtiofobdmkkbmlaaDoor.Pure
set_option linter.unusedVariables false
set_option linter.unusedSimpArgs false
open Go.RowKit Go.Proofs.YtiofobdmkkbmlaaDoor.F Go.Proofs.YtiofobdmkkbmlaaDoorW.PrintWords Go.Proofs.YtiofobdmkkbmlaaDoorW.PrintLast Go.Proofs.YtiofobdmkkbmlaaDoorW.PrintMore

theorem mems_pos (t : Tr) : 0 < t.mems.length := by rw [mems_len]; exact t.leaves_pos
theorem mems_head {t : Tr} (h : t.Right) : 1 ≤ rd t.mems 0 ∧ rd t.mems 0 ≤ 8 := by
  have := rd_nat t.mems 0 (mems_pos t)
  rw [show rd t.mems 0 = t.mems[0]'(mems_pos t) from this]
  exact h.1 _ (mems_mem.mp (List.getElem_mem _))
/-- Both orders' texts, as the document's function writes them. -/
theorem cat_text {a b : Tr} (ha : a.Right) (hb : b.Right) {x : Option (ByteArray × Int)} : (if 1 + a.text.size ≤ 9223372036854775807 then (if ((⟨#[40]⟩ : ByteArray) ++ a.text).size + b.text.size ≤ 9223372036854775807 then (if (((⟨#[40]⟩ : ByteArray) ++ a.text) ++ b.text).size + 1 ≤ 9223372036854775807 then (some ((((⟨#[40]⟩ : ByteArray) ++ a.text) ++ b.text) ++ (⟨#[41]⟩ : ByteArray), (0 : Int))) else x) else x) else x) = some ((Tr.node a b).text, 0) := by
  have sa := right_small ha
  have sb := right_small hb
  have z40 : (⟨#[40]⟩ : ByteArray).size = 1 := rfl
  rw [if_pos (by omega), if_pos (by rw [ByteArray.size_append]; omega), if_pos (by rw [ByteArray.size_append, ByteArray.size_append]; omega), text_node]
theorem merge_ref (s u : ByteArray) (hs : s.size < 100) (hu : u.size < 100) (k : Nat) (hk : 3500 ≤ k) : gemotref13_Merge.f k s u = tree_Merge.f s u := by
  obtain ⟨j, rfl⟩ : ∃ j, k = j + 2 := ⟨k - 2, by omega⟩
  have jt : gemotref13_Merge.j0 (j + 2) s u true = some (⟨#[]⟩, 1) := by rw [gemotref13_Merge.j0, if_pos rfl]
  unfold gemotref13_Merge.f tree_Merge.f mergeS
  rw [right_f s hs _ (by omega), Option.bind_some, if_pos (show s.size ≤ 1000 ∧ u.size ≤ 1000 by omega)]
  cases ha : treeOf s with
  | none => rw [if_neg (by decide), jt]
  | some a =>
    rw [if_pos (by rfl), right_f u hu _ (by omega), Option.bind_some]
    cases hb : treeOf u with
    | none => rw [if_neg (by decide), jt]
    | some b =>
      obtain ⟨e1, ra⟩ := treeOf_some.mp ha
      obtain ⟨e2, rb⟩ := treeOf_some.mp hb
      have a8 := right_len ra
      have b8 := right_len rb
      have ad := a.depth_lt
      have bd := b.depth_lt
      have sa := right_small ra
      have sb := right_small rb
      rw [if_pos (by rfl), e1, e2, digits_t ra.1 (by omega) _ (by omega), Option.bind_some, digits_t rb.1 (by omega) _ (by omega), Option.bind_some, both_f _ _ (by omega) (by omega) _ (by omega), Option.bind_some]
      simp only
      have hlen : (a.leaves.filter fun x => b.leaves.contains x).length = (a.mems.filter fun y => b.mems.contains y).length := by
        have h1 := ((mems_perm a).filter (fun y => b.mems.contains y)).length_eq
        rw [h1]
        congr 2
        funext x
        by_cases c : x ∈ b.leaves
        · rw [List.contains_iff_mem.mpr c, List.contains_iff_mem.mpr (mems_mem.mpr c)]
        · rw [Bool.eq_false_iff.mpr (fun q => c (List.contains_iff_mem.mp q)), Bool.eq_false_iff.mpr (fun q => c (mems_mem.mp (List.contains_iff_mem.mp q)))]
      rw [hlen]
      by_cases c : 0 < (a.mems.filter fun y => b.mems.contains y).length
      · rw [if_pos c, decide_eq_true (by omega), gemotref13_Merge.j0, if_pos rfl]
      · rw [if_neg c, decide_eq_false (by omega), gemotref13_Merge.j0, if_neg (by decide), deep_f a ra _ (by omega), Option.bind_some, deep_f b rb _ (by omega), Option.bind_some]
        have la := a.bytes_len
        have lb := b.bytes_len
        have za : a.text.size = a.bytes.length := rfl
        have zb : b.text.size = b.bytes.length := rfl
        have w1 : wrap64 ((a.depth : Int) - (b.depth : Int)) = (a.depth : Int) - (b.depth : Int) := wr_in (by omega)
        have w2 : wrap64 ((a.text.size : Int) - (b.text.size : Int)) = (a.text.size : Int) - (b.text.size : Int) := wr_in (by omega)
        rw [w1, w2]
        unfold mergeT greaterT
        by_cases d : a.depth = b.depth
        · rw [if_pos (show (a.depth : Int) - (b.depth : Int) = 0 by omega), if_neg (show ¬ a.depth ≠ b.depth from fun h => h d), gemotref13_Merge.j1, mems_len, mems_len]
          by_cases e : a.leaves.length = b.leaves.length
          · rw [if_pos (show (a.text.size : Int) - (b.text.size : Int) = 0 by omega), if_neg (show ¬ a.leaves.length ≠ b.leaves.length from fun h => h e), members_ref rb _ (by omega), Option.bind_some, if_pos (by have := mems_pos b; omega), members_ref ra _ (by omega), Option.bind_some, if_pos (by have := mems_pos a; omega)]
            have ha := mems_head ra
            have hb := mems_head rb
            have w3 : wrap64 (rd b.mems 0 - rd a.mems 0) = rd b.mems 0 - rd a.mems 0 := wr_in (by omega)
            rw [w3]
            by_cases f : rd a.mems 0 < rd b.mems 0
            · rw [if_pos (show rd b.mems 0 - rd a.mems 0 > 0 by omega), cat_text ra rb, if_pos (decide_eq_true f)]
            · rw [if_neg (show ¬ rd b.mems 0 - rd a.mems 0 > 0 by omega), cat_text rb ra, if_neg (by rw [decide_eq_false f]; decide)]
          · rw [if_neg (show ¬ (a.text.size : Int) - (b.text.size : Int) = 0 by omega), if_pos (show a.leaves.length ≠ b.leaves.length from e)]
            by_cases f : b.leaves.length < a.leaves.length
            · rw [if_pos (show (a.text.size : Int) - (b.text.size : Int) > 0 by omega), cat_text ra rb, if_pos (decide_eq_true f)]
            · rw [if_neg (show ¬ (a.text.size : Int) - (b.text.size : Int) > 0 by omega), cat_text rb ra, if_neg (by rw [decide_eq_false f]; decide)]
        · rw [if_neg (show ¬ (a.depth : Int) - (b.depth : Int) = 0 by omega), if_pos (show a.depth ≠ b.depth from d), gemotref13_Merge.j1, if_neg (show ¬ (a.depth : Int) - (b.depth : Int) = 0 by omega)]
          by_cases f : b.depth < a.depth
          · rw [if_pos (show (a.depth : Int) - (b.depth : Int) > 0 by omega), cat_text ra rb, if_pos (decide_eq_true f)]
          · rw [if_neg (show ¬ (a.depth : Int) - (b.depth : Int) > 0 by omega), cat_text rb ra, if_neg (by rw [decide_eq_false f]; decide)]
theorem join_tree {t : Tr} {p : Int} (ht : t.Right) (hp : 1 ≤ p ∧ p ≤ 8) (hm : p ∉ t.leaves) (k : Nat) (hk : 3400 ≤ k) : gemotref13_Join.f k t.text p = some ((t.join p).text, 0) := by
  obtain ⟨j, rfl⟩ : ∃ j, k = j + 1 := ⟨k - 1, by omega⟩
  have h8 := right_len ht
  have h9 := t.depth_lt
  have hs := right_small ht
  have hb : t.leaves.contains p = false := Bool.eq_false_iff.mpr (fun q => hm (List.contains_iff_mem.mp q))
  unfold gemotref13_Join.f
  rw [right_f _ (by omega) _ (by omega), treeOf_text ht, Option.bind_some, if_pos (by rfl), if_neg (by omega), if_neg (by omega), digits_t ht.1 (by omega) _ (by omega), Option.bind_some, has_f _ _ (by omega), Option.bind_some, hb, gemotref13_Join.j0, if_neg (by decide), place_f t ht j (by omega), Option.bind_some, put_f p hp t ht hm _ j (by omega), Option.bind_some]
  rfl
theorem build_ref_go (l : List Int) (hl : l.length ≤ 30) (hr : ∀ x ∈ l, 1 ≤ x ∧ x ≤ 8) : ∀ (d k i : Nat) (t : Tr), t.Right → i + d = l.length → d + 3410 ≤ k → (l.drop i).Nodup → (∀ x ∈ l.drop i, x ∉ t.leaves) →
    gemotref13_Build.l0 k l t.text i = some (((l.drop i).foldl Tr.join t).text, 0)
  | 0, k + 1, i, t, ht, hi, hk, hn, hx => by
    rw [gemotref13_Build.l0, if_neg (by omega), List.drop_eq_nil_of_le (by omega)]
    rfl
  | d + 1, k + 1, i, t, ht, hi, hk, hn, hx => by
    have hlt : i < l.length := by omega
    have hd := List.drop_eq_getElem_cons hlt
    rw [hd] at hn hx
    have hp := hr l[i] (List.getElem_mem hlt)
    have hm : l[i] ∉ t.leaves := hx _ (List.mem_cons_self ..)
    have hnn := List.nodup_cons.mp hn
    have ih := build_ref_go l hl hr d k (i + 1) (t.join l[i]) (join_right ht hp hm) (by omega) (by omega) hnn.2 (fun x hx2 hx3 => by
      rcases List.mem_append.mp ((join_leaves t l[i]).mem_iff.mp hx3) with h | h
      · exact hx x (List.mem_cons_of_mem _ hx2) h
      · exact hnn.1 (List.mem_singleton.mp h ▸ hx2))
    rw [gemotref13_Build.l0, if_pos (by omega), if_pos (by omega), rd_nat l i hlt, join_tree ht hp hm _ (by omega), Option.bind_some, wr_next (n := l.length) (by omega) (by omega), hd, List.foldl_cons]
    exact ih
theorem build_ref (l : List Int) (hl : l.length ≤ 30) (k : Nat) (hk : 3500 ≤ k) : gemotref13_Build.f k l = tree_Build.f k l := by
  cases hu : upB 0 l with
  | false =>
    unfold gemotref13_Build.f gemotref10_Row.f tree_Build.f view_Row.f
    rw [if_pos (by omega), hu, Option.bind_some, if_neg (by decide), Option.bind_some, if_neg (by decide)]
  | true =>
    cases l with
    | nil => exact absurd hu (by decide)
    | cons x m =>
      obtain ⟨h1, h2, _⟩ := (upB_iff _ 0 (by omega)).mp hu
      have hc := List.pairwise_cons.mp h1
      have hr : ∀ y ∈ x :: m, 1 ≤ y ∧ y ≤ 8 := fun y hy => ⟨by have := hc.1 y hy; omega, h2 y hy⟩
      have hn : (x :: m).Nodup := hc.2.imp (fun h => by omega)
      have hnn := List.nodup_cons.mp hn
      have hx := hr x (List.mem_cons_self ..)
      have hm : m.length + 1 ≤ 30 := hl
      rw [(build_ok hu k (by omega)).1]
      unfold gemotref13_Build.f gemotref10_Row.f
      rw [if_pos (by rw [List.length_cons]; omega), hu, Option.bind_some, if_pos rfl, if_pos (by rw [List.length_cons]; omega), show rd (x :: m) 0 = x from rfl, leaf_f hx, Option.bind_some]
      exact build_ref_go (x :: m) hl hr m.length k 1 (.leaf x) (leaf_right hx) (by rw [List.length_cons]; omega) (by omega) (by simpa using hnn.2) (fun y hy hy2 => by
        have h5 : y ∈ m := by simpa using hy
        exact hnn.1 (List.mem_singleton.mp hy2 ▸ h5))
theorem build_some (l : List Int) (hl : l.length ≤ 30) (k : Nat) (hk : 10 ≤ k) : ∃ a e, tree_Build.f k l = some (a, e) := by
  cases hu : upB 0 l with
  | false =>
    unfold tree_Build.f view_Row.f
    rw [if_pos (by omega), hu, Option.bind_some, if_neg (by decide)]
    exact ⟨_, _, rfl⟩
  | true =>
    cases l with
    | nil => exact absurd hu (by decide)
    | cons x m => exact ⟨_, _, (build_ok hu k hk).1⟩
theorem TreeMerges (a0 a1 : ByteArray) (l2 : List Int) (h0 : a0.size ≤ 9223372036854775807) (h1 : a1.size ≤ 9223372036854775807) (h2 : l2.length ≤ 9223372036854775807 ∧ ∀ y ∈ l2, (Lit.int .i64 y).wf = true) : ∃ k, gemotlaw13_TreeMerges.f k a0 a1 l2 = some true := by
  refine ⟨5000, ?_⟩
  have jt : ∀ b : Bool, b = true → gemotlaw13_TreeMerges.j0 5000 a0 a1 l2 true b = some true := fun b hb => by rw [hb, gemotlaw13_TreeMerges.j0, if_pos rfl]
  unfold gemotlaw13_TreeMerges.f
  rw [shown13 5000 (by omega), Option.bind_some, if_pos rfl]
  by_cases c1 : (a0.size : Int) > 90
  · rw [if_pos c1]; exact jt _ rfl
  by_cases c2 : (a1.size : Int) > 90
  · rw [if_neg c1, if_pos c2]; exact jt _ rfl
  by_cases c3 : (l2.length : Int) > 30
  · rw [if_neg c1, if_neg c2]; exact jt _ (decide_eq_true c3)
  rw [if_neg c1, if_neg c2, decide_eq_false c3, gemotlaw13_TreeMerges.j0, if_neg (by decide), merge_ref a0 a1 (by omega) (by omega) _ (by omega), build_ref l2 (by omega) _ (by omega)]
  obtain ⟨a, e, hm⟩ : ∃ a e, tree_Merge.f a0 a1 = some (a, e) := ⟨_, _, if_pos (show a0.size ≤ 1000 ∧ a1.size ≤ 1000 by omega)⟩
  obtain ⟨b, f, hb⟩ := build_some l2 (by omega) 4999 (by omega)
  rw [hm, hb]
  simp only [Option.bind_some]
  rw [if_pos trivial, if_pos trivial, if_pos trivial, beq_self_eq_true]
end Go.Proofs.YtiofobdmkkbmlaaDoor.Pure
