/- The pure side of TreeMerged: a merged tree has the members of both, and is the other one when those of one leave. -/
import Derived.Test.YtiofobdmkkbmlaaDoorLMerge
import Derived.Test.YtiofobdmkkbmlaaDoorF7
namespace Go.Proofs.YtiofobdmkkbmlaaDoor.Pure
set_option linter.unusedVariables false
set_option linter.unusedSimpArgs false
open Go.RowKit Go.Proofs.YtiofobdmkkbmlaaDoor.F Go.Proofs.YtiofobdmkkbmlaaDoorW.PrintWords Go.Proofs.YtiofobdmkkbmlaaDoorW.PrintLast Go.Proofs.YtiofobdmkkbmlaaDoorW.PrintMore

theorem leave_all (d : Bool) (t : Tr) (ht : t.Right) (ks : List Int) (hl : ks.length ≤ 8) : ∀ (n k i : Nat) (y : Tr), y.Right → y.leaves.Perm (ks.drop i) → (∀ x ∈ y.leaves, x ∉ t.leaves) → i + n = ks.length → 0 < n → n < k → gemotlaw13_TreeMerged.l1 k t.text ks (besides d t y).text i = some true
  | 0, k, i, y, hy, hp, hx, hi, hn, hk => absurd hn (Nat.lt_irrefl 0)
  | n + 1, k + 1, i, y, hy, hp, hx, hi, hn, hk => by
    have hlt : i < ks.length := by omega
    have hd := List.drop_eq_getElem_cons hlt
    rw [hd] at hp
    rw [gemotlaw13_TreeMerged.l1, if_pos (by omega), if_pos (by omega), rd_nat ks i hlt]
    have hw : wrap64 ((i : Int) + 1) = ((i + 1 : Nat) : Int) := wr_next (n := ks.length) (by omega) (by omega)
    rcases beside_step (d := d) ht hy hp hx with ⟨hr, hL⟩ | ⟨hr, u, hu, hup, hux, hL⟩
    · rw [hL, Option.bind_some, if_pos rfl, hw]
      have h1 := congrArg List.length hr
      rw [List.length_drop, List.length_nil] at h1
      obtain ⟨k, rfl⟩ : ∃ j, k = j + 1 := ⟨k - 1, by omega⟩
      rw [gemotlaw13_TreeMerged.l1, if_neg (by omega)]
      simp
    · rw [hL, Option.bind_some, if_pos rfl, hw]
      have h1 : (ks.drop (i + 1)).length ≠ 0 := fun e => hr (List.eq_nil_of_length_eq_zero e)
      rw [List.length_drop] at h1
      exact leave_all d t ht ks hl n k (i + 1) u hu hup hux (by omega) (by omega) (by omega)
/-- Rising processes that are in no tree's leaves. -/
def others (t : Tr) (ks : List Int) : Prop := (0 :: ks).Pairwise (· < ·) ∧ (∀ x ∈ ks, x ≤ 8) ∧ ∀ x ∈ ks, x ∉ t.leaves
theorem others_len {t : Tr} {ks : List Int} (h : others t ks) : ks.length ≤ 8 := by
  have hs : ∀ (m : List Int) (a : Int), (a :: m).Pairwise (· < ·) → (∀ y ∈ m, y ≤ 8) → (m.length : Int) ≤ max 0 (8 - a) := by
    intro m
    induction m with
    | nil => intro a _ _; simp; omega
    | cons b m ih =>
      intro a h3 h4
      have h5 := List.pairwise_cons.mp h3
      have h6 := h5.1 b (List.mem_cons_self ..)
      have h7 := h4 b (List.mem_cons_self ..)
      have := ih b h5.2 (fun y hy => h4 y (List.mem_cons_of_mem _ hy))
      rw [List.length_cons]; omega
  have := hs ks 0 h.1 h.2.1
  omega
theorem merged_end (t : Tr) (ht : t.Right) (ks : List Int) (h : others t ks) (k : Nat) (hk : 20 ≤ k) : (if (ks.length : Int) = 0 then ((tree_Merge.f t.text t.text).bind fun bt1010 => (some (bt1010.2 == 1))) else ((tree_Build.f k ks).bind fun bt1012 => ((tree_Merge.f t.text bt1012.1).bind fun bt1014 => ((tree_Merge.f bt1012.1 t.text).bind fun bt1016 => (if bt1014.2 = 0 then (if bt1016.2 = 0 then (if bt1014.1.toList = bt1016.1.toList then ((tree_Depth.f bt1014.1).bind fun t1018 => ((tree_Depth.f t.text).bind fun t1019 => ((tree_Depth.f bt1012.1).bind fun t1020 => (if t1018 = (wrap64 (1 + (mx t1019 t1020))) then ((tree_Members.f bt1014.1).bind fun t1021 => ((tree_Members.f t.text).bind fun t1024 => (gemotlaw13_TreeMerged.j1 k t.text ks bt1014.1 ((t1021.length : Int) != (wrap64 ((t1024.length : Int) + (ks.length : Int))))))) else (gemotlaw13_TreeMerged.j1 k t.text ks bt1014.1 true))))) else (gemotlaw13_TreeMerged.j1 k t.text ks bt1014.1 true)) else (gemotlaw13_TreeMerged.j1 k t.text ks bt1014.1 true)) else (gemotlaw13_TreeMerged.j1 k t.text ks bt1014.1 true)))))) = some true := by
  have h8 := others_len h
  have hpos := t.leaves_pos
  cases ks with
  | nil =>
    rw [if_pos (show ((([] : List Int).length : Nat) : Int) = 0 from rfl)]
    obtain ⟨x, hx⟩ := List.exists_mem_of_length_pos hpos
    rw [merge_meet ht ht hx hx]
    rfl
  | cons x l =>
    rw [if_neg (by rw [List.length_cons]; omega)]
    have hup : upB 0 (x :: l) = true := (upB_iff _ 0 (by omega)).mpr ⟨h.1, h.2.1, fun e => by cases e⟩
    obtain ⟨hb, hu⟩ := build_ok hup k (by omega)
    rw [hb, Option.bind_some]
    generalize hU : l.foldl Tr.join (.leaf x) = u at hu
    have hperm : u.leaves.Perm (x :: l) := by
      have := foldl_leaves l (.leaf x)
      rw [hU] at this
      exact this
    have hux : ∀ y ∈ u.leaves, y ∉ t.leaves := fun y hy => h.2.2 y (hperm.mem_iff.mp hy)
    have htu : ∀ y ∈ t.leaves, y ∉ u.leaves := fun y h1 h2 => hux y h2 h1
    simp only [merge_apart ht hu htu, merge_apart hu ht hux, merge_sym htu, Option.bind_some]
    rw [if_pos trivial, if_pos trivial, if_pos trivial]
    have hR := merge_right ht hu htu
    rw [depth_t hR, depth_t ht, depth_t hu]
    simp only [Option.bind_some]
    have d1 := merge_depth t u
    have d2 := t.depth_lt
    have d3 := u.depth_lt
    have d4 := right_len ht
    have d5 := right_len hu
    rw [if_pos (by rw [d1, wr_in (by unfold mx; split <;> omega)]; unfold mx; split <;> omega)]
    rw [members_t hR, members_t ht]
    simp only [Option.bind_some]
    have d6 := (merge_leaves t u).length_eq
    rw [List.length_append] at d6
    have d7 := hperm.length_eq
    obtain ⟨k, rfl⟩ : ∃ j, k = j + 1 := ⟨k - 1, by omega⟩
    rw [mems_len, mems_len, d6, wr_in (by omega), gemotlaw13_TreeMerged.j1, if_neg (by rw [d7]; simp)]
    obtain ⟨d, hd⟩ := mergeT_beside t u
    rw [hd]
    exact leave_all d t ht (x :: l) h8 (x :: l).length k 0 u hu hperm hux (by omega) (by rw [List.length_cons]; omega) (by omega)
theorem others_snoc {t : Tr} {ks : List Int} {x : Int} (h : others t ks) (hx : ∀ y ∈ (0 :: ks), y < x) (h8 : x ≤ 8) (hm : x ∉ t.leaves) : others t (ks ++ [x]) := by
  refine ⟨?_, fun y hy => ?_, fun y hy => ?_⟩
  · rw [← List.cons_append, List.pairwise_append]
    exact ⟨h.1, List.pairwise_singleton _ _, fun a ha b hb => by cases List.mem_singleton.mp hb; exact hx a ha⟩
  · rcases List.mem_append.mp hy with h1 | h1
    · exact h.2.1 y h1
    · cases List.mem_singleton.mp h1; exact h8
  · rcases List.mem_append.mp hy with h1 | h1
    · exact h.2.2 y h1
    · cases List.mem_singleton.mp h1; exact hm
theorem merged_go (b : Int) (t : Tr) (ht : t.Right) : ∀ (d : Nat) (ks : List Int) (x k : Nat), others t ks → (∀ y ∈ (0 :: ks), y < (x : Int)) → x + d = 9 → d + 25 ≤ k → gemotlaw13_TreeMerged.l0 k b t.text ks x = some true
  | 0, ks, x, k + 1, h, hx, hd, hk => by
    rw [gemotlaw13_TreeMerged.l0, if_neg (by omega)]
    exact merged_end t ht ks h k (by omega)
  | d + 1, ks, x, k + 1, h, hx, hd, hk => by
    have h0 := hx 0 List.mem_cons_self
    have hl := others_len h
    have hw : wrap64 ((x : Int) + 1) = ((x + 1 : Nat) : Int) := wr_next (n := 9) (by omega) (by omega)
    have hx1 : ∀ y ∈ (0 :: ks), y < ((x + 1 : Nat) : Int) := fun y hy => by have := hx y hy; omega
    have skip := merged_go b t ht d ks (x + 1) k h hx1 (by omega) (by omega)
    have hH : gemotref10_Has.f t.mems (x : Int) = some (t.mems.contains (x : Int)) := if_pos (by have := right_len ht; rw [mems_len]; omega)
    rw [gemotlaw13_TreeMerged.l0, if_pos (by omega), if_pos (by rw [wr_in (by omega)]; omega), members_t ht, hw]
    simp only [Option.bind_some, hH]
    by_cases c : Go.bits .and .i64 (shr .i64 b (wrap64 ((x : Int) - 1))) 1 = 1
    · rw [if_pos c]
      by_cases m : t.mems.contains (x : Int) = true
      · rw [if_pos m]; exact skip
      · rw [if_neg m, if_pos (by omega)]
        have hm : (x : Int) ∉ t.leaves := fun q => m (List.contains_iff_mem.mpr (mems_mem.mpr q))
        refine merged_go b t ht d (ks ++ [(x : Int)]) (x + 1) k (others_snoc h hx (by omega) hm) ?_ (by omega) (by omega)
        intro y hy
        rw [← List.cons_append] at hy
        rcases List.mem_append.mp hy with h1 | h1
        · exact hx1 y h1
        · cases List.mem_singleton.mp h1; omega
    · rw [if_neg c]; exact skip
theorem TreeMerged (l0 : List Int) (a1 : Int) (h0 : l0.length ≤ 9223372036854775807 ∧ ∀ y ∈ l0, (Lit.int .i64 y).wf = true) (h1 : (Lit.int .i64 a1).wf = true) : ∃ k, gemotlaw13_TreeMerged.f k l0 a1 = some true := by
  obtain ⟨t, ht, hm⟩ := made13 l0 (by omega) h0.2
  refine ⟨300, ?_⟩
  unfold gemotlaw13_TreeMerged.f
  rw [shown13 300 (by omega), Option.bind_some, if_pos rfl, hm 300 (by omega), Option.bind_some]
  exact merged_go a1 t ht 8 [] 1 300 ⟨List.pairwise_singleton _ _, (fun x hx => absurd hx (List.not_mem_nil)), (fun x hx => absurd hx (List.not_mem_nil))⟩ (fun y hy => by cases List.mem_singleton.mp hy; decide) (by omega) (by omega)
end Go.Proofs.YtiofobdmkkbmlaaDoor.Pure
