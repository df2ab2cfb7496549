/- Merged trees: in either order the same; what is left when the members of one leave. -/
import Derived.Test.YtiofobdmkkbmlaaDoorLGrow
namespace Go.Proofs.YtiofobdmkkbmlaaDoor.Pure
set_option linter.unusedVariables false
set_option linter.unusedSimpArgs false
open Go.RowKit Go.Proofs.YtiofobdmkkbmlaaDoor.F Go.Proofs.YtiofobdmkkbmlaaDoorW.PrintWords Go.Proofs.YtiofobdmkkbmlaaDoorW.PrintLast Go.Proofs.YtiofobdmkkbmlaaDoorW.PrintMore

theorem greater_sym {a b : Tr} (h : ∀ x ∈ a.leaves, x ∉ b.leaves) : greaterT b a = !greaterT a b := by
  unfold greaterT
  by_cases c : a.depth = b.depth
  · rw [if_neg (show ¬ b.depth ≠ a.depth from fun h => h c.symm), if_neg (show ¬ a.depth ≠ b.depth from fun h => h c)]
    by_cases d : a.mems.length = b.mems.length
    · rw [if_neg (show ¬ b.mems.length ≠ a.mems.length from fun h => h d.symm), if_neg (show ¬ a.mems.length ≠ b.mems.length from fun h => h d)]
      have ha : 0 < a.mems.length := by rw [mems_len]; exact a.leaves_pos
      have hb : 0 < b.mems.length := by rw [mems_len]; exact b.leaves_pos
      have e1 := rd_nat a.mems 0 ha
      have e2 := rd_nat b.mems 0 hb
      have m1 := mems_mem.mp (List.getElem_mem ha)
      have m2 := mems_mem.mp (List.getElem_mem hb)
      have hne : a.mems[0] ≠ b.mems[0] := fun e => h _ m1 (by rw [e]; exact m2)
      rw [show rd a.mems 0 = a.mems[0] from e1, show rd b.mems 0 = b.mems[0] from e2]
      by_cases l : a.mems[0] < b.mems[0]
      · rw [decide_eq_true l, decide_eq_false (by omega)]; rfl
      · rw [decide_eq_false l, decide_eq_true (by omega)]; rfl
    · rw [if_pos (show b.mems.length ≠ a.mems.length from fun h => d h.symm), if_pos (show a.mems.length ≠ b.mems.length from d)]
      by_cases l : a.mems.length < b.mems.length
      · rw [decide_eq_true l, decide_eq_false (by omega)]; rfl
      · rw [decide_eq_false l, decide_eq_true (by omega)]; rfl
  · rw [if_pos (show b.depth ≠ a.depth from fun h => c h.symm), if_pos (show a.depth ≠ b.depth from c)]
    by_cases l : a.depth < b.depth
    · rw [decide_eq_true l, decide_eq_false (by omega)]; rfl
    · rw [decide_eq_false l, decide_eq_true (by omega)]; rfl
theorem merge_sym {a b : Tr} (h : ∀ x ∈ a.leaves, x ∉ b.leaves) : mergeT b a = mergeT a b := by
  unfold mergeT
  rw [greater_sym h]
  cases greaterT a b <;> rfl
/-- A tree beside another one, at either side. -/
def besides (d : Bool) (t y : Tr) : Tr := if d then .node t y else .node y t
theorem mergeT_beside (t u : Tr) : ∃ d, mergeT t u = besides d t u := by
  unfold mergeT
  cases greaterT t u
  · exact ⟨false, rfl⟩
  · exact ⟨true, rfl⟩
theorem beside_mem {d : Bool} {t y : Tr} {p : Int} : p ∈ (besides d t y).leaves ↔ p ∈ t.leaves ∨ p ∈ y.leaves := by
  cases d
  · show p ∈ y.leaves ++ t.leaves ↔ _
    rw [List.mem_append, or_comm]
  · exact List.mem_append
theorem beside_len (d : Bool) (t y : Tr) : 2 ≤ (besides d t y).leaves.length := by
  have h1 := t.leaves_pos
  have h2 := y.leaves_pos
  cases d
  · show 2 ≤ (y.leaves ++ t.leaves).length
    rw [List.length_append]; omega
  · show 2 ≤ (t.leaves ++ y.leaves).length
    rw [List.length_append]; omega
theorem beside_right {d : Bool} {t y : Tr} (ht : t.Right) (hy : y.Right) (h : ∀ x ∈ y.leaves, x ∉ t.leaves) : (besides d t y).Right := by
  cases d
  · exact node_right hy ht h
  · exact node_right ht hy (fun x h1 h2 => h x h2 h1)
theorem beside_out {d : Bool} {t y u : Tr} {p : Int} (h : p ∉ t.leaves) (hu : y.out p = some u) : (besides d t y).out p = some (besides d t u) := by
  cases d
  · show (Tr.node y t).out p = some (.node u t)
    rw [Tr.out, hu, out_not h]
  · show (Tr.node t y).out p = some (.node t u)
    rw [Tr.out, hu, out_not h]
theorem beside_last {d : Bool} {t y : Tr} {p : Int} (h : p ∉ t.leaves) (hu : y.out p = none) : (besides d t y).out p = some t := by
  cases d
  · show (Tr.node y t).out p = some t
    rw [Tr.out, hu, out_not h]
  · show (Tr.node t y).out p = some t
    rw [Tr.out, hu, out_not h]
theorem filter_perm {l r : List Int} {p : Int} (hn : l.Nodup) (h : l.Perm (p :: r)) : (l.filter fun q => !decide (q = p)).Perm r := by
  have h1 := h.filter (fun q => !decide (q = p))
  have h2 : (p :: r).Nodup := h.nodup_iff.mp hn
  have h3 := List.nodup_cons.mp h2
  have h4 : r.filter (fun q => !decide (q = p)) = r := List.filter_eq_self.mpr (fun y hy => by
    have : y ≠ p := fun e => h3.1 (e ▸ hy)
    simp [this])
  rw [List.filter_cons_of_neg (by simp), h4] at h1
  exact h1
/-- One of some members leaves: what is left beside the tree is less by that one, or nothing. -/
theorem beside_step {d : Bool} {t y : Tr} {p : Int} {r : List Int} (ht : t.Right) (hy : y.Right) (hp : y.leaves.Perm (p :: r)) (h : ∀ x ∈ y.leaves, x ∉ t.leaves) :
    (r = [] ∧ tree_Leave.f (besides d t y).text p = some (t.text, 0)) ∨ (r ≠ [] ∧ ∃ u : Tr, u.Right ∧ u.leaves.Perm r ∧ (∀ x ∈ u.leaves, x ∉ t.leaves) ∧ tree_Leave.f (besides d t y).text p = some ((besides d t u).text, 0)) := by
  have hm : p ∈ y.leaves := hp.mem_iff.mpr List.mem_cons_self
  have hr := beside_right (d := d) ht hy h
  have hB : p ∈ (besides d t y).leaves := beside_mem.mpr (.inr hm)
  have hl := hp.length_eq
  cases hu : y.out p with
  | none =>
    left
    have hl2 : ¬ 2 ≤ y.leaves.length := fun c => by
      obtain ⟨u, hu2⟩ := out_some (p := p) c hy.2
      rw [hu] at hu2; cases hu2
    refine ⟨?_, leave_in hr (beside_len d t y) hB (beside_last (h p hm) hu)⟩
    rw [List.length_cons] at hl
    exact List.eq_nil_of_length_eq_zero (by omega)
  | some u =>
    right
    obtain ⟨hu1, hu2⟩ := out_right hy hu
    have hup := u.leaves_pos
    have hf := filter_perm hy.2 hp
    rw [← hu2] at hf
    refine ⟨fun e => ?_, u, hu1, hf, fun x hx => h x ?_, leave_in hr (beside_len d t y) hB (beside_out (h p hm) hu)⟩
    · rw [e] at hf
      have := hf.length_eq
      rw [List.length_nil] at this
      omega
    · rw [hu2] at hx
      exact (List.mem_filter.mp hx).1
end Go.Proofs.YtiofobdmkkbmlaaDoor.Pure
