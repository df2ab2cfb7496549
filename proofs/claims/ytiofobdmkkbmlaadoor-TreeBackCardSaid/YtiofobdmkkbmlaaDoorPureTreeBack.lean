/- The pure side of TreeBack: who joins is a member then, who leaves is none any more; left again, one that joined leaves the tree as it was. -/
import Derived.Test.YtiofobdmkkbmlaaDoorLRefTen
import Derived.Test.YtiofobdmkkbmlaaDoorF8
namespace Go.Proofs.YtiofobdmkkbmlaaDoor.Pure
set_option linter.unusedVariables false
set_option linter.unusedSimpArgs false
open Go.RowKit Go.Proofs.YtiofobdmkkbmlaaDoor.F Go.Proofs.YtiofobdmkkbmlaaDoorW.PrintWords Go.Proofs.YtiofobdmkkbmlaaDoorW.PrintLast Go.Proofs.YtiofobdmkkbmlaaDoorW.PrintMore

theorem TreeBack (l0 : List Int) (a1 : Int) (h0 : l0.length ≤ 9223372036854775807 ∧ ∀ y ∈ l0, (Lit.int .i64 y).wf = true) (h1 : (Lit.int .i64 a1).wf = true) : ∃ k, gemotlaw13_TreeBack.f k l0 a1 = some true := by
  obtain ⟨t, ht, hm⟩ := made13 l0 (by omega) h0.2
  refine ⟨300, ?_⟩
  obtain ⟨v, hv, v0, v1⟩ := pick13 (n := 8) (ri64 h1) (by decide) (by decide)
  have h8 := right_len ht
  have hP : 1 ≤ 1 + v ∧ 1 + v ≤ 8 := by omega
  have hlen : t.mems.length < 1099511627776 := by rw [mems_len]; omega
  unfold gemotlaw13_TreeBack.f
  rw [shown13 300 (by omega), Option.bind_some, if_pos rfl, hm 300 (by omega), Option.bind_some, members_t ht, Option.bind_some, hv, Option.bind_some, wr_in (n := 1 + v) (by omega), has_f _ _ hlen, Option.bind_some]
  by_cases c : t.mems.contains (1 + v) = true
  · rw [if_pos c]
    have hmem : 1 + v ∈ t.leaves := mems_mem.mp (List.contains_iff_mem.mp c)
    by_cases c1 : (t.mems.length : Int) = 1
    · cases t with
      | node x y => exact absurd c1 (by rw [mems_len]; have := x.leaves_pos; have := y.leaves_pos; show ((x.leaves ++ y.leaves).length : Int) ≠ 1; rw [List.length_append]; omega)
      | leaf q =>
        rw [leave_one ht, Option.bind_some, if_pos c1]
        rfl
    · have h2 : 2 ≤ t.leaves.length := by have := t.leaves_pos; rw [mems_len] at c1; omega
      obtain ⟨u, hu⟩ := out_some (p := 1 + v) h2 ht.2
      have hur := (out_right ht hu).1
      rw [leave_in ht h2 hmem hu, Option.bind_some, if_neg c1, if_pos rfl, right_t hur, Option.bind_some, if_pos rfl, members_t hur, Option.bind_some, without_f _ _ hlen (by simp) 300 (by rw [mems_len]; omega), Option.bind_some]
      show ((some (u.mems == _)).bind _) = _
      rw [mems_out ht hu, beq_self_eq_true, Option.bind_some, if_pos rfl, depth_t hur, Option.bind_some, depth_t ht, Option.bind_some]
      have := out_depth hu
      rw [decide_eq_true (by omega)]
  · rw [if_neg c]
    have hnot : 1 + v ∉ t.leaves := fun h => c (List.contains_iff_mem.mpr (mems_mem.mpr h))
    have hjr := join_right ht hP hnot
    have hjl := join_leaves t (1 + v)
    have hjm : 1 + v ∈ (t.join (1 + v)).leaves := hjl.mem_iff.mpr (List.mem_append_right _ (List.mem_singleton_self _))
    have hjn := hjl.length_eq
    rw [List.length_append, List.length_singleton] at hjn
    have hp := t.leaves_pos
    rw [join_out ht hP hnot, Option.bind_some, leave_in hjr (by omega) hjm (out_join hnot), Option.bind_some, if_pos rfl, if_pos rfl, if_pos rfl, right_t hjr, Option.bind_some, if_pos rfl, members_t hjr, Option.bind_some, if_pos (by rw [mems_len, mems_len, hjn, wr_in (by omega)]; rfl), Option.bind_some, has_f _ _ (by rw [mems_len, hjn]; omega), Option.bind_some, List.contains_iff_mem.mpr (mems_mem.mpr hjm), if_pos rfl, depth_t hjr, Option.bind_some, depth_t ht, Option.bind_some, join_depth]
    have := t.depth_lt
    rw [wr_in (by omega), decide_eq_true (by split <;> omega)]
end Go.Proofs.YtiofobdmkkbmlaaDoor.Pure
