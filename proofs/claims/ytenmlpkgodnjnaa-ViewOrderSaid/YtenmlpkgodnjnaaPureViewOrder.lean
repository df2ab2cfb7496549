/- The pure side of ViewOrder: the printed law's function answers true at every input. -/
import Derived.Test.YtenmlpkgodnjnaaF3
namespace Go.Proofs.Ytenmlpkgodnjnaa.Pure
open Go.RowKit Go.Proofs.Ytenmlpkgodnjnaa.F Go.Proofs.YtenmlpkgodnjnaaW.PrintWords Go.Proofs.YtenmlpkgodnjnaaW.PrintLast
theorem ViewOrder : ∀ (a0_0 : Int) (a0_1 : Int) (a1_0 : Int) (a1_1 : Int) (a2_0 : Int) (a2_1 : Int) (a3 : Int) (a4 : Int), ((Lit.int .i64 a0_0).wf = true) → ((Lit.int .i64 a0_1).wf = true) → ((Lit.int .i64 a1_0).wf = true) → ((Lit.int .i64 a1_1).wf = true) → ((Lit.int .i64 a2_0).wf = true) → ((Lit.int .i64 a2_1).wf = true) → ((Lit.int .i64 a3).wf = true) → ((Lit.int .i64 a4).wf = true) → ∃ k, gemotlaw10_ViewOrder.f k a0_0 a0_1 a1_0 a1_1 a2_0 a2_1 a3 a4 = some true := by
  intro a b c d e f p q _ _ _ _ _ _ _ _
  refine ⟨3, ?_⟩
  have j1 : ∀ k x, (x = false → -4611686018427387904 < a ∧ a < 4611686018427387904) → gemotlaw10_ViewOrder.j1 (k + 1) p q x a b = some true := by
    intro k x hx
    simp only [gemotlaw10_ViewOrder.j1, view_Next.f, view_Less.f, Option.bind_some]
    cases x
    · have h := hx rfl
      have hw : wrap64 (a + 1) = a + 1 := by unfold wrap64; omega
      rw [hw, if_neg (by simp), show decide (a < a + 1 ∨ a = a + 1 ∧ b < p) = true from decide_eq_true (by omega), if_pos rfl]
      rw [show decide (a + 1 < a + 1 ∨ True ∧ p < q) = decide (p < q) from decide_eq_decide.mpr (by simp), if_pos (by simp), show decide (a < a ∨ True ∧ b < b) = false from decide_eq_false (by simp)]
      rfl
    · rw [if_pos rfl]
  have j0 : ∀ k, gemotlaw10_ViewOrder.j0 (k + 2) p q false a b = some true := by
    intro k
    simp only [gemotlaw10_ViewOrder.j0]
    rw [if_neg (by simp)]
    split
    · exact j1 _ _ (by simp)
    · exact j1 _ _ (by simp; omega)
  simp only [gemotlaw10_ViewOrder.f, gemotlaw10_shown.f, view_Less.f, Option.bind_some]
  rw [if_pos trivial]
  by_cases h1 : a < c ∨ a = c ∧ b < d
  · rw [decide_eq_true h1, if_pos rfl, decide_eq_false (show ¬ (c < a ∨ c = a ∧ d < b) by omega), if_neg (by simp)]
    have hne : (a == c && b == d) = false := by
      rw [Bool.and_eq_false_iff, beq_eq_false_iff_ne, beq_eq_false_iff_ne]; omega
    rw [hne, if_neg (by simp)]
    split
    · rename_i h
      rw [decide_eq_true_eq] at h
      rw [decide_eq_true (show a < e ∨ a = e ∧ b < f by omega)]
      exact j0 1
    · exact j0 1
  · rw [decide_eq_false h1, if_neg (by simp)]
    have : (decide (c < a ∨ c = a ∧ d < b) == (a == c && b == d)) = false := by
      by_cases h2 : c < a ∨ c = a ∧ d < b
      · rw [decide_eq_true h2, show (a == c && b == d) = false by rw [Bool.and_eq_false_iff, beq_eq_false_iff_ne, beq_eq_false_iff_ne]; omega]
        rfl
      · rw [decide_eq_false h2, show (a == c && b == d) = true by rw [Bool.and_eq_true, beq_iff_eq, beq_iff_eq]; omega]
        rfl
    rw [this, if_neg (by simp)]
    exact j0 1
end Go.Proofs.Ytenmlpkgodnjnaa.Pure
