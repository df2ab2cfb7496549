/- The pure side of ListRows: a row as a term, and a term's row, are as the document says. -/
import Derived.Test.YtpfpmjdifnoeoaaLRows
import Derived.Test.YtpfpmjdifnoeoaaF5
namespace Go.Proofs.Ytpfpmjdifnoeoaa.Pure
set_option linter.unusedVariables false
set_option linter.unusedSimpArgs false
open Go.RowKit Go.Proofs.Ytpfpmjdifnoeoaa.F Go.Proofs.YtpfpmjdifnoeoaaW.PrintWords Go.Proofs.YtpfpmjdifnoeoaaW.PrintLast Go.Proofs.YtpfpmjdifnoeoaaW.PrintMore

theorem rowsL1 (l : List ByteArray) (hl : l.length ≤ 1000) : ∀ (d k i : Nat), i + d = l.length → d < k → gemotlaw4_ListRows.l1 k l l i = some true
  | 0, k, i, h, hk => by
    obtain ⟨k, rfl⟩ : ∃ m, k = m + 1 := ⟨k - 1, by omega⟩
    simp only [gemotlaw4_ListRows.l1]
    rw [if_neg (by omega)]
  | d + 1, k, i, h, hk => by
    obtain ⟨k, rfl⟩ : ∃ m, k = m + 1 := ⟨k - 1, by omega⟩
    have hw : wrap64 ((i : Int) + 1) = ((i + 1 : Nat) : Int) := by unfold wrap64; omega
    simp only [gemotlaw4_ListRows.l1]
    rw [if_pos (by omega), if_pos (by omega), if_pos (by omega), if_pos trivial, hw]
    exact rowsL1 l hl d k (i + 1) (by omega) (by omega)
theorem rowsL0 {l : List ByteArray} {s : ByteArray} (hl : l.length ≤ 200) (hs : ∀ x ∈ l, x.size ≤ 9223372036854775807) (hz : s.size ≤ 3000) : ∀ (d k i : Nat) (n : Int), i + d = l.length → d + 200 < k → gemotlaw4_ListRows.l0 k l s (l.take i) n i = some true
  | 0, k, i, n, h, hk => by
    obtain ⟨k, rfl⟩ : ∃ m, k = m + 2 := ⟨k - 2, by omega⟩
    have ht : l.take i = l := List.take_of_length_le (by omega)
    simp only [gemotlaw4_ListRows.l0]
    rw [if_neg (by omega)]
    by_cases c : n > 30000
    · rw [if_pos c]
    · rw [if_neg c, ht]
      unfold list_Put.f gemotref4_Put.f list_Take.f gemotref4_Take.f
      rw [if_pos (fun x hx => by have := hs x hx; omega), if_pos ⟨by omega, fun x hx => by have := hs x hx; omega⟩, if_pos (by omega)]
      simp only [Option.bind_some, if_true, gemotlaw4_ListRows.j2, bne_self_eq_false, Bool.false_eq_true, if_false]
      have hr : (rowN 150 s).1.length ≤ 150 := by
        rcases row_codes 150 s with q | q
        · exact (row_sound 150 s q).2.1
        · rw [q]; exact Nat.zero_le _
      exact rowsL1 (rowN 150 s).1 (by omega) (rowN 150 s).1.length k 0 (by omega) (by omega)
  | d + 1, k, i, n, h, hk => by
    obtain ⟨k, rfl⟩ : ∃ m, k = m + 1 := ⟨k - 1, by omega⟩
    have hw : wrap64 ((i : Int) + 1) = ((i + 1 : Nat) : Int) := by unfold wrap64; omega
    have hlt : i < l.length := by omega
    have h2 : l.take i ++ [rdOf ByteArray.empty l i] = l.take (i + 1) := by
      rw [List.take_succ_eq_append_getElem hlt]
      simp [rdOf, List.getD_eq_getElem?_getD, hlt]
    simp only [gemotlaw4_ListRows.l0]
    rw [if_pos (by omega), if_pos (by omega), if_pos (by rw [List.length_take]; omega), h2, hw]
    exact rowsL0 hl hs hz d k (i + 1) _ (by omega) (by omega)
theorem ListRows : ∀ (l0 : List ByteArray) (a1 : ByteArray), (l0.length ≤ 9223372036854775807 ∧ ∀ y ∈ l0, y.size ≤ 9223372036854775807) → (a1.size ≤ 9223372036854775807) → ∃ k, gemotlaw4_ListRows.f k l0 a1 = some true := by
  intro l0 a1 hl _
  obtain ⟨K, hK⟩ : ∃ K : Nat, K = 500 := ⟨_, rfl⟩
  refine ⟨K + 1, ?_⟩
  unfold gemotlaw4_ListRows.f gemotlaw4_shown.f
  rw [Option.bind_some, if_pos rfl]
  by_cases c : (l0.length : Int) > 200
  · rw [if_pos c]
    simp only [gemotlaw4_ListRows.j0]
    rw [if_pos trivial]
  · rw [if_neg c]
    by_cases d : (a1.size : Int) > 3000
    · rw [decide_eq_true d]
      simp only [gemotlaw4_ListRows.j0]
      rw [if_pos trivial]
    · rw [decide_eq_false d]
      simp only [gemotlaw4_ListRows.j0]
      rw [if_neg (by decide)]
      exact rowsL0 (by omega) hl.2 (by omega) l0.length K 0 0 (by omega) (by omega)
end Go.Proofs.Ytpfpmjdifnoeoaa.Pure
