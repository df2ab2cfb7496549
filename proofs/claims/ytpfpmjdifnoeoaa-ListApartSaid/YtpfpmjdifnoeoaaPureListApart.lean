/- The pure side of ListApart: two right messages are the same term just if they are one. -/
import Derived.Test.YtpfpmjdifnoeoaaLPack
import Derived.Test.YtpfpmjdifnoeoaaF4
namespace Go.Proofs.Ytpfpmjdifnoeoaa.Pure
set_option linter.unusedVariables false
set_option linter.unusedSimpArgs false
open Go.RowKit Go.Proofs.Ytpfpmjdifnoeoaa.F Go.Proofs.YtpfpmjdifnoeoaaW.PrintWords Go.Proofs.YtpfpmjdifnoeoaaW.PrintLast Go.Proofs.YtpfpmjdifnoeoaaW.PrintMore

theorem same_iff (a b : Msg) : sameM a b = true ↔ a = b := by
  unfold sameM
  rw [decide_eq_true_eq]
  constructor
  · rintro ⟨h1, h2, h3, h4, h5, h6, h7, h8⟩
    exact Msg.eq h1 h2 h3 h4 h5 h6 h7 h8
  · rintro rfl
    exact ⟨rfl, rfl, rfl, rfl, rfl, rfl, rfl, rfl⟩
theorem apart_eq {a b : Msg} (ha : (packM a).2 = 0) (hb : (packM b).2 = 0) : ((packM a).1.toList == (packM b).1.toList) = sameM a b := by
  by_cases c : a = b
  · subst c
    rw [(same_iff a a).mpr rfl, beq_self_eq_true]
  · have h1 : sameM a b = false := Bool.eq_false_iff.mpr fun h => c ((same_iff a b).mp h)
    rw [h1, beq_eq_false_iff_ne]
    exact fun h => c (packM_inj ha hb (tl_eq.mp h))
theorem short_len {ms : List Int} {ts : List ByteArray} (h : shortB ms ts = true) : ms.length < 20 ∧ ts.length < 200 := by
  unfold shortB at h
  rw [decide_eq_true_eq] at h
  exact ⟨h.1, h.2.1⟩
theorem ListApart : ∀ (a0_0 a0_1 a0_2 a0_3 a0_4 a0_5 : Int) (l0_6 : List Int) (l0_7 : List ByteArray) (a1_0 a1_1 a1_2 a1_3 a1_4 a1_5 : Int) (l1_6 : List Int) (l1_7 : List ByteArray), ((Lit.int .i64 a0_0).wf = true) → ((Lit.int .i64 a0_1).wf = true) → ((Lit.int .i64 a0_2).wf = true) → ((Lit.int .i64 a0_3).wf = true) → ((Lit.int .i64 a0_4).wf = true) → ((Lit.int .i64 a0_5).wf = true) → (l0_6.length ≤ 9223372036854775807 ∧ ∀ y ∈ l0_6, (Lit.int .i64 y).wf = true) → (l0_7.length ≤ 9223372036854775807 ∧ ∀ y ∈ l0_7, y.size ≤ 9223372036854775807) → ((Lit.int .i64 a1_0).wf = true) → ((Lit.int .i64 a1_1).wf = true) → ((Lit.int .i64 a1_2).wf = true) → ((Lit.int .i64 a1_3).wf = true) → ((Lit.int .i64 a1_4).wf = true) → ((Lit.int .i64 a1_5).wf = true) → (l1_6.length ≤ 9223372036854775807 ∧ ∀ y ∈ l1_6, (Lit.int .i64 y).wf = true) → (l1_7.length ≤ 9223372036854775807 ∧ ∀ y ∈ l1_7, y.size ≤ 9223372036854775807) → ∃ k, gemotlaw4_ListApart.f k a0_0 a0_1 a0_2 a0_3 a0_4 a0_5 l0_6 l0_7 a1_0 a1_1 a1_2 a1_3 a1_4 a1_5 l1_6 l1_7 = some true := by
  intro a0 a1 a2 a3 a4 a5 l6 l7 b0 b1 b2 b3 b4 b5 m6 m7 _ _ _ _ _ _ _ h7 _ _ _ _ _ _ _ k7
  refine ⟨1, ?_⟩
  unfold gemotlaw4_ListApart.f gemotlaw4_shown.f gemotlaw4_short.f
  rw [if_pos h7.1, if_pos k7.1]
  simp only [Option.bind_some]
  rw [if_pos trivial]
  cases hs : shortB l6 l7
  · simp only [gemotlaw4_ListApart.j0]
    rw [if_neg (by decide), if_pos trivial]
  cases ht : shortB m6 m7
  · simp only [gemotlaw4_ListApart.j0]
    rw [if_pos trivial, if_pos (by decide)]
  obtain ⟨s1, s2⟩ := short_len hs
  obtain ⟨t1, t2⟩ := short_len ht
  simp only [gemotlaw4_ListApart.j0]
  rw [if_pos trivial, if_neg (by decide)]
  unfold list_Pack.f gemotlaw4_asMsg.f gemotlaw4_sameMsg.f
  rw [if_pos ⟨⟨by omega, fun x hx => by have := h7.2 x hx; omega⟩, by omega⟩, if_pos ⟨⟨by omega, fun x hx => by have := k7.2 x hx; omega⟩, by omega⟩]
  simp only [Option.bind_some]
  by_cases c1 : (packM ⟨a0, a1, a2, a3, a4, a5, l6, l7⟩).2 = 0
  case neg => rw [if_neg c1]
  rw [if_pos c1]
  by_cases c2 : (packM ⟨b0, b1, b2, b3, b4, b5, m6, m7⟩).2 = 0
  case neg => rw [if_neg c2]
  rw [if_pos c2, if_pos (by omega)]
  simp only [Option.bind_some]
  rw [if_pos ⟨by omega, by omega⟩]
  simp only [Option.bind_some]
  rw [apart_eq c1 c2, beq_self_eq_true]
end Go.Proofs.Ytpfpmjdifnoeoaa.Pure
