/- The pure side of ListPacks: the two readings of a message, and the two ways to write it, are the same. -/
import Derived.Test.YtpfpmjdifnoeoaaMListPacksLMsg
import Derived.Test.YtpfpmjdifnoeoaaMListPacksF6
namespace Go.Proofs.Ytpfpmjdifnoeoaa.Pure
set_option linter.unusedVariables false
set_option linter.unusedSimpArgs false
open Go.RowKit Go.Proofs.Ytpfpmjdifnoeoaa.F Go.Proofs.YtpfpmjdifnoeoaaW.PrintWords Go.Proofs.YtpfpmjdifnoeoaaW.PrintLast Go.Proofs.YtpfpmjdifnoeoaaW.PrintMore
theorem unpack_lens (s : ByteArray) : (unpackM s).1.ms.length < 1000 ∧ (unpackM s).1.ts.length < 1000 := by
  rcases unpack_codes s with c | c
  · obtain ⟨h1, h2⟩ := unpack_sound c
    have hz : (packM (unpackM s).1).2 = 0 := by rw [h1]
    have h4 := (packM_ok hz).2.2.2.2
    unfold rowM at h4
    rw [List.length_append] at h4
    have h5 := h2.len
    omega
  · rw [c]; exact ⟨by decide, by decide⟩
theorem sameM_self (m : Msg) : sameM m m = true := by unfold sameM; rw [decide_eq_true_eq]; exact ⟨rfl, rfl, rfl, rfl, rfl, rfl, rfl, rfl⟩
theorem ListPacks : ∀ (a0_0 a0_1 a0_2 a0_3 a0_4 a0_5 : Int) (l0_6 : List Int) (l0_7 : List ByteArray) (a1 : ByteArray), ((Lit.int .i64 a0_0).wf = true) → ((Lit.int .i64 a0_1).wf = true) → ((Lit.int .i64 a0_2).wf = true) → ((Lit.int .i64 a0_3).wf = true) → ((Lit.int .i64 a0_4).wf = true) → ((Lit.int .i64 a0_5).wf = true) → (l0_6.length ≤ 9223372036854775807 ∧ ∀ y ∈ l0_6, (Lit.int .i64 y).wf = true) → (l0_7.length ≤ 9223372036854775807 ∧ ∀ y ∈ l0_7, y.size ≤ 9223372036854775807) → (a1.size ≤ 9223372036854775807) → ∃ k, gemotlaw4_ListPacks.f k a0_0 a0_1 a0_2 a0_3 a0_4 a0_5 l0_6 l0_7 a1 = some true := by
  intro a0 a1 a2 a3 a4 a5 l6 l7 s _ _ _ _ _ _ _ h7 _
  refine ⟨1, ?_⟩
  unfold gemotlaw4_ListPacks.f gemotlaw4_shown.f gemotlaw4_short.f
  rw [if_pos h7.1]
  simp only [Option.bind_some]
  rw [if_pos trivial]
  cases hs : shortB l6 l7
  · simp only [gemotlaw4_ListPacks.j0]
    rw [if_neg (by decide), if_pos trivial]
  have hb : l6.length < 20 ∧ l7.length < 200 := by
    unfold shortB at hs
    rw [decide_eq_true_eq] at hs
    exact ⟨hs.1, hs.2.1⟩
  have hx : ∀ x ∈ l7, x.size < 9223372036854775808 := fun x hx => by
    have := h7.2 x hx
    omega
  rw [if_pos rfl]
  by_cases c : (s.size : Int) > 3000
  · rw [decide_eq_true c]
    simp only [gemotlaw4_ListPacks.j0]
    simp
  rw [decide_eq_false c]
  have hs3 : s.size ≤ 3000 := by omega
  obtain ⟨u1, u2⟩ := unpack_lens s
  have e1 : gemotlaw4_asMsg.f a0 a1 a2 a3 a4 a5 l6 l7 = some (a0, a1, a2, a3, a4, a5, l6, l7) := if_pos (by omega)
  have e2 : list_Pack.f a0 a1 a2 a3 a4 a5 l6 l7 = some (packM ⟨a0, a1, a2, a3, a4, a5, l6, l7⟩) := if_pos ⟨⟨by omega, hx⟩, by omega⟩
  have e3 : gemotref4_Pack.f a0 a1 a2 a3 a4 a5 l6 l7 = some (packM ⟨a0, a1, a2, a3, a4, a5, l6, l7⟩) := if_pos ⟨⟨by omega, by omega⟩, hx⟩
  have e4 : list_Unpack.f s = some ((unpackM s).1.kind, (unpackM s).1.ie, (unpackM s).1.ic, (unpackM s).1.oe, (unpackM s).1.oc, (unpackM s).1.num, (unpackM s).1.ms, (unpackM s).1.ts, (unpackM s).2) := if_pos (by omega)
  have e5 : gemotref4_Unpack.f s = some ((unpackM s).1.kind, (unpackM s).1.ie, (unpackM s).1.ic, (unpackM s).1.oe, (unpackM s).1.oc, (unpackM s).1.num, (unpackM s).1.ms, (unpackM s).1.ts, (unpackM s).2) := if_pos (by omega)
  have e6 : list_Right.f a0 a1 a2 a3 a4 a5 l6 l7 = some (rightM ⟨a0, a1, a2, a3, a4, a5, l6, l7⟩) := if_pos ⟨by omega, hx⟩
  have e7 : gemotref4_Right.f a0 a1 a2 a3 a4 a5 l6 l7 = some (rightM ⟨a0, a1, a2, a3, a4, a5, l6, l7⟩) := if_pos ⟨by omega, by omega, hx⟩
  have e8 : gemotlaw4_sameMsg.f (unpackM s).1.kind (unpackM s).1.ie (unpackM s).1.ic (unpackM s).1.oe (unpackM s).1.oc (unpackM s).1.num (unpackM s).1.ms (unpackM s).1.ts (unpackM s).1.kind (unpackM s).1.ie (unpackM s).1.ic (unpackM s).1.oe (unpackM s).1.oc (unpackM s).1.num (unpackM s).1.ms (unpackM s).1.ts = some true := by
    unfold gemotlaw4_sameMsg.f
    rw [if_pos ⟨by omega, by omega⟩]
    exact congrArg some (sameM_self _)
  simp only [gemotlaw4_ListPacks.j0]
  rw [if_neg (by decide), e1]
  simp only [Option.bind_some]
  rw [e2, e3, e4, e5]
  simp only [Option.bind_some]
  rw [if_pos trivial, if_pos trivial, e6, e7]
  simp only [Option.bind_some]
  rw [e8]
  simp
end Go.Proofs.Ytpfpmjdifnoeoaa.Pure
