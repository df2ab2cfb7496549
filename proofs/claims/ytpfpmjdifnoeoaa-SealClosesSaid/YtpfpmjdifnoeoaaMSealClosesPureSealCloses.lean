/- The pure side of SealCloses: the program's answers and the document's are the same. -/
import Derived.Test.YtpfpmjdifnoeoaaMSealClosesLSeal
import Derived.Test.YtpfpmjdifnoeoaaMSealClosesF8
import Derived.Test.YtpfpmjdifnoeoaaMSealClosesF62
import Derived.Test.YtpfpmjdifnoeoaaMSealClosesF60
import Derived.Test.YtpfpmjdifnoeoaaMSealClosesF58
namespace Go.Proofs.Ytpfpmjdifnoeoaa.Pure
set_option linter.unusedVariables false
set_option linter.unusedSimpArgs false
open Go.RowKit Go.Proofs.Ytpfpmjdifnoeoaa.F Go.Proofs.YtpfpmjdifnoeoaaW.PrintWords Go.Proofs.YtpfpmjdifnoeoaaW.PrintLast Go.Proofs.YtpfpmjdifnoeoaaW.PrintMore
theorem SealCloses : ∀ (a0 : ByteArray) (a1_0 : Int) (a1_1 : Int) (l1_2 : List Int) (a2 : Int) (a3 : Int) (a4 : ByteArray) (a5 : ByteArray), (a0.size ≤ 9223372036854775807) → ((Lit.int .i64 a1_0).wf = true) → ((Lit.int .i64 a1_1).wf = true) → (l1_2.length ≤ 9223372036854775807 ∧ ∀ y ∈ l1_2, (Lit.int .i64 y).wf = true) → ((Lit.int .i64 a2).wf = true) → ((Lit.int .i64 a3).wf = true) → (a4.size ≤ 9223372036854775807) → (a5.size ≤ 9223372036854775807) → ∃ k, gemotlaw17_SealCloses.f k a0 a1_0 a1_1 l1_2 a2 a3 a4 a5 = some true := by
  intro key e c l s n t u _ _ _ _ _ _ _ _
  refine ⟨1, ?_⟩
  have hj : gemotlaw17_SealCloses.j0 1 key s n t u true true e c l = some true := by
    simp only [gemotlaw17_SealCloses.j0]
    rw [if_pos trivial]
  unfold gemotlaw17_SealCloses.f gemotlaw17_shown.f
  rw [Option.bind_some, if_pos rfl]
  by_cases c1 : (key.size : Int) > 500
  · rw [if_pos c1]; exact hj
  rw [if_neg c1]
  by_cases c2 : (l.length : Int) > 20
  · rw [if_pos c2]; exact hj
  rw [if_neg c2]
  by_cases c3 : (t.size : Int) > 500
  · rw [if_pos c3]; exact hj
  rw [if_neg c3]
  by_cases c4 : (u.size : Int) > 2000
  · rw [decide_eq_true c4]; exact hj
  rw [decide_eq_false c4]
  clear hj
  have e1 : seal_Nonce.f e c l s n = some (nonceF e c l s n) := if_pos (by omega)
  have e2 : gemotref17_Nonce.f e c l s n = some (nonceF e c l s n) := if_pos (by omega)
  have e3 : seal_Close.f key e c l s n t = some (closeF key e c l s n t) := if_pos ⟨by omega, by omega⟩
  have e4 : gemotref17_Close.f key e c l s n t = some (closeF key e c l s n t) := if_pos ⟨by omega, by omega⟩
  have e5 : seal_Open.f key e c l s n u = some (openF key e c l s n u) := if_pos ⟨by omega, by omega⟩
  have e6 : gemotref17_Open.f key e c l s n u = some (openF key e c l s n u) := if_pos ⟨by omega, by omega⟩
  simp only [gemotlaw17_SealCloses.j0]
  rw [if_neg (by decide), e1, e2, e3, e4, e5, e6]
  simp only [Option.bind_some]
  rw [if_pos trivial, if_pos trivial, if_pos trivial, if_pos trivial, if_pos trivial]
  simp
end Go.Proofs.Ytpfpmjdifnoeoaa.Pure
