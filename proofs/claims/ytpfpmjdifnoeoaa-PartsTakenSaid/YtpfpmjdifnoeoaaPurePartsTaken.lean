/- The pure side of PartsTaken: what is told of any text is what the document says. -/
import Derived.Test.YtpfpmjdifnoeoaaB2
import Derived.Test.YtpfpmjdifnoeoaaLAll
import Derived.Test.YtpfpmjdifnoeoaaF13
namespace Go.Proofs.Ytpfpmjdifnoeoaa.Pure
set_option linter.unusedVariables false
set_option linter.unusedSimpArgs false
open Go.RowKit Go.Proofs.Ytpfpmjdifnoeoaa.F Go.Proofs.YtpfpmjdifnoeoaaW.PrintWords Go.Proofs.YtpfpmjdifnoeoaaW.PrintLast Go.Proofs.YtpfpmjdifnoeoaaW.PrintMore

theorem PartsTaken : ∀ (a0 : ByteArray), (a0.size ≤ 9223372036854775807) → ∃ k, gemotlaw2_PartsTaken.f k a0 = some true := by
  intro a0 hs
  obtain ⟨k0, hk⟩ := refAll_eq a0 (by omega)
  refine ⟨k0 + 1, ?_⟩
  unfold gemotlaw2_PartsTaken.f gemotlaw2_shown.f
  simp only [Option.bind_some, if_true]
  by_cases c : (a0.size : Int) > 1500
  · rw [decide_eq_true c]
    simp only [gemotlaw2_PartsTaken.j0]
    rw [if_pos trivial]
  · rw [decide_eq_false c]
    simp only [gemotlaw2_PartsTaken.j0]
    rw [hk k0 (Nat.le_refl _)]
    unfold parts_Value.f gemotref2_Value.f parts_Said.f gemotref2_Said.f parts_Kind.f gemotref2_Kind.f parts_Of.f gemotref2_Of.f parts_All.f
    have h : a0.size < 9223372036854775808 := by omega
    rw [if_neg (by decide)]
    simp only [if_pos h, Option.bind_some, if_true, gemotlaw2_same.f, decide_true, beq_self_eq_true]
end Go.Proofs.Ytpfpmjdifnoeoaa.Pure
