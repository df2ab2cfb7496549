/- Plain facts about the views of chapter 17's statements. -/
import Derived.Test.YtpfpmjdifnoeoaaMSealNoncesLSeal
import Derived.Test.YtpfpmjdifnoeoaaMSealNoncesF64
namespace Go.Proofs.Ytpfpmjdifnoeoaa.Pure
set_option linter.unusedVariables false
set_option linter.unusedSimpArgs false
open Go.RowKit Go.Proofs.Ytpfpmjdifnoeoaa.F Go.Proofs.YtpfpmjdifnoeoaaW.PrintWords Go.Proofs.YtpfpmjdifnoeoaaW.PrintLast Go.Proofs.YtpfpmjdifnoeoaaW.PrintMore
theorem of17 {c : Int} (h : (Lit.int .i64 c).wf = true) : gemotlaw17_of.f c = some (pickF c 1000, 1, procs8) := by
  unfold gemotlaw17_of.f
  rw [if_pos (rg64 h)]
  rfl
theorem pick17_range (c : Int) {n : Int} (h : 0 < n) : 0 ≤ pickF c n ∧ pickF c n ≤ n - 1 := by
  have := pickF_range c h
  omega
end Go.Proofs.Ytpfpmjdifnoeoaa.Pure
