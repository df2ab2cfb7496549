/- The steps and picks of chapter 4's statements, over plain terms. -/
import Derived.Test.YtpfpmjdifnoeoaaMListBackB2
import Derived.Test.YtpfpmjdifnoeoaaMListBackF100
import Derived.Test.YtpfpmjdifnoeoaaMListBackF55
namespace Go.Proofs.Ytpfpmjdifnoeoaa.Pure
set_option linter.unusedVariables false
set_option linter.unusedSimpArgs false
open Go.RowKit Go.Proofs.Ytpfpmjdifnoeoaa.F Go.Proofs.YtpfpmjdifnoeoaaW.PrintWords Go.Proofs.YtpfpmjdifnoeoaaW.PrintLast Go.Proofs.YtpfpmjdifnoeoaaW.PrintMore
theorem made4 (l : List S170) (h : ∀ y ∈ l, (Lit.int .i64 y.f0).wf = true ∧ (Lit.int .i64 y.f1).wf = true ∧ (Lit.int .i64 y.f2).wf = true ∧ (Lit.int .i64 y.f3).wf = true) : ∃ out, gemotlaw4_made.f l = some out ∧ MadeOk out ∧ out.length ≤ 42 := by
  refine ⟨gemotlaw4_made.tmade l, ?_, madeT_ok _⟩
  unfold gemotlaw4_made.f
  exact if_pos fun x hx => ⟨rg64 (h x hx).1, rg64 (h x hx).2.1, rg64 (h x hx).2.2.1, rg64 (h x hx).2.2.2⟩
end Go.Proofs.Ytpfpmjdifnoeoaa.Pure
