/- The pure side of NetPlays. -/
import Derived.Test.YtppimpadfgldjaaF12
namespace Go.Proofs.Ytppimpadfgldjaa.Pure
set_option linter.unusedVariables false
open Go.RowKit Go.Proofs.Ytppimpadfgldjaa.F Go.Proofs.YtppimpadfgldjaaW.PrintWords Go.Proofs.YtppimpadfgldjaaW.PrintLast Go.Proofs.YtppimpadfgldjaaW.PrintMore
theorem NetPlays (l0 : List S112) (h0 : l0.length ≤ 9223372036854775807 ∧ ∀ y ∈ l0, (Lit.int .i64 y.f0).wf = true ∧ (Lit.int .i64 y.f1).wf = true ∧ (Lit.int .i64 y.f2).wf = true ∧ (Lit.int .i64 y.f3).wf = true ∧ y.f4.size ≤ 9223372036854775807) : gemotlaw8_NetPlays.f l0 = some true :=
  if_pos (fun x hx => ⟨in64_of (h0.2 x hx).1, (h0.2 x hx).2.2.2.2⟩)
end Go.Proofs.Ytppimpadfgldjaa.Pure
