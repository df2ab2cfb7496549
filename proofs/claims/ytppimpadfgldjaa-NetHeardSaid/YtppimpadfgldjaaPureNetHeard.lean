/- The pure side of NetHeard. -/
import Derived.Test.YtppimpadfgldjaaF13
namespace Go.Proofs.Ytppimpadfgldjaa.Pure
set_option linter.unusedVariables false
open Go.RowKit Go.Proofs.Ytppimpadfgldjaa.F Go.Proofs.YtppimpadfgldjaaW.PrintWords Go.Proofs.YtppimpadfgldjaaW.PrintLast Go.Proofs.YtppimpadfgldjaaW.PrintMore
theorem NetHeard (l0 : List S112) (h0 : l0.length ≤ 9223372036854775807 ∧ ∀ y ∈ l0, (Lit.int .i64 y.f0).wf = true ∧ (Lit.int .i64 y.f1).wf = true ∧ (Lit.int .i64 y.f2).wf = true ∧ (Lit.int .i64 y.f3).wf = true ∧ y.f4.size ≤ 9223372036854775807) : gemotlaw8_NetHeard.f l0 = some true :=
  if_pos (fun x hx => ⟨in64_of (h0.2 x hx).1, in64_of (h0.2 x hx).2.1, in64_of (h0.2 x hx).2.2.1, in64_of (h0.2 x hx).2.2.2.1⟩)
end Go.Proofs.Ytppimpadfgldjaa.Pure
