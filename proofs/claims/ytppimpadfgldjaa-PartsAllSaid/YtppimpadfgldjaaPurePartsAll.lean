/- The pure side of PartsAll: the walk bears it. -/
import Derived.Test.YtppimpadfgldjaaF14
namespace Go.Proofs.Ytppimpadfgldjaa.Pure
set_option linter.unusedVariables false
open Go.RowKit Go.Proofs.Ytppimpadfgldjaa.F Go.Proofs.YtppimpadfgldjaaW.PrintWords Go.Proofs.YtppimpadfgldjaaW.PrintLast Go.Proofs.YtppimpadfgldjaaW.PrintMore
theorem PartsAll : ∀ (l0 : List (S186)) (a1 : Int), (l0.length ≤ 9223372036854775807 ∧ ∀ y ∈ l0, (Lit.int .i64 y.f0).wf = true ∧ (Lit.int .i64 y.f1).wf = true ∧ (Lit.int .i64 y.f2).wf = true ∧ (Lit.int .i64 y.f3).wf = true) → ((Lit.int .i64 a1).wf = true) → gemotlaw2_PartsAll.f l0 a1 = some true :=
  fun l0 a1 h0 h1 => if_pos ⟨h0.2, h1⟩
end Go.Proofs.Ytppimpadfgldjaa.Pure
