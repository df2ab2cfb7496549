/- The pure side of WatchTells. -/
import Derived.Test.YtppimpadfgldjaaF3
namespace Go.Proofs.Ytppimpadfgldjaa.Pure
set_option linter.unusedVariables false
open Go.RowKit Go.Proofs.Ytppimpadfgldjaa.F Go.Proofs.YtppimpadfgldjaaW.PrintWords Go.Proofs.YtppimpadfgldjaaW.PrintLast Go.Proofs.YtppimpadfgldjaaW.PrintMore
theorem WatchTells (a0 a1 : Int) (l2 : List Int) (h0 : (Lit.int .i64 a0).wf = true) (h1 : (Lit.int .i64 a1).wf = true) (h2 : l2.length ≤ 9223372036854775807 ∧ ∀ y ∈ l2, (Lit.int .i64 y).wf = true) : gemotlaw9_WatchTells.f a0 a1 l2 = some true := rfl
end Go.Proofs.Ytppimpadfgldjaa.Pure
