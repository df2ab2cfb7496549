/- The pure side of NetLost. -/
import Derived.Test.YtagceackfnkifaaF11
namespace Go.Proofs.Ytagceackfnkifaa.Pure
set_option linter.unusedVariables false
open Go.RowKit Go.Proofs.Ytagceackfnkifaa.F Go.Proofs.YtagceackfnkifaaW.PrintWords Go.Proofs.YtagceackfnkifaaW.PrintLast Go.Proofs.YtagceackfnkifaaW.PrintMore
theorem NetLost (a0 : Int) (l1 : List Int) (h0 : (Lit.int .i64 a0).wf = true) (h1 : l1.length ≤ 9223372036854775807 ∧ ∀ y ∈ l1, (Lit.int .i64 y).wf = true) : gemotlaw8_NetLost.f a0 l1 = some true :=
  if_pos ⟨in64_of h0, fun x hx => in64_of (h1.2 x hx)⟩
end Go.Proofs.Ytagceackfnkifaa.Pure
