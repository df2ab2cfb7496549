/- The pure side of NetOrder. -/
import Derived.Test.YtagceackfnkifaaF4
namespace Go.Proofs.Ytagceackfnkifaa.Pure
set_option linter.unusedVariables false
open Go.RowKit Go.Proofs.Ytagceackfnkifaa.F Go.Proofs.YtagceackfnkifaaW.PrintWords Go.Proofs.YtagceackfnkifaaW.PrintLast Go.Proofs.YtagceackfnkifaaW.PrintMore
theorem NetOrder (l0 : List Int) (a1 : Int) (h0 : l0.length ≤ 9223372036854775807 ∧ ∀ y ∈ l0, (Lit.int .i64 y).wf = true) (h1 : (Lit.int .i64 a1).wf = true) : gemotlaw8_NetOrder.f l0 a1 = some true :=
  if_pos ⟨fun x hx => in64_of (h0.2 x hx), in64_of h1⟩
end Go.Proofs.Ytagceackfnkifaa.Pure
