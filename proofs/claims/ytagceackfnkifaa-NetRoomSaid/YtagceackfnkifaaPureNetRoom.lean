/- The pure side of NetRoom. -/
import Derived.Test.YtagceackfnkifaaF7
namespace Go.Proofs.Ytagceackfnkifaa.Pure
set_option linter.unusedVariables false
open Go.RowKit Go.Proofs.Ytagceackfnkifaa.F Go.Proofs.YtagceackfnkifaaW.PrintWords Go.Proofs.YtagceackfnkifaaW.PrintLast Go.Proofs.YtagceackfnkifaaW.PrintMore
theorem NetRoom (a0 a1 : Int) (h0 : (Lit.int .i64 a0).wf = true) (h1 : (Lit.int .i64 a1).wf = true) : gemotlaw8_NetRoom.f a0 a1 = some true :=
  if_pos ⟨in64_of h0, in64_of h1⟩
end Go.Proofs.Ytagceackfnkifaa.Pure
