/- The pure side of NetKinds. -/
import Derived.Test.YtagceackfnkifaaF9
namespace Go.Proofs.Ytagceackfnkifaa.Pure
set_option linter.unusedVariables false
open Go.RowKit Go.Proofs.Ytagceackfnkifaa.F Go.Proofs.YtagceackfnkifaaW.PrintWords Go.Proofs.YtagceackfnkifaaW.PrintLast Go.Proofs.YtagceackfnkifaaW.PrintMore
theorem NetKinds (x1 x2 : Int) (x3 : ByteArray) (h1 : (Lit.int .i64 x1).wf = true) (h2 : (Lit.int .i64 x2).wf = true) (h3 : x3.size ≤ 9223372036854775807) : gemotlaw8_NetKinds.f x1 x2 x3 = some true := by
  unfold gemotlaw8_NetKinds.f
  rw [if_pos (by omega)]
end Go.Proofs.Ytagceackfnkifaa.Pure
