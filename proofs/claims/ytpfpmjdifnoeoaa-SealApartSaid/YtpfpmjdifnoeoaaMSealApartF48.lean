import Derived.Test.YtpfpmjdifnoeoaaMSealApartF0
import Derived.Test.YtpfpmjdifnoeoaaMSealApartB3
import Derived.Test.YtpfpmjdifnoeoaaMSealApartB1
import Derived.Laws.NewBlocks
import Derived.RegionTactic
import Derived.BigRegion
import Derived.Deep.RegionLaw
import Derived.Deep.AppendLies
namespace Go.Proofs.Ytpfpmjdifnoeoaa.F
open Go.RowKit Go.Proofs.YtpfpmjdifnoeoaaW.PrintWords Go.Proofs.YtpfpmjdifnoeoaaW.PrintLast Go.Proofs.YtpfpmjdifnoeoaaW.PrintMore
attribute [local go_sem] max2_int min2_int max_two min_two max_three min_three max_four min_four
set_option linter.unusedVariables false
set_option linter.unusedSimpArgs false
open Go.Proofs.Ytpfpmjdifnoeoaa.Pure
def rowN : Nat → ByteArray → List ByteArray × Int
  | 0, t => if t = numF 0 then ([], 0) else ([], 2)
  | k + 1, t => if t = numF 0 then ([], 0) else if kindF t = 112 then (if (rowN k (rdOf ByteArray.empty (kidsF t) 1)).2 = 0 then (rdOf ByteArray.empty (kidsF t) 0 :: (rowN k (rdOf ByteArray.empty (kidsF t) 1)).1, 0) else ([], 2)) else ([], 2)
end Go.Proofs.Ytpfpmjdifnoeoaa.F
