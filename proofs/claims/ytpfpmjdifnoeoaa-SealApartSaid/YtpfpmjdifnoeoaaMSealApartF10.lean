import Derived.Test.YtpfpmjdifnoeoaaMSealApartF0
import Derived.Test.YtpfpmjdifnoeoaaMSealApartF10D
import Derived.Test.YtpfpmjdifnoeoaaMSealApartF10X
import Derived.Test.YtpfpmjdifnoeoaaMSealApartF10Y
import Derived.Test.YtpfpmjdifnoeoaaMSealApartF64
namespace Go.Proofs.Ytpfpmjdifnoeoaa.F
open Go.RowKit Go.Proofs.YtpfpmjdifnoeoaaW.PrintWords Go.Proofs.YtpfpmjdifnoeoaaW.PrintLast Go.Proofs.YtpfpmjdifnoeoaaW.PrintMore
attribute [local go_sem] max2_int min2_int max_two min_two max_three min_three max_four min_four
set_option linter.unusedVariables false
set_option linter.unusedSimpArgs false
theorem gemotlaw17_SealApart.calls (k : Nat) (a0 : Int) (A1 : Option Addr) (c1 : Nat) (l1 : List Int) (a2 : ByteArray) (a3 : ByteArray) (r : Bool) (w : World) (hr1 : Kd.C (Kd.int .i64) w A1 l1.length l1) (hc1 : l1.length ≤ c1) (h : gemotlaw17_SealApart.f k a0 l1 a2 a3 = some r) :
    Calls Try.prog 10 #[.int .u64 a0, .slice A1 l1.length c1, .string a2, .string a3] w fun e w' => e = .returned (.bool r) ∧ Below w.heap.size w w' := by
  by_cases hq : gemotlaw17_pick.f (rd l1 0) 1000 = gemotlaw17_pick.f (rd l1 3) 1000 ∧ gemotlaw17_pick.f (rd l1 1) 8 = gemotlaw17_pick.f (rd l1 4) 8
  · exact gemotlaw17_SealApart.callsA k a0 A1 c1 l1 a2 a3 r w hr1 hc1 h hq
  · exact gemotlaw17_SealApart.callsB k a0 A1 c1 l1 a2 a3 r w hr1 hc1 h hq
end Go.Proofs.Ytpfpmjdifnoeoaa.F
