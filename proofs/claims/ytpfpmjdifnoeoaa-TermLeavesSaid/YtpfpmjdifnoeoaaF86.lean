-- Laid by mk.py (a program of this session) over the seat's translation.
import Derived.Test.YtpfpmjdifnoeoaaF0
namespace Go.Proofs.Ytpfpmjdifnoeoaa.F
open Go.RowKit Go.Proofs.YtpfpmjdifnoeoaaW.PrintWords Go.Proofs.YtpfpmjdifnoeoaaW.PrintLast Go.Proofs.YtpfpmjdifnoeoaaW.PrintMore
attribute [local go_sem] max2_int min2_int max_two min_two max_three min_three max_four min_four
set_option linter.unusedVariables false
set_option linter.unusedSimpArgs false

/-! ### term_Gen: function 86 -/
def term_Gen.f  : Option (ByteArray) := some (⟨#[103]⟩ : ByteArray)
set_option maxHeartbeats 8000000 in
set_option maxRecDepth 100000 in
theorem term_Gen.calls  (r : ByteArray) (w : World) (h : term_Gen.f  = some r) :
    Calls Try.prog 86 #[] w fun e w' => e = .returned (.string r) ∧ Drawn0 w w' := by
  have H : (some (⟨#[103]⟩ : ByteArray)) = some r := h
  clear h
  obtain rfl := Option.some.inj H
  go_enter Try.func86, Try.ntmps86
  go_wp2
  go_ret
  exact ⟨by first | rfl | (simp; done) | (simp [*]; done), by repeat (first | exact Drawn0.refl _ | apply Drawn0.step)⟩

end Go.Proofs.Ytpfpmjdifnoeoaa.F
