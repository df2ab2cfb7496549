/- Plain facts about what names, numbers and texts say. -/
import Derived.Test.YtpfpmjdifnoeoaaMSealApartB2
import Derived.Test.YtpfpmjdifnoeoaaMSealApartB3
namespace Go.Proofs.Ytpfpmjdifnoeoaa.Pure
set_option linter.unusedVariables false
set_option linter.unusedSimpArgs false
open Go.RowKit Go.Proofs.Ytpfpmjdifnoeoaa.F Go.Proofs.YtpfpmjdifnoeoaaW.PrintWords Go.Proofs.YtpfpmjdifnoeoaaW.PrintLast Go.Proofs.YtpfpmjdifnoeoaaW.PrintMore
theorem said_text {s : ByteArray} (h : s.size ≤ 100) : saidF (textF s).1 = (s, true) := by
  have ht := text_ok h
  obtain ⟨b0, b1, b2, hz⟩ := text_bytes s h
  rw [ht.1]
  have hk : kindF (strOfNums [116, 0, s.size] ++ s) = 116 := (kind_leaf ht.2 (by omega)).trans b0
  have he : (strOfNums [116, 0, s.size] ++ s).extract 3 (strOfNums [116, 0, s.size] ++ s).size = s := by
    have := (Lies.last (strOfNums [116, 0, (s.size : Int)]) s).whole
    rw [show (strOfNums [116, 0, (s.size : Int)]).size = 3 from rfl] at this
    rw [hz]
    exact this
  unfold saidF
  rw [if_pos hk]
  exact congrArg (·, true) he
end Go.Proofs.Ytpfpmjdifnoeoaa.Pure
