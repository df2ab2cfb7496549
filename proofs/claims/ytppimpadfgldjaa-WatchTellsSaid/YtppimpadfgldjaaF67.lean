-- Laid by mk.py (a program of this session) over the seat's translation.
import Derived.Test.YtppimpadfgldjaaF0
import Derived.Test.YtppimpadfgldjaaF57
import Derived.RegionTactic
import Derived.BigRegion
namespace Go.Proofs.Ytppimpadfgldjaa.F
open Go.RowKit Go.Proofs.YtppimpadfgldjaaW.PrintWords Go.Proofs.YtppimpadfgldjaaW.PrintLast Go.Proofs.YtppimpadfgldjaaW.PrintMore
attribute [local go_sem] max2_int min2_int max_two min_two max_three min_three max_four min_four
set_option linter.unusedVariables false
set_option linter.unusedSimpArgs false

/-! ### net_Net_Many: function 67 -/
open Go.Maps Go.Proofs.Ytppimpadfgldjaa.Pure
set_option maxHeartbeats 2000000 in
set_option maxRecDepth 100000 in
theorem net_Net_Many.calls (w : World) (g : Nat) (F : Nat → Prop) (s : NS) (h : NetIn w g F s) :
    Calls Try.prog 67 #[.pointer (some ⟨g, 0, none⟩)] w fun e w' => e = .returned (.int .i64 s.lie.length) ∧ w' = w := by
  obtain ⟨v, b, n, D, h1, h2, h3, h4, h5, h6⟩ := h
  obtain ⟨A, c, rfl⟩ := Kd.R_slice h3
  have c0 : w.cell? ⟨g, 0, none⟩ = some (.slice A s.lie.length c) := (blk_cell h1 0).trans rfl
  clear h1 h2 h3 h4 h5 h6
  go_enter Try.func67, Try.ntmps67
  go_wp2
  go_ret
  exact ⟨rfl, rfl⟩

end Go.Proofs.Ytppimpadfgldjaa.F
