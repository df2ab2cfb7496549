-- Laid by mk.py (a program of this session) over the seat's translation.
import Derived.Test.YtppimpadfgldjaaF0
import Derived.Test.YtppimpadfgldjaaF118
import Derived.Test.YtppimpadfgldjaaF57
import Derived.RegionTactic
import Derived.BigRegion
namespace Go.Proofs.Ytppimpadfgldjaa.F
open Go.RowKit Go.Proofs.YtppimpadfgldjaaW.PrintWords Go.Proofs.YtppimpadfgldjaaW.PrintLast Go.Proofs.YtppimpadfgldjaaW.PrintMore
attribute [local go_sem] max2_int min2_int max_two min_two max_three min_three max_four min_four
set_option linter.unusedVariables false
set_option linter.unusedSimpArgs false

/-! ### net_Net_Lie: function 65 -/
open Go.Maps Go.Proofs.Ytppimpadfgldjaa.Pure
set_option maxHeartbeats 2000000 in
set_option maxRecDepth 100000 in
theorem net_Net_Lie.calls (w : World) (g : Nat) (F : Nat → Prop) (s : NS) (h : NetIn w g F s) (hl : s.lie.length ≤ 400) :
    Calls Try.prog 65 #[.pointer (some ⟨g, 0, none⟩)] w fun e w' => ∃ v, e = .returned v ∧ Kd.R k114 114 w' w.heap.size (fun _ => True) v s.lie ∧ Below w.heap.size w w' := by
  obtain ⟨v, b, n, D, h1, h2, h3, h4, h5, h6⟩ := h
  obtain ⟨A, c, rfl⟩ := Kd.R_slice h3
  have c0 : w.cell? ⟨g, 0, none⟩ = some (.slice A s.lie.length c) := (blk_cell h1 0).trans rfl
  have HC := Aside0.mk (cloneDg.calls A c s.lie w (Kd.R_reads' h3).2.2 (by omega))
  clear h1 h2 h3 h4 h5 h6 hl
  go_enter Try.func65, Try.ntmps65
  go_wp2_with (go_at_call 118; go_loud (refine (HC.out).mono ?_; rintro e w1 ⟨v1, rfl, hr, hb⟩; have HR1 := Aside0.mk hr; have HB1 := Aside0.mk hb; clear hr hb))
  go_ret
  exact ⟨_, rfl, HR1.out, HB1.out⟩

end Go.Proofs.Ytppimpadfgldjaa.F
