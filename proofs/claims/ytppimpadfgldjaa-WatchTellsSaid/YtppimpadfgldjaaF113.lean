-- Laid by mk.py (a program of this session) over the seat's translation.
import Derived.Test.YtppimpadfgldjaaF0
import Derived.Test.YtppimpadfgldjaaF57
import Derived.RegionTactic
import Derived.BigRegion
namespace Go.Proofs.Ytppimpadfgldjaa.F
open Go.RowKit Go.Proofs.YtppimpadfgldjaaW.PrintWords Go.Proofs.YtppimpadfgldjaaW.PrintLast Go.Proofs.YtppimpadfgldjaaW.PrintMore
attribute [local go_sem] max2_int min2_int max_two min_two max_three min_three max_four min_four
set_option linter.unusedVariables false
set_option linter.unusedSimpArgs false

/-! ### net_Net_has: function 113 -/
open Go.Maps Go.Proofs.Ytppimpadfgldjaa.Pure
def hasN (s : NS) (i : Int) : Bool := decide (0 ≤ i ∧ i < s.lie.length)
set_option maxHeartbeats 2000000 in
set_option maxRecDepth 100000 in
theorem net_Net_has.calls (i : Int) (w : World) (g : Nat) (F : Nat → Prop) (s : NS) (h : NetIn w g F s) :
    Calls Try.prog 113 #[.pointer (some ⟨g, 0, none⟩), .int .i64 i] w fun e w' => e = .returned (.bool (hasN s i)) ∧ w' = w := by
  obtain ⟨v, b, n, D, h1, h2, h3, h4, h5, h6⟩ := h
  obtain ⟨A, c, rfl⟩ := Kd.R_slice h3
  have c0 : w.cell? ⟨g, 0, none⟩ = some (.slice A s.lie.length c) := (blk_cell h1 0).trans rfl
  clear h1 h2 h3 h4 h5 h6
  unfold hasN
  by_cases q : 0 ≤ i
  · have q1 : decide (0 ≤ i) = true := decide_eq_true q
    by_cases r : i < s.lie.length
    · have r1 : decide (i < (s.lie.length : Int)) = true := decide_eq_true r
      rw [decide_eq_true ⟨q, r⟩]
      go_enter Try.func113, Try.ntmps113
      go_wp2
      go_ret
      exact ⟨rfl, rfl⟩
    · have r1 : decide (i < (s.lie.length : Int)) = false := decide_eq_false r
      rw [decide_eq_false (fun h => r h.2)]
      go_enter Try.func113, Try.ntmps113
      go_wp2
      go_ret
      exact ⟨rfl, rfl⟩
  · have q1 : decide (0 ≤ i) = false := decide_eq_false q
    rw [decide_eq_false (fun h => q h.1)]
    go_enter Try.func113, Try.ntmps113
    go_wp2
    go_ret
    exact ⟨rfl, rfl⟩

end Go.Proofs.Ytppimpadfgldjaa.F
