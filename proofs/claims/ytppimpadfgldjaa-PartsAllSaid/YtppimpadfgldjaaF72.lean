-- Laid by mk.py (a program of this session) over the seat's translation.
import Derived.Test.YtppimpadfgldjaaF0
namespace Go.Proofs.Ytppimpadfgldjaa.F
open Go.RowKit Go.Proofs.YtppimpadfgldjaaW.PrintWords Go.Proofs.YtppimpadfgldjaaW.PrintLast Go.Proofs.YtppimpadfgldjaaW.PrintMore
attribute [local go_sem] max2_int min2_int max_two min_two max_three min_three max_four min_four
set_option linter.unusedVariables false
set_option linter.unusedSimpArgs false

/-! ### gemotlaw2_pick: function 72 -/
/-! #### gemotlaw2_pick_p: function 72 -/
def gemotlaw2_pick_p.f (a0 : Int) (a1 : Int) : Option (Int) := if a0 < 0 then (if a1 = 0 then (none) else (some (Int.tmod (wrap64 (-(wrap64 (a0 + 1)))) a1))) else (if a1 = 0 then (none) else (some (Int.tmod a0 a1)))
set_option maxHeartbeats 8000000 in
set_option maxRecDepth 100000 in
theorem gemotlaw2_pick_p.calls (a0 : Int) (a1 : Int) (r : Int) (w : World) (h : gemotlaw2_pick_p.f a0 a1 = some r) :
    Calls Try.prog 72 #[.int .i64 a0, .int .i64 a1] w fun e w' => e = .returned (.int .i64 r) ∧ Drawn0 w w' := by
  have H : (if a0 < 0 then (if a1 = 0 then (none) else (some (Int.tmod (wrap64 (-(wrap64 (a0 + 1)))) a1))) else (if a1 = 0 then (none) else (some (Int.tmod a0 a1)))) = some r := h
  clear h
  by_cases c3 : a0 < 0
  · rw [if_pos c3] at H
    have c3b0 : decide (a0 < 0) = true := decide_eq_true c3
    clear c3
    by_cases c4 : a1 = 0
    · rw [if_pos c4] at H
      exact absurd H (by simp)
    · rw [if_neg c4] at H
      have c4b0 : (a1 == 0) = false := beq_eq_false_iff_ne.mpr c4
      have c4b1 : (a1 != 0) = true := bne_iff_ne.mpr c4
      obtain rfl := Option.some.inj H
      go_enter Try.func72, Try.ntmps72
      go_wp2
      go_ret
      exact ⟨by first | rfl | (simp; done) | (simp [*]; done), by repeat (first | exact Drawn0.refl _ | apply Drawn0.step)⟩
  · rw [if_neg c3] at H
    have c3b0 : decide (a0 < 0) = false := decide_eq_false c3
    clear c3
    by_cases c5 : a1 = 0
    · rw [if_pos c5] at H
      exact absurd H (by simp)
    · rw [if_neg c5] at H
      have c5b0 : (a1 == 0) = false := beq_eq_false_iff_ne.mpr c5
      have c5b1 : (a1 != 0) = true := bne_iff_ne.mpr c5
      obtain rfl := Option.some.inj H
      go_enter Try.func72, Try.ntmps72
      go_wp2
      go_ret
      exact ⟨by first | rfl | (simp; done) | (simp [*]; done), by repeat (first | exact Drawn0.refl _ | apply Drawn0.step)⟩

def gemotlaw2_pick.f (c n : Int) : Option Int := if -9223372036854775808 ≤ c ∧ c ≤ 9223372036854775807 ∧ 0 < n ∧ n ≤ 9223372036854775807 then some ((if c < 0 then -(c + 1) else c) % n) else none
theorem gemotlaw2_pick.eq (c n r : Int) (h : gemotlaw2_pick.f c n = some r) : gemotlaw2_pick_p.f c n = some r := by
  unfold gemotlaw2_pick.f at h
  split at h
  case isFalse => cases h
  rename_i hs
  rw [← h]
  unfold gemotlaw2_pick_p.f
  by_cases d : c < 0
  · rw [if_pos d, if_pos d, if_neg (by omega), show wrap64 (c + 1) = c + 1 by unfold wrap64; omega, show wrap64 (-(c + 1)) = -(c + 1) by unfold wrap64; omega, Int.tmod_eq_emod_of_nonneg (by omega)]
  · rw [if_neg d, if_neg d, if_neg (by omega), Int.tmod_eq_emod_of_nonneg (by omega)]
theorem gemotlaw2_pick.calls (a0 : Int) (a1 : Int) (r : Int) (w : World) (h : gemotlaw2_pick.f a0 a1 = some r) :
    Calls Try.prog 72 #[.int .i64 a0, .int .i64 a1] w fun e w' => e = .returned (.int .i64 r) ∧ Drawn0 w w' :=
  gemotlaw2_pick_p.calls a0 a1 r w (gemotlaw2_pick.eq a0 a1 r h)

end Go.Proofs.Ytppimpadfgldjaa.F
