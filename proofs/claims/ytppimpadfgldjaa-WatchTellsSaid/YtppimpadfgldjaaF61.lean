-- Laid by mk.py (a program of this session) over the seat's translation.
import Derived.Test.YtppimpadfgldjaaF0
import Derived.Test.YtppimpadfgldjaaF113
import Derived.Test.YtppimpadfgldjaaF115
import Derived.Test.YtppimpadfgldjaaF57
import Derived.RegionTactic
import Derived.BigRegion
namespace Go.Proofs.Ytppimpadfgldjaa.F
open Go.RowKit Go.Proofs.YtppimpadfgldjaaW.PrintWords Go.Proofs.YtppimpadfgldjaaW.PrintLast Go.Proofs.YtppimpadfgldjaaW.PrintMore
attribute [local go_sem] max2_int min2_int max_two min_two max_three min_three max_four min_four
set_option linter.unusedVariables false
set_option linter.unusedSimpArgs false

/-! ### net_Net_Double: function 61 -/
open Go.Maps Go.Proofs.Ytppimpadfgldjaa.Pure
def doubleN (s : NS) (i : Int) : NS × Int := if hasN s i = true then addN s (rd_T114 s.lie i) else (s, 8)
set_option maxHeartbeats 2000000 in
set_option maxRecDepth 100000 in
theorem net_Net_Double.calls (i : Int) (w : World) (g : Nat) (F : Nat → Prop) (s : NS) (h : NetIn w g F s) (hl : s.lie.length ≤ 400) :
    Calls Try.prog 61 #[.pointer (some ⟨g, 0, none⟩), .int .i64 i] w fun e w' => e = .returned (.int .i64 (doubleN s i).2) ∧ NetIn w' g (fun k => F k ∨ w.heap.size ≤ k) (doubleN s i).1 ∧ Near F w w' := by
  have HH := Aside0.mk (net_Net_has.calls i w g F s h)
  unfold doubleN
  by_cases q : hasN s i = true
  · rw [if_pos q]
    rw [q] at HH
    obtain ⟨q0, q1⟩ := of_decide_eq_true q
    have HA := Aside0.mk (net_Net_add.calls (rd_T114 s.lie i) w g F s h hl)
    obtain ⟨v, b, n, D, h1, h2, h3, h4, h5, h6⟩ := id h
    obtain ⟨A, c, rfl⟩ := Kd.R_slice h3
    have c0 : w.cell? ⟨g, 0, none⟩ = some (.slice A s.lie.length c) := (blk_cell h1 0).trans rfl
    obtain ⟨ad, rfl, e0, e1, e2⟩ := at_T114 (Kd.R_reads' h3).2.2 i q0 q1
    have p0 := eq_true q0
    have p1 := eq_true q1
    have p2 : (i < (s.lie.length : Int)) = True := eq_true q1
    generalize addN s (rd_T114 s.lie i) = rr at HA ⊢
    generalize rd_T114 s.lie i = dd at HA e0 e1 e2
    clear h h1 h2 h3 h4 h5 h6 hl q q0 q1
    go_enter Try.func61, Try.ntmps61
    go_wp2_with (first
      | (go_at_call 113; go_loud (refine (HH.out).mono ?_; rintro e w1 ⟨rfl, rfl⟩))
      | (go_at_call 115; go_loud (refine (HA.out).mono ?_; rintro e w2 ⟨rfl, hn, hr⟩; have HN := Aside0.mk hn; have HR := Aside0.mk hr; clear hn hr)))
    go_ret
    exact ⟨rfl, HN.out, HR.out⟩
  · rw [if_neg q]
    rw [Bool.eq_false_iff.mpr q] at HH
    have HN := Aside0.mk h
    clear h q
    go_enter Try.func61, Try.ntmps61
    go_wp2_with (go_at_call 113; go_loud (refine (HH.out).mono ?_; rintro e w1 ⟨rfl, rfl⟩))
    go_ret
    exact ⟨rfl, HN.out.mono (fun k hk => .inl hk), Near.refl F _⟩

end Go.Proofs.Ytppimpadfgldjaa.F
