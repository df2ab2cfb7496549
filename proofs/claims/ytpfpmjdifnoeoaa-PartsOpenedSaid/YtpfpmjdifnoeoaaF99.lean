-- Laid by mk.py (a program of this session) over the seat's translation.
import Derived.Test.YtpfpmjdifnoeoaaF0
import Derived.Test.YtpfpmjdifnoeoaaF131
namespace Go.Proofs.Ytpfpmjdifnoeoaa.F
open Go.RowKit Go.Proofs.YtpfpmjdifnoeoaaW.PrintWords Go.Proofs.YtpfpmjdifnoeoaaW.PrintLast Go.Proofs.YtpfpmjdifnoeoaaW.PrintMore
attribute [local go_sem] max2_int min2_int max_two min_two max_three min_three max_four min_four
set_option linter.unusedVariables false
set_option linter.unusedSimpArgs false

/-! ### term_Take: function 99 -/
/-! #### term_Take_p: function 99 -/
def term_Take_p.f (a0 : ByteArray) : Option (ByteArray × ByteArray × Int) := (term_scan.f a0).bind fun bt101 => (if bt101.2.2 = 0 then (if bt101.1 > 20000 then (some ((⟨#[]⟩ : ByteArray), (⟨#[]⟩ : ByteArray), 3)) else (if 0 ≤ bt101.1 then (if bt101.1 ≤ (a0.size : Int) then (some (a0.extract 0 (bt101.1 : Int).toNat, a0.extract (bt101.1 : Int).toNat a0.size, 0)) else (none)) else (none))) else (some ((⟨#[]⟩ : ByteArray), (⟨#[]⟩ : ByteArray), bt101.2.2)))
set_option maxHeartbeats 8000000 in
set_option maxRecDepth 100000 in
theorem term_Take_p.calls (a0 : ByteArray) (r1 : ByteArray) (r2 : ByteArray) (r3 : Int) (w : World) (h : term_Take_p.f a0 = some (r1, r2, r3)) :
    Calls Try.prog 99 #[.string a0] w fun e w' => e = .returned (.tuple #[.string r1, .string r2, .int .i64 r3]) ∧ Below w.heap.size w w' := by
  have HB := Aside0.mk (Below.refl w.heap.size w)
  have H : ((term_scan.f a0).bind fun bt101 => (if bt101.2.2 = 0 then (if bt101.1 > 20000 then (some ((⟨#[]⟩ : ByteArray), (⟨#[]⟩ : ByteArray), 3)) else (if 0 ≤ bt101.1 then (if bt101.1 ≤ (a0.size : Int) then (some (a0.extract 0 (bt101.1 : Int).toNat, a0.extract (bt101.1 : Int).toNat a0.size, 0)) else (none)) else (none))) else (some ((⟨#[]⟩ : ByteArray), (⟨#[]⟩ : ByteArray), bt101.2.2)))) = some (r1, r2, r3) := h
  clear h
  replace H := Option.bind_eq_some_iff.mp H
  obtain ⟨⟨t101, t102, t103⟩, A20, H⟩ := H
  replace H : (if t103 = 0 then (if t101 > 20000 then (some ((⟨#[]⟩ : ByteArray), (⟨#[]⟩ : ByteArray), 3)) else (if 0 ≤ t101 then (if t101 ≤ (a0.size : Int) then (some (a0.extract 0 (t101 : Int).toNat, a0.extract (t101 : Int).toNat a0.size, 0)) else (none)) else (none))) else (some ((⟨#[]⟩ : ByteArray), (⟨#[]⟩ : ByteArray), t103))) = some (r1, r2, r3) := H
  have A2 := Aside0.mk A20
  clear A20
  by_cases c3 : t103 = 0
  · rw [if_pos c3] at H
    have c3b0 : (t103 == 0) = true := beq_iff_eq.mpr c3
    have c3b1 : (t103 != 0) = false := bne_eq_false_iff_eq.mpr c3
    clear c3
    by_cases c4 : t101 > 20000
    · rw [if_pos c4] at H
      have c4b0 : decide (20000 < t101) = true := decide_eq_true c4
      clear c4
      simp only [Option.some.injEq, Prod.mk.injEq] at H
      obtain ⟨rfl, rfl, rfl⟩ := H
      go_enter Try.func99, Try.ntmps99
      go_wp2_with (first | (go_at_call 131; (with_reducible refine (term_scan.calls a0 t101 t102 t103 _ A2.out).mono ?_); rintro e w5 ⟨rfl, hb⟩; have n0_ := Aside0.mk (below_step (by repeat (first | (with_reducible first | exact HB.out | apply below_alloc | apply pw_below_drewN | apply below_drew1) | exact HB.out)) hb); clear HB; have HB := n0_; clear n0_; (try clear hb); (try clear hb2); (try clear hk); (try clear hi)))
      repeat (go_quiet (first | (go_at_call 131; (with_reducible refine (term_scan.calls a0 t101 t102 t103 _ A2.out).mono ?_); rintro e w5 ⟨rfl, hb⟩; have n0_ := Aside0.mk (below_step (by repeat (first | (with_reducible first | exact HB.out | apply below_alloc | apply pw_below_drewN | apply below_drew1) | exact HB.out)) hb); clear HB; have HB := n0_; clear n0_; (try clear hb); (try clear hb2); (try clear hk); (try clear hi))); try go_wp2_with (first | (go_at_call 131; (with_reducible refine (term_scan.calls a0 t101 t102 t103 _ A2.out).mono ?_); rintro e w5 ⟨rfl, hb⟩; have n0_ := Aside0.mk (below_step (by repeat (first | (with_reducible first | exact HB.out | apply below_alloc | apply pw_below_drewN | apply below_drew1) | exact HB.out)) hb); clear HB; have HB := n0_; clear n0_; (try clear hb); (try clear hb2); (try clear hk); (try clear hi))))
      go_ret3
      exact ⟨by first | rfl | (simp [errW_none, errW_some] <;> rfl) | (simp [*, errW_none, errW_some] <;> rfl), by repeat (first | (with_reducible first | exact HB.out | apply below_alloc | apply pw_below_drewN | apply below_drew1) | exact HB.out)⟩
    · rw [if_neg c4] at H
      have c4b0 : decide (20000 < t101) = false := decide_eq_false c4
      clear c4
      by_cases c6 : 0 ≤ t101
      · rw [if_pos c6] at H
        have c6b0 := eq_true c6
        have c6b1 : decide (0 ≤ t101) = true := decide_eq_true c6
        clear c6
        by_cases c7 : t101 ≤ (a0.size : Int)
        · rw [if_pos c7] at H
          have c7b0 := eq_true c7
          have c7b1 : decide (t101 ≤ (a0.size : Int)) = true := decide_eq_true c7
          clear c7
          have c8b0 := eq_true (of_decide_eq_true (by first | (with_reducible assumption) | assumption) : 0 ≤ t101)
          have c9b0 := eq_true (of_decide_eq_true (by first | (with_reducible assumption) | assumption) : t101 ≤ (a0.size : Int))
          simp only [Option.some.injEq, Prod.mk.injEq] at H
          obtain ⟨rfl, rfl, rfl⟩ := H
          go_enter Try.func99, Try.ntmps99
          go_wp2_with (first | (go_at_call 131; (with_reducible refine (term_scan.calls a0 t101 t102 t103 _ A2.out).mono ?_); rintro e w10 ⟨rfl, hb⟩; have n0_ := Aside0.mk (below_step (by repeat (first | (with_reducible first | exact HB.out | apply below_alloc | apply pw_below_drewN | apply below_drew1) | exact HB.out)) hb); clear HB; have HB := n0_; clear n0_; (try clear hb); (try clear hb2); (try clear hk); (try clear hi)))
          repeat (go_quiet (first | (go_at_call 131; (with_reducible refine (term_scan.calls a0 t101 t102 t103 _ A2.out).mono ?_); rintro e w10 ⟨rfl, hb⟩; have n0_ := Aside0.mk (below_step (by repeat (first | (with_reducible first | exact HB.out | apply below_alloc | apply pw_below_drewN | apply below_drew1) | exact HB.out)) hb); clear HB; have HB := n0_; clear n0_; (try clear hb); (try clear hb2); (try clear hk); (try clear hi))); try go_wp2_with (first | (go_at_call 131; (with_reducible refine (term_scan.calls a0 t101 t102 t103 _ A2.out).mono ?_); rintro e w10 ⟨rfl, hb⟩; have n0_ := Aside0.mk (below_step (by repeat (first | (with_reducible first | exact HB.out | apply below_alloc | apply pw_below_drewN | apply below_drew1) | exact HB.out)) hb); clear HB; have HB := n0_; clear n0_; (try clear hb); (try clear hb2); (try clear hk); (try clear hi))))
          go_ret3
          exact ⟨by first | rfl | (simp [errW_none, errW_some] <;> rfl) | (simp [*, errW_none, errW_some] <;> rfl), by repeat (first | (with_reducible first | exact HB.out | apply below_alloc | apply pw_below_drewN | apply below_drew1) | exact HB.out)⟩
        · rw [if_neg c7] at H
          exact absurd H (by simp)
      · rw [if_neg c6] at H
        exact absurd H (by simp)
  · rw [if_neg c3] at H
    have c3b0 : (t103 == 0) = false := beq_eq_false_iff_ne.mpr c3
    have c3b1 : (t103 != 0) = true := bne_iff_ne.mpr c3
    simp only [Option.some.injEq, Prod.mk.injEq] at H
    obtain ⟨rfl, rfl, rfl⟩ := H
    go_enter Try.func99, Try.ntmps99
    go_wp2_with (first | (go_at_call 131; (with_reducible refine (term_scan.calls a0 t101 t102 t103 _ A2.out).mono ?_); rintro e w11 ⟨rfl, hb⟩; have n0_ := Aside0.mk (below_step (by repeat (first | (with_reducible first | exact HB.out | apply below_alloc | apply pw_below_drewN | apply below_drew1) | exact HB.out)) hb); clear HB; have HB := n0_; clear n0_; (try clear hb); (try clear hb2); (try clear hk); (try clear hi)))
    repeat (go_quiet (first | (go_at_call 131; (with_reducible refine (term_scan.calls a0 t101 t102 t103 _ A2.out).mono ?_); rintro e w11 ⟨rfl, hb⟩; have n0_ := Aside0.mk (below_step (by repeat (first | (with_reducible first | exact HB.out | apply below_alloc | apply pw_below_drewN | apply below_drew1) | exact HB.out)) hb); clear HB; have HB := n0_; clear n0_; (try clear hb); (try clear hb2); (try clear hk); (try clear hi))); try go_wp2_with (first | (go_at_call 131; (with_reducible refine (term_scan.calls a0 t101 t102 t103 _ A2.out).mono ?_); rintro e w11 ⟨rfl, hb⟩; have n0_ := Aside0.mk (below_step (by repeat (first | (with_reducible first | exact HB.out | apply below_alloc | apply pw_below_drewN | apply below_drew1) | exact HB.out)) hb); clear HB; have HB := n0_; clear n0_; (try clear hb); (try clear hb2); (try clear hk); (try clear hi))))
    go_ret3
    exact ⟨by first | rfl | (simp [errW_none, errW_some] <;> rfl) | (simp [*, errW_none, errW_some] <;> rfl), by repeat (first | (with_reducible first | exact HB.out | apply below_alloc | apply pw_below_drewN | apply below_drew1) | exact HB.out)⟩

theorem scanF_end {s : ByteArray} (h : (scanF s).2.2 = 0) : 0 < (scanF s).1 ∧ (scanF s).1 ≤ s.size ∧ 1 ≤ (scanF s).2.1 ∧ (scanF s).2.1 ≤ 400 := by
  unfold scanF at h ⊢
  by_cases c : (endF s 400 0).2.2 = 0
  · rw [if_pos c]
    have := endF_ok 400 0 (Int.le_refl _) c
    omega
  · rw [if_neg c] at h
    exact absurd h c
def takeF (s : ByteArray) : ByteArray × ByteArray × Int :=
  if (scanF s).2.2 ≠ 0 then (⟨#[]⟩, ⟨#[]⟩, (scanF s).2.2) else if (scanF s).1 > 20000 then (⟨#[]⟩, ⟨#[]⟩, 3) else (s.extract 0 (scanF s).1.toNat, s.extract (scanF s).1.toNat s.size, 0)
def term_Take.f (s : ByteArray) : Option (ByteArray × ByteArray × Int) := if s.size < 9223372036854775000 then some (takeF s) else none
theorem term_Take.eq (s : ByteArray) (hs : s.size < 9223372036854775000) : term_Take_p.f s = term_Take.f s := by
  unfold term_Take_p.f term_scan.f term_Take.f takeF
  rw [if_pos hs, if_pos hs]
  simp only [Option.bind_some]
  by_cases c : (scanF s).2.2 = 0
  · have := scanF_end c
    rw [if_pos c, if_neg (show ¬ ((scanF s).2.2 ≠ 0) from fun h => h c)]
    split
    · rfl
    · rw [if_pos (by omega), if_pos (by omega)]
  · rw [if_neg c, if_pos c]
theorem term_Take.calls (a0 : ByteArray) (r1 : ByteArray) (r2 : ByteArray) (r3 : Int) (w : World) (h : term_Take.f a0 = some (r1, r2, r3)) :
    Calls Try.prog 99 #[.string a0] w fun e w' => e = .returned (.tuple #[.string r1, .string r2, .int .i64 r3]) ∧ Below w.heap.size w w' := by
  have hs : a0.size < 9223372036854775000 := by
    unfold term_Take.f at h
    split at h
    · assumption
    · cases h
  exact term_Take_p.calls a0 r1 r2 r3 w ((term_Take.eq a0 hs).trans h)

end Go.Proofs.Ytpfpmjdifnoeoaa.F
