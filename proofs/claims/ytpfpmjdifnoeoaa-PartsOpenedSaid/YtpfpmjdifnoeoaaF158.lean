-- Laid by mk.py (a program of this session) over the seat's translation.
import Derived.Test.YtpfpmjdifnoeoaaF0
import Derived.Test.YtpfpmjdifnoeoaaF162
import Derived.Test.YtpfpmjdifnoeoaaF162
namespace Go.Proofs.Ytpfpmjdifnoeoaa.F
open Go.RowKit Go.Proofs.YtpfpmjdifnoeoaaW.PrintWords Go.Proofs.YtpfpmjdifnoeoaaW.PrintLast Go.Proofs.YtpfpmjdifnoeoaaW.PrintMore
attribute [local go_sem] max2_int min2_int max_two min_two max_three min_three max_four min_four
set_option linter.unusedVariables false
set_option linter.unusedSimpArgs false

/-! ### gemotref1_leaf: function 158 -/
/-! #### gemotref1_leaf_p: function 158 -/
mutual
def gemotref1_leaf_p.j0 : Nat → ByteArray → Int → Int → Bool → Option (Int)
  | 0, _, _, _, _ => none
  | k + 1, x0, x3, x5, x6 => if x6 = true then (if 9 > (x0.size : Int) then (some (-1)) else (some 9)) else (if x5 = 103 then (if 1 > (x0.size : Int) then (some (-1)) else (some 1)) else (if x5 = 105 then (if (x0.size : Int) > 1 then (if 1 < (x0.size : Int) then (if (bt x0 1) < 1 then (gemotref1_leaf_p.j1 k x0 2 true) else (gemotref1_leaf_p.j1 k x0 2 (decide ((bt x0 1) > 8)))) else (none)) else (gemotref1_leaf_p.j1 k x0 2 false)) else (if x5 = 116 then (if (x0.size : Int) ≥ 3 then (if 1 < (x0.size : Int) then (if 2 < (x0.size : Int) then (gemotref1_leaf_p.j2 k x0 (wrap64 ((wrap64 (3 + (wrap64 (256 * (wrap64 (bt x0 1)))))) + (wrap64 (bt x0 2))))) else (none)) else (none)) else (gemotref1_leaf_p.j2 k x0 x3)) else (if x3 > (x0.size : Int) then (some (-1)) else (some x3)))))
def gemotref1_leaf_p.j1 : Nat → ByteArray → Int → Bool → Option (Int)
  | 0, _, _, _ => none
  | k + 1, x0, x3, x25 => if x25 = true then (if (-1) > (x0.size : Int) then (some (-1)) else (some (-1))) else (if x3 > (x0.size : Int) then (some (-1)) else (some x3))
def gemotref1_leaf_p.j2 : Nat → ByteArray → Int → Option (Int)
  | 0, _, _ => none
  | k + 1, x0, x3 => if x3 > 103 then (if (-1) > (x0.size : Int) then (some (-1)) else (some (-1))) else (if x3 > (x0.size : Int) then (some (-1)) else (some x3))
end
def gemotref1_leaf_p.f (k : Nat) (a0 : ByteArray) : Option (Int) := if 0 < (a0.size : Int) then (if (bt a0 0) = 110 then (gemotref1_leaf_p.j0 k a0 (-1) (bt a0 0) ((bt a0 0) == 110)) else (gemotref1_leaf_p.j0 k a0 (-1) (bt a0 0) ((bt a0 0) == 117))) else (none)
theorem gemotref1_leaf_p.mono_l : ∀ k, (∀ y0 y1 y2 y3, LeO (gemotref1_leaf_p.j0 k y0 y1 y2 y3) (gemotref1_leaf_p.j0 (k + 1) y0 y1 y2 y3)) ∧ (∀ y0 y1 y2, LeO (gemotref1_leaf_p.j1 k y0 y1 y2) (gemotref1_leaf_p.j1 (k + 1) y0 y1 y2)) ∧ (∀ y0 y1, LeO (gemotref1_leaf_p.j2 k y0 y1) (gemotref1_leaf_p.j2 (k + 1) y0 y1))
  | 0 => ⟨fun _ _ _ _ r h => by simp [gemotref1_leaf_p.j0] at h, fun _ _ _ r h => by simp [gemotref1_leaf_p.j1] at h, fun _ _ r h => by simp [gemotref1_leaf_p.j2] at h⟩
  | k + 1 => by
    obtain ⟨ih0, ih1, ih2⟩ := gemotref1_leaf_p.mono_l k
    refine ⟨?_, ?_, ?_⟩
    · intro y0 y1 y2 y3
      unfold gemotref1_leaf_p.j0
      repeat' first
      | (with_reducible exact ih0 _ _ _ _)
      | (with_reducible exact ih1 _ _ _)
      | (with_reducible exact ih2 _ _)
      | (with_reducible exact LeO.refl _)
      | (with_reducible exact LeO.none _)
      | (with_reducible refine LeO.ite ?_ ?_)
      | (with_reducible refine LeO.bind ?_ (fun _ => ?_))
      | exact ih0 _ _ _ _
      | exact ih1 _ _ _
      | exact ih2 _ _
      | exact LeO.none _
      | refine LeO.ite ?_ ?_
      | refine LeO.bind ?_ (fun _ => ?_)
    · intro y0 y1 y2
      unfold gemotref1_leaf_p.j1
      repeat' first
      | (with_reducible exact ih0 _ _ _ _)
      | (with_reducible exact ih1 _ _ _)
      | (with_reducible exact ih2 _ _)
      | (with_reducible exact LeO.refl _)
      | (with_reducible exact LeO.none _)
      | (with_reducible refine LeO.ite ?_ ?_)
      | (with_reducible refine LeO.bind ?_ (fun _ => ?_))
      | exact ih0 _ _ _ _
      | exact ih1 _ _ _
      | exact ih2 _ _
      | exact LeO.none _
      | refine LeO.ite ?_ ?_
      | refine LeO.bind ?_ (fun _ => ?_)
    · intro y0 y1
      unfold gemotref1_leaf_p.j2
      repeat' first
      | (with_reducible exact ih0 _ _ _ _)
      | (with_reducible exact ih1 _ _ _)
      | (with_reducible exact ih2 _ _)
      | (with_reducible exact LeO.refl _)
      | (with_reducible exact LeO.none _)
      | (with_reducible refine LeO.ite ?_ ?_)
      | (with_reducible refine LeO.bind ?_ (fun _ => ?_))
      | exact ih0 _ _ _ _
      | exact ih1 _ _ _
      | exact ih2 _ _
      | exact LeO.none _
      | refine LeO.ite ?_ ?_
      | refine LeO.bind ?_ (fun _ => ?_)
theorem gemotref1_leaf_p.mono : ∀ a0 k, LeO (gemotref1_leaf_p.f k a0) (gemotref1_leaf_p.f (k + 1) a0) := by
  intro a0 k
  obtain ⟨ih0, ih1, ih2⟩ := gemotref1_leaf_p.mono_l k
  unfold gemotref1_leaf_p.f
  repeat' first
      | (with_reducible exact ih0 _ _ _ _)
      | (with_reducible exact ih1 _ _ _)
      | (with_reducible exact ih2 _ _)
      | (with_reducible exact LeO.refl _)
      | (with_reducible exact LeO.none _)
      | (with_reducible refine LeO.ite ?_ ?_)
      | (with_reducible refine LeO.bind ?_ (fun _ => ?_))
      | exact ih0 _ _ _ _
      | exact ih1 _ _ _
      | exact ih2 _ _
      | exact LeO.none _
      | refine LeO.ite ?_ ?_
      | refine LeO.bind ?_ (fun _ => ?_)
set_option maxHeartbeats 8000000 in
set_option maxRecDepth 100000 in
theorem gemotref1_leaf_p.calls (k : Nat) (a0 : ByteArray) (r : Int) (w : World) (h : gemotref1_leaf_p.f k a0 = some r) :
    Calls Try.prog 158 #[.string a0] w fun e w' => e = .returned (.int .i64 r) ∧ Drawn0 w w' := by
  have H : (if 0 < (a0.size : Int) then (if (bt a0 0) = 110 then (gemotref1_leaf_p.j0 k a0 (-1) (bt a0 0) ((bt a0 0) == 110)) else (gemotref1_leaf_p.j0 k a0 (-1) (bt a0 0) ((bt a0 0) == 117))) else (none)) = some r := h
  clear h
  by_cases c2 : 0 < (a0.size : Int)
  · rw [if_pos c2] at H
    have c2b0 : decide (0 < (a0.size : Int)) = true := decide_eq_true c2
    have c2b1 : decide (0 < a0.size) = true := decide_eq_true (by omega)
    clear c2
    have HC4 := Aside0.mk H
    clear H
    have p3 : 0 ≤ (0 : Int) := (by omega)
    have q3 : 0 < a0.size := (by have : (0 : Int) < (a0.size : Int) := of_decide_eq_true (by first | (with_reducible assumption) | assumption); omega)
    have hx3 : ∀ h : 0 < a0.size, ((a0[0]'h).toNat : Int) = bt a0 0 := bt_at a0 0
    clear p3
    have qi3 : (0 < (a0.size : Int)) = True := eq_true (of_decide_eq_true (by first | (with_reducible assumption) | assumption))
    replace q3 := eq_true q3
    go_enter Try.func158, Try.ntmps158
    go_upto_if 6 with (fail)
    repeat (go_quiet (fail); go_upto_if 6 with (fail))
    go_cut [6] (fun v6 wc => ∃ (kq : Nat) (x6_3 : Bool), v6 = .bool x6_3 ∧ Aside0 (gemotref1_leaf_p.j0 kq a0 (-1) (bt a0 0) x6_3 = some r) ∧ Aside0 (kq ≤ k) ∧ Drawn0 w wc)
    case first =>
      have H := HC4.out
      clear HC4
      by_cases c5 : (bt a0 0) = 110
      · rw [if_pos c5] at H
        have c5b0 : ((bt a0 0) == 110) = true := beq_iff_eq.mpr c5
        have c5b1 : ((bt a0 0) != 110) = false := bne_eq_false_iff_eq.mpr c5
        clear c5
        (first | rw [c5b0] | (simp only [i64_w, i32_w]; rw [c5b0]) | skip)
        have H' := Aside0.mk H
        clear H
        go_wp2
        repeat (go_quiet (fail); try go_wp2)
        go_meet
        case rel => exact ⟨_, (((bt a0 0) == 110)), (by first | rfl | (simp; done) | (simp [*]; done)), H', ⟨by first | omega | exact Nat.le_refl _⟩, by repeat (first | exact Drawn0.refl _ | apply Drawn0.step)⟩
      · rw [if_neg c5] at H
        have c5b0 : ((bt a0 0) == 110) = false := beq_eq_false_iff_ne.mpr c5
        have c5b1 : ((bt a0 0) != 110) = true := bne_iff_ne.mpr c5
        (first | rw [c5b0] | (simp only [i64_w, i32_w]; rw [c5b0]) | skip)
        have H' := Aside0.mk H
        clear H
        go_wp2
        repeat (go_quiet (fail); try go_wp2)
        go_meet
        case rel => exact ⟨_, (((bt a0 0) == 117)), (by first | rfl | (simp; done) | (simp [*]; done)), H', ⟨by first | omega | exact Nat.le_refl _⟩, by repeat (first | exact Drawn0.refl _ | apply Drawn0.step)⟩
    case rest =>
      clear HC4
      try clear c1
      try clear c2
      try clear c2b0
      try clear c2b1
      try clear p2
      try clear p3
      try clear q3
      try clear hx3
      try clear qi3
      try clear c5
      try clear c5b0
      try clear c5b1
      try clear p3
      try clear q3
      obtain ⟨kq, x6_3, rfl, HA, HJ3, ⟨mc3, rfl⟩⟩ := hcut
      cases kq with
      | zero => exact absurd HA.out (by simp [gemotref1_leaf_p.j0])
      | succ kj3 =>
        have H := HA.out
        clear HA
        simp only [gemotref1_leaf_p.j0] at H
        by_cases c6 : x6_3 = true
        · subst c6
          have H1 : (if 9 > (a0.size : Int) then (some (-1)) else (some 9)) = some r := by rw [if_pos rfl] at H; exact H
          clear H
          have H := H1
          clear H1
          by_cases c7 : 9 > (a0.size : Int)
          · rw [if_pos c7] at H
            have c7b0 : decide ((a0.size : Int) < 9) = true := decide_eq_true c7
            have c7b1 : decide (a0.size < 9) = true := decide_eq_true (by omega)
            clear c7
            obtain rfl := Option.some.inj H
            go_wp2
            repeat (go_quiet (fail); try go_wp2)
            go_ret
            exact ⟨by first | rfl | (simp; done) | (simp [*]; done), by repeat (first | exact Drawn0.refl _ | apply Drawn0.step)⟩
          · rw [if_neg c7] at H
            have c7b0 : decide ((a0.size : Int) < 9) = false := decide_eq_false c7
            have c7b1 : decide (a0.size < 9) = false := decide_eq_false (by omega)
            clear c7
            obtain rfl := Option.some.inj H
            go_wp2
            repeat (go_quiet (fail); try go_wp2)
            go_ret
            exact ⟨by first | rfl | (simp; done) | (simp [*]; done), by repeat (first | exact Drawn0.refl _ | apply Drawn0.step)⟩
        · replace c6 := Bool.eq_false_iff.mpr c6
          subst c6
          have H1 : (if (bt a0 0) = 103 then (if 1 > (a0.size : Int) then (some (-1)) else (some 1)) else (if (bt a0 0) = 105 then (if (a0.size : Int) > 1 then (if 1 < (a0.size : Int) then (if (bt a0 1) < 1 then (gemotref1_leaf_p.j1 kj3 a0 2 true) else (gemotref1_leaf_p.j1 kj3 a0 2 (decide ((bt a0 1) > 8)))) else (none)) else (gemotref1_leaf_p.j1 kj3 a0 2 false)) else (if (bt a0 0) = 116 then (if (a0.size : Int) ≥ 3 then (if 1 < (a0.size : Int) then (if 2 < (a0.size : Int) then (gemotref1_leaf_p.j2 kj3 a0 (wrap64 ((wrap64 (3 + (wrap64 (256 * (wrap64 (bt a0 1)))))) + (wrap64 (bt a0 2))))) else (none)) else (none)) else (gemotref1_leaf_p.j2 kj3 a0 (-1))) else (if (-1) > (a0.size : Int) then (some (-1)) else (some (-1)))))) = some r := by rw [if_neg (show ¬ (false = true) by decide)] at H; exact H
          clear H
          have H := H1
          clear H1
          by_cases c8 : (bt a0 0) = 103
          · rw [if_pos c8] at H
            have c8b0 : ((bt a0 0) == 103) = true := beq_iff_eq.mpr c8
            have c8b1 : ((bt a0 0) != 103) = false := bne_eq_false_iff_eq.mpr c8
            clear c8
            by_cases c9 : 1 > (a0.size : Int)
            · rw [if_pos c9] at H
              have c9b0 : decide ((a0.size : Int) < 1) = true := decide_eq_true c9
              have c9b1 : decide (a0.size < 1) = true := decide_eq_true (by omega)
              clear c9
              obtain rfl := Option.some.inj H
              go_wp2
              repeat (go_quiet (fail); try go_wp2)
              go_ret
              exact ⟨by first | rfl | (simp; done) | (simp [*]; done), by repeat (first | exact Drawn0.refl _ | apply Drawn0.step)⟩
            · rw [if_neg c9] at H
              have c9b0 : decide ((a0.size : Int) < 1) = false := decide_eq_false c9
              have c9b1 : decide (a0.size < 1) = false := decide_eq_false (by omega)
              clear c9
              obtain rfl := Option.some.inj H
              go_wp2
              repeat (go_quiet (fail); try go_wp2)
              go_ret
              exact ⟨by first | rfl | (simp; done) | (simp [*]; done), by repeat (first | exact Drawn0.refl _ | apply Drawn0.step)⟩
          · rw [if_neg c8] at H
            have c8b0 : ((bt a0 0) == 103) = false := beq_eq_false_iff_ne.mpr c8
            have c8b1 : ((bt a0 0) != 103) = true := bne_iff_ne.mpr c8
            by_cases c10 : (bt a0 0) = 105
            · rw [if_pos c10] at H
              have c10b0 : ((bt a0 0) == 105) = true := beq_iff_eq.mpr c10
              have c10b1 : ((bt a0 0) != 105) = false := bne_eq_false_iff_eq.mpr c10
              clear c10
              have HC11 := Aside0.mk H
              clear H
              go_upto_region 10 with (fail)
              repeat (go_quiet (fail); go_upto_region 10 with (fail))
              go_cut [25] (fun v25 wc => ∃ (kq : Nat) (x25_10 : Bool), v25 = .bool x25_10 ∧ Aside0 (gemotref1_leaf_p.j1 kq a0 2 x25_10 = some r) ∧ Aside0 (kq ≤ kj3) ∧ Drawn0 w wc)
              case first =>
                have H := HC11.out
                clear HC11
                by_cases c12 : (a0.size : Int) > 1
                · rw [if_pos c12] at H
                  have c12b0 : decide (1 < (a0.size : Int)) = true := decide_eq_true c12
                  have c12b1 : decide (1 < a0.size) = true := decide_eq_true (by omega)
                  clear c12
                  (first | rw [c12b0] | (simp only [i64_w, i32_w]; rw [c12b0]) | skip)
                  by_cases c13 : 1 < (a0.size : Int)
                  · rw [if_pos c13] at H
                    have c13b0 : decide (1 < (a0.size : Int)) = true := decide_eq_true c13
                    have c13b1 : decide (1 < a0.size) = true := decide_eq_true (by omega)
                    clear c13
                    by_cases c15 : (bt a0 1) < 1
                    · rw [if_pos c15] at H
                      have c15b0 : decide ((bt a0 1) < 1) = true := decide_eq_true c15
                      clear c15
                      have H' := Aside0.mk H
                      clear H
                      have p14 : 0 ≤ (1 : Int) := (by omega)
                      have q14 : 1 < a0.size := (by have : (1 : Int) < (a0.size : Int) := of_decide_eq_true (by first | (with_reducible assumption) | assumption); omega)
                      have hx14 : ∀ h : 1 < a0.size, ((a0[1]'h).toNat : Int) = bt a0 1 := bt_at a0 1
                      clear p14
                      have qi14 : (1 < (a0.size : Int)) = True := eq_true (of_decide_eq_true (by first | (with_reducible assumption) | assumption))
                      replace q14 := eq_true q14
                      go_wp2
                      repeat (go_quiet (fail); try go_wp2)
                      go_meet
                      case rel => exact ⟨_, (true), (by first | rfl | (simp; done) | (simp [*]; done)), H', ⟨by have := HJ3.out; first | omega | exact Nat.le_refl _⟩, by repeat (first | exact Drawn0.refl _ | apply Drawn0.step)⟩
                    · rw [if_neg c15] at H
                      have c15b0 : decide ((bt a0 1) < 1) = false := decide_eq_false c15
                      clear c15
                      have H' := Aside0.mk H
                      clear H
                      have p14 : 0 ≤ (1 : Int) := (by omega)
                      have q14 : 1 < a0.size := (by have : (1 : Int) < (a0.size : Int) := of_decide_eq_true (by first | (with_reducible assumption) | assumption); omega)
                      have hx14 : ∀ h : 1 < a0.size, ((a0[1]'h).toNat : Int) = bt a0 1 := bt_at a0 1
                      clear p14
                      have qi14 : (1 < (a0.size : Int)) = True := eq_true (of_decide_eq_true (by first | (with_reducible assumption) | assumption))
                      replace q14 := eq_true q14
                      have p16 : 0 ≤ (1 : Int) := (by omega)
                      have q16 : 1 < a0.size := (by have : (1 : Int) < (a0.size : Int) := of_decide_eq_true (by first | (with_reducible assumption) | assumption); omega)
                      have hx16 : ∀ h : 1 < a0.size, ((a0[1]'h).toNat : Int) = bt a0 1 := bt_at a0 1
                      clear p16
                      have qi16 : (1 < (a0.size : Int)) = True := eq_true (of_decide_eq_true (by first | (with_reducible assumption) | assumption))
                      replace q16 := eq_true q16
                      go_wp2
                      repeat (go_quiet (fail); try go_wp2)
                      go_meet
                      case rel => exact ⟨_, (decide ((bt a0 1) > 8)), (by first | rfl | (simp; done) | (simp [*]; done)), H', ⟨by have := HJ3.out; first | omega | exact Nat.le_refl _⟩, by repeat (first | exact Drawn0.refl _ | apply Drawn0.step)⟩
                  · rw [if_neg c13] at H
                    exact absurd H (by simp)
                · rw [if_neg c12] at H
                  have c12b0 : decide (1 < (a0.size : Int)) = false := decide_eq_false c12
                  have c12b1 : decide (1 < a0.size) = false := decide_eq_false (by omega)
                  clear c12
                  (first | rw [c12b0] | (simp only [i64_w, i32_w]; rw [c12b0]) | skip)
                  have H' := Aside0.mk H
                  clear H
                  go_wp2
                  repeat (go_quiet (fail); try go_wp2)
                  go_meet
                  case rel => exact ⟨_, (false), (by first | rfl | (simp; done) | (simp [*]; done)), H', ⟨by have := HJ3.out; first | omega | exact Nat.le_refl _⟩, by repeat (first | exact Drawn0.refl _ | apply Drawn0.step)⟩
              case rest =>
                clear HC11
                try clear c1
                try clear p1
                try clear q1
                try clear hx1
                try clear qi1
                try clear c2
                try clear c2b0
                try clear c2b1
                try clear p2
                try clear c3
                try clear p3
                try clear q3
                try clear hx3
                try clear qi3
                try clear c5
                try clear c5b0
                try clear c5b1
                try clear c6
                try clear p6
                try clear c7
                try clear c7b0
                try clear c7b1
                try clear c8
                try clear c8b0
                try clear c8b1
                try clear c9
                try clear c9b0
                try clear c9b1
                try clear c10
                try clear c10b0
                try clear c10b1
                try clear c12
                try clear c12b0
                try clear c12b1
                try clear c13
                try clear c13b0
                try clear c13b1
                try clear p14
                try clear q14
                try clear hx14
                try clear qi14
                try clear c15
                try clear c15b0
                try clear p16
                try clear q16
                try clear hx16
                try clear qi16
                try clear p14
                try clear p16
                try clear p2
                try clear p3
                try clear q14
                try clear q16
                try clear q3
                obtain ⟨kq, x25_10, rfl, HA, HJ10, ⟨mc10, rfl⟩⟩ := hcut
                cases kq with
                | zero => exact absurd HA.out (by simp [gemotref1_leaf_p.j1])
                | succ kj10 =>
                  have H := HA.out
                  clear HA
                  simp only [gemotref1_leaf_p.j1] at H
                  by_cases c17 : x25_10 = true
                  · subst c17
                    have H1 : (if (-1) > (a0.size : Int) then (some (-1)) else (some (-1))) = some r := by rw [if_pos rfl] at H; exact H
                    clear H
                    have H := H1
                    clear H1
                    by_cases c18 : (-1) > (a0.size : Int)
                    · rw [if_pos c18] at H
                      have c18b0 : decide ((a0.size : Int) < (-1)) = true := decide_eq_true c18
                      clear c18
                      obtain rfl := Option.some.inj H
                      go_wp2
                      repeat (go_quiet (fail); try go_wp2)
                      go_ret
                      exact ⟨by first | rfl | (simp; done) | (simp [*]; done), by repeat (first | exact Drawn0.refl _ | apply Drawn0.step)⟩
                    · rw [if_neg c18] at H
                      have c18b0 : decide ((a0.size : Int) < (-1)) = false := decide_eq_false c18
                      clear c18
                      obtain rfl := Option.some.inj H
                      go_wp2
                      repeat (go_quiet (fail); try go_wp2)
                      go_ret
                      exact ⟨by first | rfl | (simp; done) | (simp [*]; done), by repeat (first | exact Drawn0.refl _ | apply Drawn0.step)⟩
                  · replace c17 := Bool.eq_false_iff.mpr c17
                    subst c17
                    have H1 : (if 2 > (a0.size : Int) then (some (-1)) else (some 2)) = some r := by rw [if_neg (show ¬ (false = true) by decide)] at H; exact H
                    clear H
                    have H := H1
                    clear H1
                    by_cases c19 : 2 > (a0.size : Int)
                    · rw [if_pos c19] at H
                      have c19b0 : decide ((a0.size : Int) < 2) = true := decide_eq_true c19
                      have c19b1 : decide (a0.size < 2) = true := decide_eq_true (by omega)
                      clear c19
                      obtain rfl := Option.some.inj H
                      go_wp2
                      repeat (go_quiet (fail); try go_wp2)
                      go_ret
                      exact ⟨by first | rfl | (simp; done) | (simp [*]; done), by repeat (first | exact Drawn0.refl _ | apply Drawn0.step)⟩
                    · rw [if_neg c19] at H
                      have c19b0 : decide ((a0.size : Int) < 2) = false := decide_eq_false c19
                      have c19b1 : decide (a0.size < 2) = false := decide_eq_false (by omega)
                      clear c19
                      obtain rfl := Option.some.inj H
                      go_wp2
                      repeat (go_quiet (fail); try go_wp2)
                      go_ret
                      exact ⟨by first | rfl | (simp; done) | (simp [*]; done), by repeat (first | exact Drawn0.refl _ | apply Drawn0.step)⟩
            · rw [if_neg c10] at H
              have c10b0 : ((bt a0 0) == 105) = false := beq_eq_false_iff_ne.mpr c10
              have c10b1 : ((bt a0 0) != 105) = true := bne_iff_ne.mpr c10
              by_cases c20 : (bt a0 0) = 116
              · rw [if_pos c20] at H
                have c20b0 : ((bt a0 0) == 116) = true := beq_iff_eq.mpr c20
                have c20b1 : ((bt a0 0) != 116) = false := bne_eq_false_iff_eq.mpr c20
                clear c20
                have HC21 := Aside0.mk H
                clear H
                go_upto_if 30 with (fail)
                repeat (go_quiet (fail); go_upto_if 30 with (fail))
                go_cut [3] (fun v3 wc => ∃ (kq : Nat) (x3_20 : Int), v3 = .int .i64 x3_20 ∧ Aside0 (gemotref1_leaf_p.j2 kq a0 x3_20 = some r) ∧ Aside0 (kq ≤ kj3) ∧ Drawn0 w wc)
                case first =>
                  have H := HC21.out
                  clear HC21
                  by_cases c22 : (a0.size : Int) ≥ 3
                  · rw [if_pos c22] at H
                    have c22b0 : decide (3 ≤ (a0.size : Int)) = true := decide_eq_true c22
                    have c22b1 : decide (3 ≤ a0.size) = true := decide_eq_true (by omega)
                    clear c22
                    (first | rw [c22b0] | (simp only [i64_w, i32_w]; rw [c22b0]) | skip)
                    by_cases c23 : 1 < (a0.size : Int)
                    · rw [if_pos c23] at H
                      have c23b0 : decide (1 < (a0.size : Int)) = true := decide_eq_true c23
                      have c23b1 : decide (1 < a0.size) = true := decide_eq_true (by omega)
                      clear c23
                      by_cases c25 : 2 < (a0.size : Int)
                      · rw [if_pos c25] at H
                        have c25b0 : decide (2 < (a0.size : Int)) = true := decide_eq_true c25
                        have c25b1 : decide (2 < a0.size) = true := decide_eq_true (by omega)
                        clear c25
                        have H' := Aside0.mk H
                        clear H
                        have p24 : 0 ≤ (1 : Int) := (by omega)
                        have q24 : 1 < a0.size := (by have : (1 : Int) < (a0.size : Int) := of_decide_eq_true (by first | (with_reducible assumption) | assumption); omega)
                        have hx24 : ∀ h : 1 < a0.size, ((a0[1]'h).toNat : Int) = bt a0 1 := bt_at a0 1
                        clear p24
                        have qi24 : (1 < (a0.size : Int)) = True := eq_true (of_decide_eq_true (by first | (with_reducible assumption) | assumption))
                        replace q24 := eq_true q24
                        have p26 : 0 ≤ (2 : Int) := (by omega)
                        have q26 : 2 < a0.size := (by have : (2 : Int) < (a0.size : Int) := of_decide_eq_true (by first | (with_reducible assumption) | assumption); omega)
                        have hx26 : ∀ h : 2 < a0.size, ((a0[2]'h).toNat : Int) = bt a0 2 := bt_at a0 2
                        clear p26
                        have qi26 : (2 < (a0.size : Int)) = True := eq_true (of_decide_eq_true (by first | (with_reducible assumption) | assumption))
                        replace q26 := eq_true q26
                        go_wp2
                        repeat (go_quiet (fail); try go_wp2)
                        go_meet
                        case rel => exact ⟨_, (wrap64 ((wrap64 (3 + (wrap64 (256 * (wrap64 (bt a0 1)))))) + (wrap64 (bt a0 2)))), (by first | rfl | (simp; done) | (simp [*]; done)), H', ⟨by have := HJ3.out; first | omega | exact Nat.le_refl _⟩, by repeat (first | exact Drawn0.refl _ | apply Drawn0.step)⟩
                      · rw [if_neg c25] at H
                        exact absurd H (by simp)
                    · rw [if_neg c23] at H
                      exact absurd H (by simp)
                  · rw [if_neg c22] at H
                    have c22b0 : decide (3 ≤ (a0.size : Int)) = false := decide_eq_false c22
                    have c22b1 : decide (3 ≤ a0.size) = false := decide_eq_false (by omega)
                    clear c22
                    (first | rw [c22b0] | (simp only [i64_w, i32_w]; rw [c22b0]) | skip)
                    have H' := Aside0.mk H
                    clear H
                    go_wp2
                    repeat (go_quiet (fail); try go_wp2)
                    go_meet
                    case rel => exact ⟨_, ((-1)), (by first | rfl | (simp; done) | (simp [*]; done)), H', ⟨by have := HJ3.out; first | omega | exact Nat.le_refl _⟩, by repeat (first | exact Drawn0.refl _ | apply Drawn0.step)⟩
                case rest =>
                  clear HC21
                  try clear c1
                  try clear p1
                  try clear q1
                  try clear hx1
                  try clear qi1
                  try clear c2
                  try clear c2b0
                  try clear c2b1
                  try clear p2
                  try clear q2
                  try clear hx2
                  try clear qi2
                  try clear c3
                  try clear p3
                  try clear q3
                  try clear hx3
                  try clear qi3
                  try clear c5
                  try clear c5b0
                  try clear c5b1
                  try clear c6
                  try clear p6
                  try clear c7
                  try clear c7b0
                  try clear c7b1
                  try clear c8
                  try clear c8b0
                  try clear c8b1
                  try clear c9
                  try clear c9b0
                  try clear c9b1
                  try clear c10
                  try clear c10b0
                  try clear c10b1
                  try clear c12
                  try clear c12b0
                  try clear c12b1
                  try clear c13
                  try clear c13b0
                  try clear c13b1
                  try clear p14
                  try clear q14
                  try clear hx14
                  try clear qi14
                  try clear c15
                  try clear c15b0
                  try clear p16
                  try clear q16
                  try clear hx16
                  try clear qi16
                  try clear c17
                  try clear c18
                  try clear c18b0
                  try clear c19
                  try clear c19b0
                  try clear c19b1
                  try clear c20
                  try clear c20b0
                  try clear c20b1
                  try clear c22
                  try clear c22b0
                  try clear c22b1
                  try clear c23
                  try clear c23b0
                  try clear c23b1
                  try clear p24
                  try clear q24
                  try clear hx24
                  try clear qi24
                  try clear c25
                  try clear c25b0
                  try clear c25b1
                  try clear p26
                  try clear q26
                  try clear hx26
                  try clear qi26
                  try clear p1
                  try clear p14
                  try clear p16
                  try clear p2
                  try clear p24
                  try clear p26
                  try clear p3
                  try clear p6
                  try clear q1
                  try clear q14
                  try clear q16
                  try clear q24
                  try clear q26
                  try clear q3
                  obtain ⟨kq, x3_20, rfl, HA, HJ20, ⟨mc20, rfl⟩⟩ := hcut
                  cases kq with
                  | zero => exact absurd HA.out (by simp [gemotref1_leaf_p.j2])
                  | succ kj20 =>
                    have H := HA.out
                    clear HA
                    simp only [gemotref1_leaf_p.j2] at H
                    by_cases c27 : x3_20 > 103
                    · rw [if_pos c27] at H
                      have c27b0 : decide (103 < x3_20) = true := decide_eq_true c27
                      clear c27
                      by_cases c28 : (-1) > (a0.size : Int)
                      · rw [if_pos c28] at H
                        have c28b0 : decide ((a0.size : Int) < (-1)) = true := decide_eq_true c28
                        clear c28
                        obtain rfl := Option.some.inj H
                        go_wp2
                        repeat (go_quiet (fail); try go_wp2)
                        go_ret
                        exact ⟨by first | rfl | (simp; done) | (simp [*]; done), by repeat (first | exact Drawn0.refl _ | apply Drawn0.step)⟩
                      · rw [if_neg c28] at H
                        have c28b0 : decide ((a0.size : Int) < (-1)) = false := decide_eq_false c28
                        clear c28
                        obtain rfl := Option.some.inj H
                        go_wp2
                        repeat (go_quiet (fail); try go_wp2)
                        go_ret
                        exact ⟨by first | rfl | (simp; done) | (simp [*]; done), by repeat (first | exact Drawn0.refl _ | apply Drawn0.step)⟩
                    · rw [if_neg c27] at H
                      have c27b0 : decide (103 < x3_20) = false := decide_eq_false c27
                      clear c27
                      by_cases c29 : x3_20 > (a0.size : Int)
                      · rw [if_pos c29] at H
                        have c29b0 : decide ((a0.size : Int) < x3_20) = true := decide_eq_true c29
                        clear c29
                        obtain rfl := Option.some.inj H
                        go_wp2
                        repeat (go_quiet (fail); try go_wp2)
                        go_ret
                        exact ⟨by first | rfl | (simp; done) | (simp [*]; done), by repeat (first | exact Drawn0.refl _ | apply Drawn0.step)⟩
                      · rw [if_neg c29] at H
                        have c29b0 : decide ((a0.size : Int) < x3_20) = false := decide_eq_false c29
                        clear c29
                        obtain rfl := Option.some.inj H
                        go_wp2
                        repeat (go_quiet (fail); try go_wp2)
                        go_ret
                        exact ⟨by first | rfl | (simp; done) | (simp [*]; done), by repeat (first | exact Drawn0.refl _ | apply Drawn0.step)⟩
              · rw [if_neg c20] at H
                have c20b0 : ((bt a0 0) == 116) = false := beq_eq_false_iff_ne.mpr c20
                have c20b1 : ((bt a0 0) != 116) = true := bne_iff_ne.mpr c20
                by_cases c30 : (-1) > (a0.size : Int)
                · rw [if_pos c30] at H
                  have c30b0 : decide ((a0.size : Int) < (-1)) = true := decide_eq_true c30
                  clear c30
                  obtain rfl := Option.some.inj H
                  go_wp2
                  repeat (go_quiet (fail); try go_wp2)
                  go_ret
                  exact ⟨by first | rfl | (simp; done) | (simp [*]; done), by repeat (first | exact Drawn0.refl _ | apply Drawn0.step)⟩
                · rw [if_neg c30] at H
                  have c30b0 : decide ((a0.size : Int) < (-1)) = false := decide_eq_false c30
                  clear c30
                  obtain rfl := Option.some.inj H
                  go_wp2
                  repeat (go_quiet (fail); try go_wp2)
                  go_ret
                  exact ⟨by first | rfl | (simp; done) | (simp [*]; done), by repeat (first | exact Drawn0.refl _ | apply Drawn0.step)⟩
  · rw [if_neg c2] at H
    exact absurd H (by simp)

def refLeaf (s : ByteArray) : Int := if leafF s = 0 then -1 else leafF s
def gemotref1_leaf.f (s : ByteArray) : Option Int := if 0 < s.size ∧ s.size < 9223372036854775000 then some (refLeaf s) else none
theorem gemotref1_leaf.eq (s : ByteArray) (h : 0 < s.size ∧ s.size < 9223372036854775000) : gemotref1_leaf_p.f 5 s = gemotref1_leaf.f s := by
  have p0 := bt_range s 0
  have p1 := bt_range s 1
  have p2 := bt_range s 2
  unfold gemotref1_leaf_p.f gemotref1_leaf.f refLeaf
  rw [if_pos (by omega), if_pos h]
  by_cases k2 : bt s 0 = 110 ∨ bt s 0 = 117
  · have hl : leafF s = if 9 ≤ s.size then 9 else 0 := by unfold leafF; rw [if_neg (by omega), if_pos k2]
    have : (if bt s 0 = 110 then gemotref1_leaf_p.j0 5 s (-1) (bt s 0) (bt s 0 == 110) else gemotref1_leaf_p.j0 5 s (-1) (bt s 0) (bt s 0 == 117)) = gemotref1_leaf_p.j0 5 s (-1) (bt s 0) true := by
      split
      · rename_i q; rw [q]; rfl
      · have q : bt s 0 = 117 := by omega
        rw [q]; rfl
    rw [this, hl]
    simp only [gemotref1_leaf_p.j0, if_true]
    by_cases c : 9 ≤ s.size
    · rw [if_neg (by omega), if_pos c]; rfl
    · rw [if_pos (by omega), if_neg c]; rfl
  · have : (if bt s 0 = 110 then gemotref1_leaf_p.j0 5 s (-1) (bt s 0) (bt s 0 == 110) else gemotref1_leaf_p.j0 5 s (-1) (bt s 0) (bt s 0 == 117)) = gemotref1_leaf_p.j0 5 s (-1) (bt s 0) false := by
      rw [if_neg (by omega), show (bt s 0 == 117) = false from beq_eq_false_iff_ne.mpr (by omega)]
    rw [this]
    simp only [gemotref1_leaf_p.j0, Bool.false_eq_true, if_false]
    by_cases k1 : bt s 0 = 103
    · have hl : leafF s = 1 := by unfold leafF; rw [if_pos k1]
      rw [if_pos k1, if_neg (by omega), hl]; rfl
    rw [if_neg k1]
    by_cases k3 : bt s 0 = 105
    · have hl : leafF s = if 1 < s.size ∧ 1 ≤ bt s 1 ∧ bt s 1 ≤ 8 then 2 else 0 := by unfold leafF; rw [if_neg k1, if_neg k2, if_pos k3]
      rw [if_pos k3, hl]
      by_cases c : (s.size : Int) > 1
      · rw [if_pos c, if_pos (by omega)]
        by_cases d : bt s 1 < 1
        · rw [if_pos d]
          simp only [gemotref1_leaf_p.j1, if_true]
          rw [if_neg (by omega), if_neg (show ¬ (1 < s.size ∧ 1 ≤ bt s 1 ∧ bt s 1 ≤ 8) by omega)]; rfl
        · rw [if_neg d]
          by_cases d2 : bt s 1 > 8
          · rw [decide_eq_true d2]
            simp only [gemotref1_leaf_p.j1, if_true]
            rw [if_neg (by omega), if_neg (show ¬ (1 < s.size ∧ 1 ≤ bt s 1 ∧ bt s 1 ≤ 8) by omega)]; rfl
          · rw [decide_eq_false d2]
            simp only [gemotref1_leaf_p.j1, Bool.false_eq_true, if_false]
            rw [if_neg (by omega), if_pos (show 1 < s.size ∧ 1 ≤ bt s 1 ∧ bt s 1 ≤ 8 by omega)]; rfl
      · rw [if_neg c]
        simp only [gemotref1_leaf_p.j1, Bool.false_eq_true, if_false]
        rw [if_pos (by omega), if_neg (show ¬ (1 < s.size ∧ 1 ≤ bt s 1 ∧ bt s 1 ≤ 8) by omega)]; rfl
    rw [if_neg k3]
    by_cases k4 : bt s 0 = 116
    · have hl : leafF s = if 3 ≤ s.size ∧ bt s 1 = 0 ∧ bt s 2 ≤ 100 ∧ 3 + bt s 2 ≤ s.size then 3 + bt s 2 else 0 := by unfold leafF; rw [if_neg k1, if_neg k2, if_neg k3, if_pos k4]
      rw [if_pos k4, hl]
      by_cases c : (s.size : Int) ≥ 3
      · rw [if_pos c, if_pos (by omega), if_pos (by omega)]
        have e : wrap64 (wrap64 (3 + wrap64 (256 * wrap64 (bt s 1))) + wrap64 (bt s 2)) = 3 + 256 * bt s 1 + bt s 2 := by unfold wrap64; omega
        rw [e]
        simp only [gemotref1_leaf_p.j2]
        by_cases d : 3 + 256 * bt s 1 + bt s 2 > 103
        · rw [if_pos d, if_neg (by omega), if_neg (show ¬ (3 ≤ s.size ∧ bt s 1 = 0 ∧ bt s 2 ≤ 100 ∧ 3 + bt s 2 ≤ s.size) by omega)]; rfl
        · rw [if_neg d]
          by_cases d2 : 3 + 256 * bt s 1 + bt s 2 > (s.size : Int)
          · rw [if_pos d2, if_neg (show ¬ (3 ≤ s.size ∧ bt s 1 = 0 ∧ bt s 2 ≤ 100 ∧ 3 + bt s 2 ≤ s.size) by omega)]; rfl
          · rw [if_neg d2, if_pos (show 3 ≤ s.size ∧ bt s 1 = 0 ∧ bt s 2 ≤ 100 ∧ 3 + bt s 2 ≤ s.size by omega), if_neg (by omega)]
            congr 1; omega
      · rw [if_neg c]
        simp only [gemotref1_leaf_p.j2]
        rw [if_neg (by omega), if_neg (by omega), if_neg (show ¬ (3 ≤ s.size ∧ bt s 1 = 0 ∧ bt s 2 ≤ 100 ∧ 3 + bt s 2 ≤ s.size) by omega)]; rfl
    rw [if_neg k4]
    have hl : leafF s = 0 := by unfold leafF; rw [if_neg k1, if_neg k2, if_neg k3, if_neg k4]
    rw [if_neg (by omega), hl]; rfl
theorem gemotref1_leaf.calls (a0 : ByteArray) (r : Int) (w : World) (h : gemotref1_leaf.f a0 = some r) :
    Calls Try.prog 158 #[.string a0] w fun e w' => e = .returned (.int .i64 r) ∧ Drawn0 w w' := by
  have hs : 0 < a0.size ∧ a0.size < 9223372036854775000 := by
    unfold gemotref1_leaf.f at h
    split at h
    · assumption
    · cases h
  exact gemotref1_leaf_p.calls 5 a0 r w ((gemotref1_leaf.eq a0 hs).trans h)

end Go.Proofs.Ytpfpmjdifnoeoaa.F
