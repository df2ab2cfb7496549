/- The document's functions on terms; no condition. -/
import Derived.Test.YtppimpadfgldjaaF0
import Derived.Test.YtppimpadfgldjaaB1
namespace Go.Proofs.Ytppimpadfgldjaa.F
open Go.RowKit Go.Proofs.YtppimpadfgldjaaW.PrintWords Go.Proofs.YtppimpadfgldjaaW.PrintLast Go.Proofs.YtppimpadfgldjaaW.PrintMore
attribute [local go_sem] max2_int min2_int max_two min_two max_three min_three max_four min_four
set_option linter.unusedVariables false
set_option linter.unusedSimpArgs false

/-! ### gemotref1_leaf: function 214 -/
/-! #### gemotref1_leaf_p: function 214 -/
mutual
def gemotref1_leaf_p.j0 : Nat → ByteArray → Int → Int → Bool → Option (Int)
  | 0, _, _, _, _ => none
  | k + 1, x0, x3, x5, x6 => if x6 = true then (if 9 > (x0.size : Int) then (some (-1)) else (some 9)) else (if x5 = 103 then (if 1 > (x0.size : Int) then (some (-1)) else (some 1)) else (if x5 = 105 then (if (x0.size : Int) > 1 then (if 1 < (x0.size : Int) then (if (bt x0 1) < 1 then (gemotref1_leaf_p.j1 k x0 2 true) else (gemotref1_leaf_p.j1 k x0 2 (decide ((bt x0 1) > 8)))) else (none)) else (gemotref1_leaf_p.j1 k x0 2 false)) else (if x5 = 116 then (if (x0.size : Int) ≥ 3 then (if 1 < (x0.size : Int) then (if 2 < (x0.size : Int) then (gemotref1_leaf_p.j2 k x0 (wrap64 ((wrap64 (3 + (wrap64 (256 * (wrap64 (bt x0 1)))))) + (wrap64 (bt x0 2))))) else (none)) else (none)) else (gemotref1_leaf_p.j2 k x0 x3)) else (if x3 > (x0.size : Int) then (some (-1)) else (some x3)))))
def gemotref1_leaf_p.j1 : Nat → ByteArray → Int → Bool → Option (Int)
  | 0, _, _, _ => none
  | k + 1, x0, x3, x25 => if x25 = true then (if (-1) > (x0.size : Int) then (some (-1)) else (some (-1))) else (if x3 > (x0.size : Int) then (some (-1)) else (some x3))
def gemotref1_leaf_p.j2 : Nat → ByteArray → Int → Option (Int)
  | 0, _, _ => none
  | k + 1, x0, x3 => if x3 > 103 then (if (-1) > (x0.size : Int) then (some (-1)) else (some (-1))) else (if x3 > (x0.size : Int) then (some (-1)) else (some x3))
end
def gemotref1_leaf_p.f (k : Nat) (a0 : ByteArray) : Option (Int) := if 0 < (a0.size : Int) then (if (bt a0 0) = 110 then (gemotref1_leaf_p.j0 k a0 (-1) (bt a0 0) ((bt a0 0) == 110)) else (gemotref1_leaf_p.j0 k a0 (-1) (bt a0 0) ((bt a0 0) == 117))) else (none)
theorem gemotref1_leaf_p.mono_l : ∀ k, (∀ y0 y1 y2 y3, LeO (gemotref1_leaf_p.j0 k y0 y1 y2 y3) (gemotref1_leaf_p.j0 (k + 1) y0 y1 y2 y3)) ∧ (∀ y0 y1 y2, LeO (gemotref1_leaf_p.j1 k y0 y1 y2) (gemotref1_leaf_p.j1 (k + 1) y0 y1 y2)) ∧ (∀ y0 y1, LeO (gemotref1_leaf_p.j2 k y0 y1) (gemotref1_leaf_p.j2 (k + 1) y0 y1))
  | 0 => ⟨fun _ _ _ _ r h => by simp [gemotref1_leaf_p.j0] at h, fun _ _ _ r h => by simp [gemotref1_leaf_p.j1] at h, fun _ _ r h => by simp [gemotref1_leaf_p.j2] at h⟩
  | k + 1 => by
    obtain ⟨ih0, ih1, ih2⟩ := gemotref1_leaf_p.mono_l k; refine ⟨?_, ?_, ?_⟩
    · intro y0 y1 y2 y3; unfold gemotref1_leaf_p.j0
      repeat' first
      | (with_reducible exact ih0 _ _ _ _)
      | (with_reducible exact ih1 _ _ _)
      | (with_reducible exact ih2 _ _)
      | (with_reducible exact LeO.refl _)
      | (with_reducible exact LeO.none _)
      | (with_reducible refine LeO.ite ?_ ?_)
      | (with_reducible refine LeO.bind ?_ (fun _ => ?_))
      | exact ih0 _ _ _ _
      | exact ih1 _ _ _
      | exact ih2 _ _
      | exact LeO.none _
      | refine LeO.ite ?_ ?_
      | refine LeO.bind ?_ (fun _ => ?_)
    · intro y0 y1 y2; unfold gemotref1_leaf_p.j1
      repeat' first
      | (with_reducible exact ih0 _ _ _ _)
      | (with_reducible exact ih1 _ _ _)
      | (with_reducible exact ih2 _ _)
      | (with_reducible exact LeO.refl _)
      | (with_reducible exact LeO.none _)
      | (with_reducible refine LeO.ite ?_ ?_)
      | (with_reducible refine LeO.bind ?_ (fun _ => ?_))
      | exact ih0 _ _ _ _
      | exact ih1 _ _ _
      | exact ih2 _ _
      | exact LeO.none _
      | refine LeO.ite ?_ ?_
      | refine LeO.bind ?_ (fun _ => ?_)
    · intro y0 y1; unfold gemotref1_leaf_p.j2
      repeat' first
      | (with_reducible exact ih0 _ _ _ _)
      | (with_reducible exact ih1 _ _ _)
      | (with_reducible exact ih2 _ _)
      | (with_reducible exact LeO.refl _)
      | (with_reducible exact LeO.none _)
      | (with_reducible refine LeO.ite ?_ ?_)
      | (with_reducible refine LeO.bind ?_ (fun _ => ?_))
      | exact ih0 _ _ _ _
      | exact ih1 _ _ _
      | exact ih2 _ _
      | exact LeO.none _
      | refine LeO.ite ?_ ?_
      | refine LeO.bind ?_ (fun _ => ?_)
theorem gemotref1_leaf_p.mono : ∀ a0 k, LeO (gemotref1_leaf_p.f k a0) (gemotref1_leaf_p.f (k + 1) a0) := by
  intro a0 k; obtain ⟨ih0, ih1, ih2⟩ := gemotref1_leaf_p.mono_l k; unfold gemotref1_leaf_p.f
  repeat' first
      | (with_reducible exact ih0 _ _ _ _)
      | (with_reducible exact ih1 _ _ _)
      | (with_reducible exact ih2 _ _)
      | (with_reducible exact LeO.refl _)
      | (with_reducible exact LeO.none _)
      | (with_reducible refine LeO.ite ?_ ?_)
      | (with_reducible refine LeO.bind ?_ (fun _ => ?_))
      | exact ih0 _ _ _ _
      | exact ih1 _ _ _
      | exact ih2 _ _
      | exact LeO.none _
      | refine LeO.ite ?_ ?_
      | refine LeO.bind ?_ (fun _ => ?_)
set_option maxHeartbeats 8000000 in
set_option maxRecDepth 100000 in
theorem gemotref1_leaf_p.calls (k : Nat) (a0 : ByteArray) (r : Int) (w : World) (h : gemotref1_leaf_p.f k a0 = some r) :
    Calls Try.prog 214 #[.string a0] w fun e w' => e = .returned (.int .i64 r) ∧ Drawn0 w w' := by
  have H : (if 0 < (a0.size : Int) then (if (bt a0 0) = 110 then (gemotref1_leaf_p.j0 k a0 (-1) (bt a0 0) ((bt a0 0) == 110)) else (gemotref1_leaf_p.j0 k a0 (-1) (bt a0 0) ((bt a0 0) == 117))) else (none)) = some r := h
  clear h; by_cases c2 : 0 < (a0.size : Int)
  · rw [if_pos c2] at H
    have c2b0 : decide (0 < (a0.size : Int)) = true := decide_eq_true c2
    have c2b1 : decide (0 < a0.size) = true := decide_eq_true (by omega)
    clear c2; have HC4 := Aside0.mk H
    clear H; have p3 : 0 ≤ (0 : Int) := (by omega)
    have q3 : 0 < a0.size := (by have : (0 : Int) < (a0.size : Int) := of_decide_eq_true (by first | (with_reducible assumption) | assumption); omega)
    have hx3 : ∀ h : 0 < a0.size, ((a0[0]'h).toNat : Int) = bt a0 0 := bt_at a0 0
    clear p3; have qi3 : (0 < (a0.size : Int)) = True := eq_true (of_decide_eq_true (by first | (with_reducible assumption) | assumption))
    replace q3 := eq_true q3
    go_enter Try.func214, Try.ntmps214
    go_upto_if 6 with (fail)
    repeat (go_quiet (fail); go_upto_if 6 with (fail))
    go_cut [6] (fun v6 wc => ∃ (kq : Nat) (x6_3 : Bool), v6 = .bool x6_3 ∧ Aside0 (gemotref1_leaf_p.j0 kq a0 (-1) (bt a0 0) x6_3 = some r) ∧ Aside0 (kq ≤ k) ∧ Drawn0 w wc)
    case first =>
      have H := HC4.out; clear HC4; by_cases c5 : (bt a0 0) = 110
      · rw [if_pos c5] at H
        have c5b0 : ((bt a0 0) == 110) = true := beq_iff_eq.mpr c5
        have c5b1 : ((bt a0 0) != 110) = false := bne_eq_false_iff_eq.mpr c5
        clear c5; (first | rw [c5b0] | (simp only [i64_w, i32_w]; rw [c5b0]) | skip); have H' := Aside0.mk H
        clear H; go_wp2; repeat (go_quiet (fail); try go_wp2)
        go_meet
        case rel => exact ⟨_, (((bt a0 0) == 110)), (by first | rfl | (simp; done) | (simp [*]; done)), H', ⟨by first | omega | exact Nat.le_refl _⟩, by repeat (first | exact Drawn0.refl _ | apply Drawn0.step)⟩
      · rw [if_neg c5] at H
        have c5b0 : ((bt a0 0) == 110) = false := beq_eq_false_iff_ne.mpr c5
        have c5b1 : ((bt a0 0) != 110) = true := bne_iff_ne.mpr c5
        (first | rw [c5b0] | (simp only [i64_w, i32_w]; rw [c5b0]) | skip); have H' := Aside0.mk H
        clear H; go_wp2; repeat (go_quiet (fail); try go_wp2)
        go_meet
        case rel => exact ⟨_, (((bt a0 0) == 117)), (by first | rfl | (simp; done) | (simp [*]; done)), H', ⟨by first | omega | exact Nat.le_refl _⟩, by repeat (first | exact Drawn0.refl _ | apply Drawn0.step)⟩
    case rest =>
      clear HC4; try clear c2
      try clear c2b0
      try clear c2b1
      try clear p2
      try clear p3
      try clear q3
      try clear hx3
      try clear qi3
      try clear c5
      try clear c5b0
      try clear c5b1
      try clear p3
      try clear q3
      obtain ⟨kq, x6_3, rfl, HA, HJ3, ⟨mc3, rfl⟩⟩ := hcut
      cases kq with
      | zero => exact absurd HA.out (by simp [gemotref1_leaf_p.j0])
      | succ kj3 =>
        have H := HA.out; clear HA; simp only [gemotref1_leaf_p.j0] at H; by_cases c6 : x6_3 = true
        · subst c6; have H1 : (if 9 > (a0.size : Int) then (some (-1)) else (some 9)) = some r := by rw [if_pos rfl] at H; exact H
          clear H; have H := H1; clear H1; by_cases c7 : 9 > (a0.size : Int)
          · rw [if_pos c7] at H
            have c7b0 : decide ((a0.size : Int) < 9) = true := decide_eq_true c7
            have c7b1 : decide (a0.size < 9) = true := decide_eq_true (by omega)
            clear c7; obtain rfl := Option.some.inj H
            go_wp2; repeat (go_quiet (fail); try go_wp2)
            go_ret
            exact ⟨by first | rfl | (simp; done) | (simp [*]; done), by repeat (first | exact Drawn0.refl _ | apply Drawn0.step)⟩
          · rw [if_neg c7] at H
            have c7b0 : decide ((a0.size : Int) < 9) = false := decide_eq_false c7
            have c7b1 : decide (a0.size < 9) = false := decide_eq_false (by omega)
            clear c7; obtain rfl := Option.some.inj H
            go_wp2; repeat (go_quiet (fail); try go_wp2)
            go_ret
            exact ⟨by first | rfl | (simp; done) | (simp [*]; done), by repeat (first | exact Drawn0.refl _ | apply Drawn0.step)⟩
        · replace c6 := Bool.eq_false_iff.mpr c6
          subst c6; have H1 : (if (bt a0 0) = 103 then (if 1 > (a0.size : Int) then (some (-1)) else (some 1)) else (if (bt a0 0) = 105 then (if (a0.size : Int) > 1 then (if 1 < (a0.size : Int) then (if (bt a0 1) < 1 then (gemotref1_leaf_p.j1 kj3 a0 2 true) else (gemotref1_leaf_p.j1 kj3 a0 2 (decide ((bt a0 1) > 8)))) else (none)) else (gemotref1_leaf_p.j1 kj3 a0 2 false)) else (if (bt a0 0) = 116 then (if (a0.size : Int) ≥ 3 then (if 1 < (a0.size : Int) then (if 2 < (a0.size : Int) then (gemotref1_leaf_p.j2 kj3 a0 (wrap64 ((wrap64 (3 + (wrap64 (256 * (wrap64 (bt a0 1)))))) + (wrap64 (bt a0 2))))) else (none)) else (none)) else (gemotref1_leaf_p.j2 kj3 a0 (-1))) else (if (-1) > (a0.size : Int) then (some (-1)) else (some (-1)))))) = some r := by rw [if_neg (show ¬ (false = true) by decide)] at H; exact H
          clear H; have H := H1; clear H1; by_cases c8 : (bt a0 0) = 103
          · rw [if_pos c8] at H
            have c8b0 : ((bt a0 0) == 103) = true := beq_iff_eq.mpr c8
            have c8b1 : ((bt a0 0) != 103) = false := bne_eq_false_iff_eq.mpr c8
            clear c8; by_cases c9 : 1 > (a0.size : Int)
            · rw [if_pos c9] at H
              have c9b0 : decide ((a0.size : Int) < 1) = true := decide_eq_true c9
              have c9b1 : decide (a0.size < 1) = true := decide_eq_true (by omega)
              clear c9; obtain rfl := Option.some.inj H
              go_wp2; repeat (go_quiet (fail); try go_wp2)
              go_ret
              exact ⟨by first | rfl | (simp; done) | (simp [*]; done), by repeat (first | exact Drawn0.refl _ | apply Drawn0.step)⟩
            · rw [if_neg c9] at H
              have c9b0 : decide ((a0.size : Int) < 1) = false := decide_eq_false c9
              have c9b1 : decide (a0.size < 1) = false := decide_eq_false (by omega)
              clear c9; obtain rfl := Option.some.inj H
              go_wp2; repeat (go_quiet (fail); try go_wp2)
              go_ret
              exact ⟨by first | rfl | (simp; done) | (simp [*]; done), by repeat (first | exact Drawn0.refl _ | apply Drawn0.step)⟩
          · rw [if_neg c8] at H
            have c8b0 : ((bt a0 0) == 103) = false := beq_eq_false_iff_ne.mpr c8
            have c8b1 : ((bt a0 0) != 103) = true := bne_iff_ne.mpr c8
            by_cases c10 : (bt a0 0) = 105
            · rw [if_pos c10] at H
              have c10b0 : ((bt a0 0) == 105) = true := beq_iff_eq.mpr c10
              have c10b1 : ((bt a0 0) != 105) = false := bne_eq_false_iff_eq.mpr c10
              clear c10; have HC11 := Aside0.mk H
              clear H; go_upto_region 10 with (fail)
              repeat (go_quiet (fail); go_upto_region 10 with (fail))
              go_cut [25] (fun v25 wc => ∃ (kq : Nat) (x25_10 : Bool), v25 = .bool x25_10 ∧ Aside0 (gemotref1_leaf_p.j1 kq a0 2 x25_10 = some r) ∧ Aside0 (kq ≤ kj3) ∧ Drawn0 w wc)
              case first =>
                have H := HC11.out; clear HC11; by_cases c12 : (a0.size : Int) > 1
                · rw [if_pos c12] at H
                  have c12b0 : decide (1 < (a0.size : Int)) = true := decide_eq_true c12
                  have c12b1 : decide (1 < a0.size) = true := decide_eq_true (by omega)
                  clear c12; (first | rw [c12b0] | (simp only [i64_w, i32_w]; rw [c12b0]) | skip); by_cases c13 : 1 < (a0.size : Int)
                  · rw [if_pos c13] at H
                    have c13b0 : decide (1 < (a0.size : Int)) = true := decide_eq_true c13
                    have c13b1 : decide (1 < a0.size) = true := decide_eq_true (by omega)
                    clear c13; by_cases c15 : (bt a0 1) < 1
                    · rw [if_pos c15] at H
                      have c15b0 : decide ((bt a0 1) < 1) = true := decide_eq_true c15
                      clear c15; have H' := Aside0.mk H
                      clear H; have p14 : 0 ≤ (1 : Int) := (by omega)
                      have q14 : 1 < a0.size := (by have : (1 : Int) < (a0.size : Int) := of_decide_eq_true (by first | (with_reducible assumption) | assumption); omega)
                      have hx14 : ∀ h : 1 < a0.size, ((a0[1]'h).toNat : Int) = bt a0 1 := bt_at a0 1
                      clear p14; have qi14 : (1 < (a0.size : Int)) = True := eq_true (of_decide_eq_true (by first | (with_reducible assumption) | assumption))
                      replace q14 := eq_true q14
                      go_wp2; repeat (go_quiet (fail); try go_wp2)
                      go_meet
                      case rel => exact ⟨_, (true), (by first | rfl | (simp; done) | (simp [*]; done)), H', ⟨by have := HJ3.out; first | omega | exact Nat.le_refl _⟩, by repeat (first | exact Drawn0.refl _ | apply Drawn0.step)⟩
                    · rw [if_neg c15] at H
                      have c15b0 : decide ((bt a0 1) < 1) = false := decide_eq_false c15
                      clear c15; have H' := Aside0.mk H
                      clear H; have p14 : 0 ≤ (1 : Int) := (by omega)
                      have q14 : 1 < a0.size := (by have : (1 : Int) < (a0.size : Int) := of_decide_eq_true (by first | (with_reducible assumption) | assumption); omega)
                      have hx14 : ∀ h : 1 < a0.size, ((a0[1]'h).toNat : Int) = bt a0 1 := bt_at a0 1
                      clear p14; have qi14 : (1 < (a0.size : Int)) = True := eq_true (of_decide_eq_true (by first | (with_reducible assumption) | assumption))
                      replace q14 := eq_true q14
                      have p16 : 0 ≤ (1 : Int) := (by omega)
                      have q16 : 1 < a0.size := (by have : (1 : Int) < (a0.size : Int) := of_decide_eq_true (by first | (with_reducible assumption) | assumption); omega)
                      have hx16 : ∀ h : 1 < a0.size, ((a0[1]'h).toNat : Int) = bt a0 1 := bt_at a0 1
                      clear p16; have qi16 : (1 < (a0.size : Int)) = True := eq_true (of_decide_eq_true (by first | (with_reducible assumption) | assumption))
                      replace q16 := eq_true q16
                      go_wp2; repeat (go_quiet (fail); try go_wp2)
                      go_meet
                      case rel => exact ⟨_, (decide ((bt a0 1) > 8)), (by first | rfl | (simp; done) | (simp [*]; done)), H', ⟨by have := HJ3.out; first | omega | exact Nat.le_refl _⟩, by repeat (first | exact Drawn0.refl _ | apply Drawn0.step)⟩
                  · rw [if_neg c13] at H
                    exact absurd H (by simp)
                · rw [if_neg c12] at H
                  have c12b0 : decide (1 < (a0.size : Int)) = false := decide_eq_false c12
                  have c12b1 : decide (1 < a0.size) = false := decide_eq_false (by omega)
                  clear c12; (first | rw [c12b0] | (simp only [i64_w, i32_w]; rw [c12b0]) | skip); have H' := Aside0.mk H
                  clear H; go_wp2; repeat (go_quiet (fail); try go_wp2)
                  go_meet
                  case rel => exact ⟨_, (false), (by first | rfl | (simp; done) | (simp [*]; done)), H', ⟨by have := HJ3.out; first | omega | exact Nat.le_refl _⟩, by repeat (first | exact Drawn0.refl _ | apply Drawn0.step)⟩
              case rest =>
                clear HC11; try clear c1
                try clear p1
                try clear q1
                try clear hx1
                try clear qi1
                try clear c2
                try clear c2b0
                try clear c2b1
                try clear p2
                try clear c3
                try clear p3
                try clear q3
                try clear hx3
                try clear qi3
                try clear c5
                try clear c5b0
                try clear c5b1
                try clear c6
                try clear p6
                try clear c7
                try clear c7b0
                try clear c7b1
                try clear c8
                try clear c8b0
                try clear c8b1
                try clear c9
                try clear c9b0
                try clear c9b1
                try clear c10
                try clear c10b0
                try clear c10b1
                try clear c12
                try clear c12b0
                try clear c12b1
                try clear c13
                try clear c13b0
                try clear c13b1
                try clear p14
                try clear q14
                try clear hx14
                try clear qi14
                try clear c15
                try clear c15b0
                try clear p16
                try clear q16
                try clear hx16
                try clear qi16
                try clear p14
                try clear p16
                try clear p2
                try clear p3
                try clear q14
                try clear q16
                try clear q3
                obtain ⟨kq, x25_10, rfl, HA, HJ10, ⟨mc10, rfl⟩⟩ := hcut
                cases kq with
                | zero => exact absurd HA.out (by simp [gemotref1_leaf_p.j1])
                | succ kj10 =>
                  have H := HA.out; clear HA; simp only [gemotref1_leaf_p.j1] at H; by_cases c17 : x25_10 = true
                  · subst c17; have H1 : (if (-1) > (a0.size : Int) then (some (-1)) else (some (-1))) = some r := by rw [if_pos rfl] at H; exact H
                    clear H; have H := H1; clear H1; by_cases c18 : (-1) > (a0.size : Int)
                    · rw [if_pos c18] at H
                      have c18b0 : decide ((a0.size : Int) < (-1)) = true := decide_eq_true c18
                      clear c18; obtain rfl := Option.some.inj H
                      go_wp2; repeat (go_quiet (fail); try go_wp2)
                      go_ret
                      exact ⟨by first | rfl | (simp; done) | (simp [*]; done), by repeat (first | exact Drawn0.refl _ | apply Drawn0.step)⟩
                    · rw [if_neg c18] at H
                      have c18b0 : decide ((a0.size : Int) < (-1)) = false := decide_eq_false c18
                      clear c18; obtain rfl := Option.some.inj H
                      go_wp2; repeat (go_quiet (fail); try go_wp2)
                      go_ret
                      exact ⟨by first | rfl | (simp; done) | (simp [*]; done), by repeat (first | exact Drawn0.refl _ | apply Drawn0.step)⟩
                  · replace c17 := Bool.eq_false_iff.mpr c17
                    subst c17; have H1 : (if 2 > (a0.size : Int) then (some (-1)) else (some 2)) = some r := by rw [if_neg (show ¬ (false = true) by decide)] at H; exact H
                    clear H; have H := H1; clear H1; by_cases c19 : 2 > (a0.size : Int)
                    · rw [if_pos c19] at H
                      have c19b0 : decide ((a0.size : Int) < 2) = true := decide_eq_true c19
                      have c19b1 : decide (a0.size < 2) = true := decide_eq_true (by omega)
                      clear c19; obtain rfl := Option.some.inj H
                      go_wp2; repeat (go_quiet (fail); try go_wp2)
                      go_ret
                      exact ⟨by first | rfl | (simp; done) | (simp [*]; done), by repeat (first | exact Drawn0.refl _ | apply Drawn0.step)⟩
                    · rw [if_neg c19] at H
                      have c19b0 : decide ((a0.size : Int) < 2) = false := decide_eq_false c19
                      have c19b1 : decide (a0.size < 2) = false := decide_eq_false (by omega)
                      clear c19; obtain rfl := Option.some.inj H
                      go_wp2; repeat (go_quiet (fail); try go_wp2)
                      go_ret
                      exact ⟨by first | rfl | (simp; done) | (simp [*]; done), by repeat (first | exact Drawn0.refl _ | apply Drawn0.step)⟩
            · rw [if_neg c10] at H
              have c10b0 : ((bt a0 0) == 105) = false := beq_eq_false_iff_ne.mpr c10
              have c10b1 : ((bt a0 0) != 105) = true := bne_iff_ne.mpr c10
              by_cases c20 : (bt a0 0) = 116
              · rw [if_pos c20] at H
                have c20b0 : ((bt a0 0) == 116) = true := beq_iff_eq.mpr c20
                have c20b1 : ((bt a0 0) != 116) = false := bne_eq_false_iff_eq.mpr c20
                clear c20; have HC21 := Aside0.mk H
                clear H; go_upto_if 30 with (fail)
                repeat (go_quiet (fail); go_upto_if 30 with (fail))
                go_cut [3] (fun v3 wc => ∃ (kq : Nat) (x3_20 : Int), v3 = .int .i64 x3_20 ∧ Aside0 (gemotref1_leaf_p.j2 kq a0 x3_20 = some r) ∧ Aside0 (kq ≤ kj3) ∧ Drawn0 w wc)
                case first =>
                  have H := HC21.out; clear HC21; by_cases c22 : (a0.size : Int) ≥ 3
                  · rw [if_pos c22] at H
                    have c22b0 : decide (3 ≤ (a0.size : Int)) = true := decide_eq_true c22
                    have c22b1 : decide (3 ≤ a0.size) = true := decide_eq_true (by omega)
                    clear c22; (first | rw [c22b0] | (simp only [i64_w, i32_w]; rw [c22b0]) | skip); by_cases c23 : 1 < (a0.size : Int)
                    · rw [if_pos c23] at H
                      have c23b0 : decide (1 < (a0.size : Int)) = true := decide_eq_true c23
                      have c23b1 : decide (1 < a0.size) = true := decide_eq_true (by omega)
                      clear c23; by_cases c25 : 2 < (a0.size : Int)
                      · rw [if_pos c25] at H
                        have c25b0 : decide (2 < (a0.size : Int)) = true := decide_eq_true c25
                        have c25b1 : decide (2 < a0.size) = true := decide_eq_true (by omega)
                        clear c25; have H' := Aside0.mk H
                        clear H; have p24 : 0 ≤ (1 : Int) := (by omega)
                        have q24 : 1 < a0.size := (by have : (1 : Int) < (a0.size : Int) := of_decide_eq_true (by first | (with_reducible assumption) | assumption); omega)
                        have hx24 : ∀ h : 1 < a0.size, ((a0[1]'h).toNat : Int) = bt a0 1 := bt_at a0 1
                        clear p24; have qi24 : (1 < (a0.size : Int)) = True := eq_true (of_decide_eq_true (by first | (with_reducible assumption) | assumption))
                        replace q24 := eq_true q24
                        have p26 : 0 ≤ (2 : Int) := (by omega)
                        have q26 : 2 < a0.size := (by have : (2 : Int) < (a0.size : Int) := of_decide_eq_true (by first | (with_reducible assumption) | assumption); omega)
                        have hx26 : ∀ h : 2 < a0.size, ((a0[2]'h).toNat : Int) = bt a0 2 := bt_at a0 2
                        clear p26; have qi26 : (2 < (a0.size : Int)) = True := eq_true (of_decide_eq_true (by first | (with_reducible assumption) | assumption))
                        replace q26 := eq_true q26
                        go_wp2; repeat (go_quiet (fail); try go_wp2)
                        go_meet
                        case rel => exact ⟨_, (wrap64 ((wrap64 (3 + (wrap64 (256 * (wrap64 (bt a0 1)))))) + (wrap64 (bt a0 2)))), (by first | rfl | (simp; done) | (simp [*]; done)), H', ⟨by have := HJ3.out; first | omega | exact Nat.le_refl _⟩, by repeat (first | exact Drawn0.refl _ | apply Drawn0.step)⟩
                      · rw [if_neg c25] at H
                        exact absurd H (by simp)
                    · rw [if_neg c23] at H
                      exact absurd H (by simp)
                  · rw [if_neg c22] at H
                    have c22b0 : decide (3 ≤ (a0.size : Int)) = false := decide_eq_false c22
                    have c22b1 : decide (3 ≤ a0.size) = false := decide_eq_false (by omega)
                    clear c22; (first | rw [c22b0] | (simp only [i64_w, i32_w]; rw [c22b0]) | skip); have H' := Aside0.mk H
                    clear H; go_wp2; repeat (go_quiet (fail); try go_wp2)
                    go_meet
                    case rel => exact ⟨_, ((-1)), (by first | rfl | (simp; done) | (simp [*]; done)), H', ⟨by have := HJ3.out; first | omega | exact Nat.le_refl _⟩, by repeat (first | exact Drawn0.refl _ | apply Drawn0.step)⟩
                case rest =>
                  clear HC21; try clear c1
                  try clear p1
                  try clear q1
                  try clear hx1
                  try clear qi1
                  try clear c2
                  try clear c2b0
                  try clear c2b1
                  try clear p2
                  try clear q2
                  try clear hx2
                  try clear qi2
                  try clear c3
                  try clear p3
                  try clear q3
                  try clear hx3
                  try clear qi3
                  try clear c5
                  try clear c5b0
                  try clear c5b1
                  try clear c6
                  try clear p6
                  try clear c7
                  try clear c7b0
                  try clear c7b1
                  try clear c8
                  try clear c8b0
                  try clear c8b1
                  try clear c9
                  try clear c9b0
                  try clear c9b1
                  try clear c10
                  try clear c10b0
                  try clear c10b1
                  try clear c12
                  try clear c12b0
                  try clear c12b1
                  try clear c13
                  try clear c13b0
                  try clear c13b1
                  try clear p14
                  try clear q14
                  try clear hx14
                  try clear qi14
                  try clear c15
                  try clear c15b0
                  try clear p16
                  try clear q16
                  try clear hx16
                  try clear qi16
                  try clear c17
                  try clear c18
                  try clear c18b0
                  try clear c19
                  try clear c19b0
                  try clear c19b1
                  try clear c20
                  try clear c20b0
                  try clear c20b1
                  try clear c21
                  try clear c22
                  try clear c22b0
                  try clear c22b1
                  try clear c23
                  try clear c23b0
                  try clear c23b1
                  try clear p24
                  try clear q24
                  try clear hx24
                  try clear qi24
                  try clear c25
                  try clear c25b0
                  try clear c25b1
                  try clear p26
                  try clear q26
                  try clear hx26
                  try clear qi26
                  try clear p1
                  try clear p14
                  try clear p16
                  try clear p2
                  try clear p24
                  try clear p26
                  try clear p3
                  try clear p6
                  try clear q1
                  try clear q14
                  try clear q16
                  try clear q24
                  try clear q26
                  try clear q3
                  obtain ⟨kq, x3_20, rfl, HA, HJ20, ⟨mc20, rfl⟩⟩ := hcut
                  cases kq with
                  | zero => exact absurd HA.out (by simp [gemotref1_leaf_p.j2])
                  | succ kj20 =>
                    have H := HA.out; clear HA; simp only [gemotref1_leaf_p.j2] at H; by_cases c27 : x3_20 > 103
                    · rw [if_pos c27] at H
                      have c27b0 : decide (103 < x3_20) = true := decide_eq_true c27
                      clear c27; by_cases c28 : (-1) > (a0.size : Int)
                      · rw [if_pos c28] at H
                        have c28b0 : decide ((a0.size : Int) < (-1)) = true := decide_eq_true c28
                        clear c28; obtain rfl := Option.some.inj H
                        go_wp2; repeat (go_quiet (fail); try go_wp2)
                        go_ret
                        exact ⟨by first | rfl | (simp; done) | (simp [*]; done), by repeat (first | exact Drawn0.refl _ | apply Drawn0.step)⟩
                      · rw [if_neg c28] at H
                        have c28b0 : decide ((a0.size : Int) < (-1)) = false := decide_eq_false c28
                        clear c28; obtain rfl := Option.some.inj H
                        go_wp2; repeat (go_quiet (fail); try go_wp2)
                        go_ret
                        exact ⟨by first | rfl | (simp; done) | (simp [*]; done), by repeat (first | exact Drawn0.refl _ | apply Drawn0.step)⟩
                    · rw [if_neg c27] at H
                      have c27b0 : decide (103 < x3_20) = false := decide_eq_false c27
                      clear c27; by_cases c29 : x3_20 > (a0.size : Int)
                      · rw [if_pos c29] at H
                        have c29b0 : decide ((a0.size : Int) < x3_20) = true := decide_eq_true c29
                        clear c29; obtain rfl := Option.some.inj H
                        go_wp2; repeat (go_quiet (fail); try go_wp2)
                        go_ret
                        exact ⟨by first | rfl | (simp; done) | (simp [*]; done), by repeat (first | exact Drawn0.refl _ | apply Drawn0.step)⟩
                      · rw [if_neg c29] at H
                        have c29b0 : decide ((a0.size : Int) < x3_20) = false := decide_eq_false c29
                        clear c29; obtain rfl := Option.some.inj H
                        go_wp2; repeat (go_quiet (fail); try go_wp2)
                        go_ret
                        exact ⟨by first | rfl | (simp; done) | (simp [*]; done), by repeat (first | exact Drawn0.refl _ | apply Drawn0.step)⟩
              · rw [if_neg c20] at H
                have c20b0 : ((bt a0 0) == 116) = false := beq_eq_false_iff_ne.mpr c20
                have c20b1 : ((bt a0 0) != 116) = true := bne_iff_ne.mpr c20
                by_cases c30 : (-1) > (a0.size : Int)
                · rw [if_pos c30] at H
                  have c30b0 : decide ((a0.size : Int) < (-1)) = true := decide_eq_true c30
                  clear c30; obtain rfl := Option.some.inj H
                  go_wp2; repeat (go_quiet (fail); try go_wp2)
                  go_ret
                  exact ⟨by first | rfl | (simp; done) | (simp [*]; done), by repeat (first | exact Drawn0.refl _ | apply Drawn0.step)⟩
                · rw [if_neg c30] at H
                  have c30b0 : decide ((a0.size : Int) < (-1)) = false := decide_eq_false c30
                  clear c30; obtain rfl := Option.some.inj H
                  go_wp2; repeat (go_quiet (fail); try go_wp2)
                  go_ret
                  exact ⟨by first | rfl | (simp; done) | (simp [*]; done), by repeat (first | exact Drawn0.refl _ | apply Drawn0.step)⟩
  · rw [if_neg c2] at H
    exact absurd H (by simp)

def refLeaf (s : ByteArray) : Int := if leafF s = 0 then -1 else leafF s
def gemotref1_leaf.f (s : ByteArray) : Option Int := if 0 < s.size ∧ s.size < 9223372036854775808 then some (refLeaf s) else none
theorem gemotref1_leaf.eq (s : ByteArray) (h : 0 < s.size ∧ s.size < 9223372036854775808) : gemotref1_leaf_p.f 5 s = gemotref1_leaf.f s := by
  have p0 := bt_range s 0; have p1 := bt_range s 1; have p2 := bt_range s 2; unfold gemotref1_leaf_p.f gemotref1_leaf.f refLeaf
  rw [if_pos (by omega), if_pos h]
  by_cases k2 : bt s 0 = 110 ∨ bt s 0 = 117
  · have hl : leafF s = if 9 ≤ s.size then 9 else 0 := by unfold leafF; rw [if_neg (by omega), if_pos k2]
    have : (if bt s 0 = 110 then gemotref1_leaf_p.j0 5 s (-1) (bt s 0) (bt s 0 == 110) else gemotref1_leaf_p.j0 5 s (-1) (bt s 0) (bt s 0 == 117)) = gemotref1_leaf_p.j0 5 s (-1) (bt s 0) true := by
      split
      · rename_i q; rw [q]; rfl
      · have q : bt s 0 = 117 := by omega
        rw [q]; rfl
    rw [this, hl]
    simp only [gemotref1_leaf_p.j0, if_true]; by_cases c : 9 ≤ s.size
    · rw [if_neg (by omega), if_pos c]; rfl
    · rw [if_pos (by omega), if_neg c]; rfl
  · have : (if bt s 0 = 110 then gemotref1_leaf_p.j0 5 s (-1) (bt s 0) (bt s 0 == 110) else gemotref1_leaf_p.j0 5 s (-1) (bt s 0) (bt s 0 == 117)) = gemotref1_leaf_p.j0 5 s (-1) (bt s 0) false := by
      rw [if_neg (by omega), show (bt s 0 == 117) = false from beq_eq_false_iff_ne.mpr (by omega)]
    rw [this]
    simp only [gemotref1_leaf_p.j0, Bool.false_eq_true, if_false]; by_cases k1 : bt s 0 = 103
    · have hl : leafF s = 1 := by unfold leafF; rw [if_pos k1]
      rw [if_pos k1, if_neg (by omega), hl]; rfl
    rw [if_neg k1]
    by_cases k3 : bt s 0 = 105
    · have hl : leafF s = if 1 < s.size ∧ 1 ≤ bt s 1 ∧ bt s 1 ≤ 8 then 2 else 0 := by unfold leafF; rw [if_neg k1, if_neg k2, if_pos k3]
      rw [if_pos k3, hl]
      by_cases c : (s.size : Int) > 1
      · rw [if_pos c, if_pos (by omega)]
        by_cases d : bt s 1 < 1
        · rw [if_pos d]
          simp only [gemotref1_leaf_p.j1, if_true]; rw [if_neg (by omega), if_neg (show ¬ (1 < s.size ∧ 1 ≤ bt s 1 ∧ bt s 1 ≤ 8) by omega)]; rfl
        · rw [if_neg d]
          by_cases d2 : bt s 1 > 8
          · rw [decide_eq_true d2]
            simp only [gemotref1_leaf_p.j1, if_true]; rw [if_neg (by omega), if_neg (show ¬ (1 < s.size ∧ 1 ≤ bt s 1 ∧ bt s 1 ≤ 8) by omega)]; rfl
          · rw [decide_eq_false d2]
            simp only [gemotref1_leaf_p.j1, Bool.false_eq_true, if_false]; rw [if_neg (by omega), if_pos (show 1 < s.size ∧ 1 ≤ bt s 1 ∧ bt s 1 ≤ 8 by omega)]; rfl
      · rw [if_neg c]
        simp only [gemotref1_leaf_p.j1, Bool.false_eq_true, if_false]; rw [if_pos (by omega), if_neg (show ¬ (1 < s.size ∧ 1 ≤ bt s 1 ∧ bt s 1 ≤ 8) by omega)]; rfl
    rw [if_neg k3]
    by_cases k4 : bt s 0 = 116
    · have hl : leafF s = if 3 ≤ s.size ∧ bt s 1 = 0 ∧ bt s 2 ≤ 100 ∧ 3 + bt s 2 ≤ s.size then 3 + bt s 2 else 0 := by unfold leafF; rw [if_neg k1, if_neg k2, if_neg k3, if_pos k4]
      rw [if_pos k4, hl]
      by_cases c : (s.size : Int) ≥ 3
      · rw [if_pos c, if_pos (by omega), if_pos (by omega)]
        have e : wrap64 (wrap64 (3 + wrap64 (256 * wrap64 (bt s 1))) + wrap64 (bt s 2)) = 3 + 256 * bt s 1 + bt s 2 := by unfold wrap64; omega
        rw [e]
        simp only [gemotref1_leaf_p.j2]; by_cases d : 3 + 256 * bt s 1 + bt s 2 > 103
        · rw [if_pos d, if_neg (by omega), if_neg (show ¬ (3 ≤ s.size ∧ bt s 1 = 0 ∧ bt s 2 ≤ 100 ∧ 3 + bt s 2 ≤ s.size) by omega)]; rfl
        · rw [if_neg d]
          by_cases d2 : 3 + 256 * bt s 1 + bt s 2 > (s.size : Int)
          · rw [if_pos d2, if_neg (show ¬ (3 ≤ s.size ∧ bt s 1 = 0 ∧ bt s 2 ≤ 100 ∧ 3 + bt s 2 ≤ s.size) by omega)]; rfl
          · rw [if_neg d2, if_pos (show 3 ≤ s.size ∧ bt s 1 = 0 ∧ bt s 2 ≤ 100 ∧ 3 + bt s 2 ≤ s.size by omega), if_neg (by omega)]
            congr 1; omega
      · rw [if_neg c]
        simp only [gemotref1_leaf_p.j2]; rw [if_neg (by omega), if_neg (by omega), if_neg (show ¬ (3 ≤ s.size ∧ bt s 1 = 0 ∧ bt s 2 ≤ 100 ∧ 3 + bt s 2 ≤ s.size) by omega)]; rfl
    rw [if_neg k4]
    have hl : leafF s = 0 := by unfold leafF; rw [if_neg k1, if_neg k2, if_neg k3, if_neg k4]
    rw [if_neg (by omega), hl]; rfl
theorem gemotref1_leaf.calls (a0 : ByteArray) (r : Int) (w : World) (h : gemotref1_leaf.f a0 = some r) :
    Calls Try.prog 214 #[.string a0] w fun e w' => e = .returned (.int .i64 r) ∧ Drawn0 w w' := by
  have hs : 0 < a0.size ∧ a0.size < 9223372036854775808 := by
    unfold gemotref1_leaf.f at h
    split at h
    · assumption
    · cases h
  exact gemotref1_leaf_p.calls 5 a0 r w ((gemotref1_leaf.eq a0 hs).trans h)

end Go.Proofs.Ytppimpadfgldjaa.F
namespace Go.Proofs.Ytppimpadfgldjaa.F
open Go.RowKit Go.Proofs.YtppimpadfgldjaaW.PrintWords Go.Proofs.YtppimpadfgldjaaW.PrintLast Go.Proofs.YtppimpadfgldjaaW.PrintMore
attribute [local go_sem] max2_int min2_int max_two min_two max_three min_three max_four min_four
set_option linter.unusedVariables false
set_option linter.unusedSimpArgs false

/-! ### gemotref1_parts: function 215 -/
/-! #### gemotref1_parts_p: function 215 -/
mutual
def gemotref1_parts_p.j0 : Nat → Int → Bool → Option (Int)
  | 0, _, _ => none
  | k + 1, x3, x4 => if x4 = true then (some 1) else (if x3 = 112 then (gemotref1_parts_p.j1 k x3 (x3 == 112)) else (gemotref1_parts_p.j1 k x3 (x3 == 120)))
def gemotref1_parts_p.j1 : Nat → Int → Bool → Option (Int)
  | 0, _, _ => none
  | k + 1, x3, x7 => if x7 = true then (some 2) else (if x3 = 115 then (some 3) else (some (-1)))
end
def gemotref1_parts_p.f (k : Nat) (a0 : Int) : Option (Int) := if a0 = 107 then (gemotref1_parts_p.j0 k a0 (a0 == 107)) else (gemotref1_parts_p.j0 k a0 (a0 == 104))
theorem gemotref1_parts_p.mono_l : ∀ k, (∀ y0 y1, LeO (gemotref1_parts_p.j0 k y0 y1) (gemotref1_parts_p.j0 (k + 1) y0 y1)) ∧ (∀ y0 y1, LeO (gemotref1_parts_p.j1 k y0 y1) (gemotref1_parts_p.j1 (k + 1) y0 y1))
  | 0 => ⟨fun _ _ r h => by simp [gemotref1_parts_p.j0] at h, fun _ _ r h => by simp [gemotref1_parts_p.j1] at h⟩
  | k + 1 => by
    obtain ⟨ih0, ih1⟩ := gemotref1_parts_p.mono_l k
    refine ⟨?_, ?_⟩
    · intro y0 y1
      unfold gemotref1_parts_p.j0
      repeat' first
      | (with_reducible exact ih0 _ _)
      | (with_reducible exact ih1 _ _)
      | (with_reducible exact LeO.refl _)
      | (with_reducible exact LeO.none _)
      | (with_reducible refine LeO.ite ?_ ?_)
      | (with_reducible refine LeO.bind ?_ (fun _ => ?_))
      | exact ih0 _ _
      | exact ih1 _ _
      | exact LeO.none _
      | refine LeO.ite ?_ ?_
      | refine LeO.bind ?_ (fun _ => ?_)
    · intro y0 y1
      unfold gemotref1_parts_p.j1
      repeat' first
      | (with_reducible exact ih0 _ _)
      | (with_reducible exact ih1 _ _)
      | (with_reducible exact LeO.refl _)
      | (with_reducible exact LeO.none _)
      | (with_reducible refine LeO.ite ?_ ?_)
      | (with_reducible refine LeO.bind ?_ (fun _ => ?_))
      | exact ih0 _ _
      | exact ih1 _ _
      | exact LeO.none _
      | refine LeO.ite ?_ ?_
      | refine LeO.bind ?_ (fun _ => ?_)
theorem gemotref1_parts_p.mono : ∀ a0 k, LeO (gemotref1_parts_p.f k a0) (gemotref1_parts_p.f (k + 1) a0) := by
  intro a0 k
  obtain ⟨ih0, ih1⟩ := gemotref1_parts_p.mono_l k
  unfold gemotref1_parts_p.f
  repeat' first
      | (with_reducible exact ih0 _ _)
      | (with_reducible exact ih1 _ _)
      | (with_reducible exact LeO.refl _)
      | (with_reducible exact LeO.none _)
      | (with_reducible refine LeO.ite ?_ ?_)
      | (with_reducible refine LeO.bind ?_ (fun _ => ?_))
      | exact ih0 _ _
      | exact ih1 _ _
      | exact LeO.none _
      | refine LeO.ite ?_ ?_
      | refine LeO.bind ?_ (fun _ => ?_)
set_option maxHeartbeats 8000000 in
set_option maxRecDepth 100000 in
theorem gemotref1_parts_p.calls (k : Nat) (a0 : Int) (r : Int) (w : World) (h : gemotref1_parts_p.f k a0 = some r) :
    Calls Try.prog 215 #[.int .u8 a0] w fun e w' => e = .returned (.int .i64 r) ∧ Drawn0 w w' := by
  have H : (if a0 = 107 then (gemotref1_parts_p.j0 k a0 (a0 == 107)) else (gemotref1_parts_p.j0 k a0 (a0 == 104))) = some r := h
  clear h
  have HC2 := Aside0.mk H
  clear H
  go_enter Try.func215, Try.ntmps215
  go_upto_if 4 with (fail)
  go_cut [4] (fun v4 wc => ∃ (kq : Nat) (x4_1 : Bool), v4 = .bool x4_1 ∧ Aside0 (gemotref1_parts_p.j0 kq a0 x4_1 = some r) ∧ Aside0 (kq ≤ k) ∧ Drawn0 w wc)
  case first =>
    have H := HC2.out
    clear HC2
    by_cases c3 : a0 = 107
    · rw [if_pos c3] at H
      have c3b0 : (a0 == 107) = true := beq_iff_eq.mpr c3
      have c3b1 : (a0 != 107) = false := bne_eq_false_iff_eq.mpr c3
      clear c3
      (first | rw [c3b0] | (simp only [i64_w, i32_w]; rw [c3b0]) | skip)
      have H' := Aside0.mk H
      clear H
      go_wp2
      go_meet
      case rel => exact ⟨_, ((a0 == 107)), (by first | rfl | (simp; done) | (simp [*]; done)), H', ⟨by first | omega | exact Nat.le_refl _⟩, by repeat (first | exact Drawn0.refl _ | apply Drawn0.step)⟩
    · rw [if_neg c3] at H
      have c3b0 : (a0 == 107) = false := beq_eq_false_iff_ne.mpr c3
      have c3b1 : (a0 != 107) = true := bne_iff_ne.mpr c3
      (first | rw [c3b0] | (simp only [i64_w, i32_w]; rw [c3b0]) | skip)
      have H' := Aside0.mk H
      clear H
      go_wp2
      go_meet
      case rel => exact ⟨_, ((a0 == 104)), (by first | rfl | (simp; done) | (simp [*]; done)), H', ⟨by first | omega | exact Nat.le_refl _⟩, by repeat (first | exact Drawn0.refl _ | apply Drawn0.step)⟩
  case rest =>
    clear HC2
    try clear c2
    try clear p2
    try clear c3
    try clear c3b0
    try clear c3b1
    obtain ⟨kq, x4_1, rfl, HA, HJ1, ⟨mc1, rfl⟩⟩ := hcut
    cases kq with
    | zero => exact absurd HA.out (by simp [gemotref1_parts_p.j0])
    | succ kj1 =>
      have H := HA.out
      clear HA
      simp only [gemotref1_parts_p.j0] at H
      by_cases c4 : x4_1 = true
      · subst c4
        have H1 : (some 1) = some r := by rw [if_pos rfl] at H; exact H
        clear H
        have H := H1
        clear H1
        obtain rfl := Option.some.inj H
        go_wp2
        go_ret
        exact ⟨by first | rfl | (simp; done) | (simp [*]; done), by repeat (first | exact Drawn0.refl _ | apply Drawn0.step)⟩
      · replace c4 := Bool.eq_false_iff.mpr c4
        subst c4
        have H1 : (if a0 = 112 then (gemotref1_parts_p.j1 kj1 a0 (a0 == 112)) else (gemotref1_parts_p.j1 kj1 a0 (a0 == 120))) = some r := by rw [if_neg (show ¬ (false = true) by decide)] at H; exact H
        clear H
        have H := H1
        clear H1
        have HC5 := Aside0.mk H
        clear H
        go_upto_if 7 with (fail)
        go_cut [7] (fun v7 wc => ∃ (kq : Nat) (x7_4 : Bool), v7 = .bool x7_4 ∧ Aside0 (gemotref1_parts_p.j1 kq a0 x7_4 = some r) ∧ Aside0 (kq ≤ kj1) ∧ Drawn0 w wc)
        case first =>
          have H := HC5.out
          clear HC5
          by_cases c6 : a0 = 112
          · rw [if_pos c6] at H
            have c6b0 : (a0 == 112) = true := beq_iff_eq.mpr c6
            have c6b1 : (a0 != 112) = false := bne_eq_false_iff_eq.mpr c6
            clear c6
            (first | rw [c6b0] | (simp only [i64_w, i32_w]; rw [c6b0]) | skip)
            have H' := Aside0.mk H
            clear H
            go_wp2
            go_meet
            case rel => exact ⟨_, ((a0 == 112)), (by first | rfl | (simp; done) | (simp [*]; done)), H', ⟨by have := HJ1.out; first | omega | exact Nat.le_refl _⟩, by repeat (first | exact Drawn0.refl _ | apply Drawn0.step)⟩
          · rw [if_neg c6] at H
            have c6b0 : (a0 == 112) = false := beq_eq_false_iff_ne.mpr c6
            have c6b1 : (a0 != 112) = true := bne_iff_ne.mpr c6
            (first | rw [c6b0] | (simp only [i64_w, i32_w]; rw [c6b0]) | skip)
            have H' := Aside0.mk H
            clear H
            go_wp2
            go_meet
            case rel => exact ⟨_, ((a0 == 120)), (by first | rfl | (simp; done) | (simp [*]; done)), H', ⟨by have := HJ1.out; first | omega | exact Nat.le_refl _⟩, by repeat (first | exact Drawn0.refl _ | apply Drawn0.step)⟩
        case rest =>
          clear HC5
          try clear c1
          try clear c2
          try clear p2
          try clear c3
          try clear c3b0
          try clear c3b1
          try clear c4
          try clear c6
          try clear c6b0
          try clear c6b1
          try clear p2
          obtain ⟨kq, x7_4, rfl, HA, HJ4, ⟨mc4, rfl⟩⟩ := hcut
          cases kq with
          | zero => exact absurd HA.out (by simp [gemotref1_parts_p.j1])
          | succ kj4 =>
            have H := HA.out
            clear HA
            simp only [gemotref1_parts_p.j1] at H
            by_cases c7 : x7_4 = true
            · subst c7
              have H1 : (some 2) = some r := by rw [if_pos rfl] at H; exact H
              clear H
              have H := H1
              clear H1
              obtain rfl := Option.some.inj H
              go_wp2
              go_ret
              exact ⟨by first | rfl | (simp; done) | (simp [*]; done), by repeat (first | exact Drawn0.refl _ | apply Drawn0.step)⟩
            · replace c7 := Bool.eq_false_iff.mpr c7
              subst c7
              have H1 : (if a0 = 115 then (some 3) else (some (-1))) = some r := by rw [if_neg (show ¬ (false = true) by decide)] at H; exact H
              clear H
              have H := H1
              clear H1
              by_cases c8 : a0 = 115
              · rw [if_pos c8] at H
                have c8b0 : (a0 == 115) = true := beq_iff_eq.mpr c8
                have c8b1 : (a0 != 115) = false := bne_eq_false_iff_eq.mpr c8
                clear c8
                obtain rfl := Option.some.inj H
                go_wp2
                go_ret
                exact ⟨by first | rfl | (simp; done) | (simp [*]; done), by repeat (first | exact Drawn0.refl _ | apply Drawn0.step)⟩
              · rw [if_neg c8] at H
                have c8b0 : (a0 == 115) = false := beq_eq_false_iff_ne.mpr c8
                have c8b1 : (a0 != 115) = true := bne_iff_ne.mpr c8
                obtain rfl := Option.some.inj H
                go_wp2
                go_ret
                exact ⟨by first | rfl | (simp; done) | (simp [*]; done), by repeat (first | exact Drawn0.refl _ | apply Drawn0.step)⟩

def refParts (c : Int) : Int := if c = 107 ∨ c = 104 then 1 else if c = 112 ∨ c = 120 then 2 else if c = 115 then 3 else -1
def gemotref1_parts.f (c : Int) : Option Int := some (refParts c)
theorem gemotref1_parts.eq (c : Int) : gemotref1_parts_p.f 5 c = gemotref1_parts.f c := by
  unfold gemotref1_parts_p.f gemotref1_parts.f refParts
  by_cases k1 : c = 107
  · subst k1; rfl
  by_cases k2 : c = 104
  · subst k2; rfl
  by_cases k3 : c = 112
  · subst k3; rfl
  by_cases k4 : c = 120
  · subst k4; rfl
  by_cases k5 : c = 115
  · subst k5; rfl
  have e1 : (c == 104) = false := beq_eq_false_iff_ne.mpr k2
  have e2 : (c == 120) = false := beq_eq_false_iff_ne.mpr k4
  rw [if_neg k1, e1]
  simp only [gemotref1_parts_p.j0, gemotref1_parts_p.j1, Bool.false_eq_true, if_false]
  rw [if_neg k3, e2]
  simp only [Bool.false_eq_true, if_false]
  rw [if_neg k5, if_neg (by omega), if_neg (by omega), if_neg k5]
theorem gemotref1_parts.calls (a0 : Int) (r : Int) (w : World) (h : gemotref1_parts.f a0 = some r) :
    Calls Try.prog 215 #[.int .u8 a0] w fun e w' => e = .returned (.int .i64 r) ∧ Drawn0 w w' :=
  gemotref1_parts_p.calls 5 a0 r w ((gemotref1_parts.eq a0).trans h)

end Go.Proofs.Ytppimpadfgldjaa.F
namespace Go.Proofs.Ytppimpadfgldjaa.F
open Go.RowKit Go.Proofs.YtppimpadfgldjaaW.PrintWords Go.Proofs.YtppimpadfgldjaaW.PrintLast Go.Proofs.YtppimpadfgldjaaW.PrintMore
attribute [local go_sem] max2_int min2_int max_two min_two max_three min_three max_four min_four
set_option linter.unusedVariables false
set_option linter.unusedSimpArgs false

/-! ### gemotref1_eight: function 157 -/
/-! #### gemotref1_eight_p: function 157 -/
def gemotref1_eight_p.l0 : Nat → Int → List Int → Int → Option (ByteArray)
  | 0, _, _, _ => none
  | k + 1, x0, x3, x4 => if x4 < 8 then (if 0 ≤ (wrap64 (8 * x4)) then (if 0 ≤ (wrap64 (7 - x4)) then (if (wrap64 (7 - x4)) < (x3.length : Int) then (gemotref1_eight_p.l0 k x0 (x3.set ((wrap64 (7 - x4)) : Int).toNat ((shr .u64 x0 (wrap64 (8 * x4))) % 256)) (wrap64 (x4 + 1))) else (none)) else (none)) else (none)) else (some (strOfNums x3))
def gemotref1_eight_p.f (k : Nat) (a0 : Int) : Option (ByteArray) := if 8 ≤ 281474976710656 then (gemotref1_eight_p.l0 k a0 (List.replicate 8 0) 0) else (none)
theorem gemotref1_eight_p.mono_l : ∀ k, (∀ y0 y1 y2, LeO (gemotref1_eight_p.l0 k y0 y1 y2) (gemotref1_eight_p.l0 (k + 1) y0 y1 y2))
  | 0 => fun _ _ _ r h => by simp [gemotref1_eight_p.l0] at h
  | k + 1 => by
    have ih0 := gemotref1_eight_p.mono_l k
    · intro y0 y1 y2
      unfold gemotref1_eight_p.l0
      repeat' first
      | (with_reducible exact ih0 _ _ _)
      | (with_reducible exact LeO.refl _)
      | (with_reducible exact LeO.none _)
      | (with_reducible refine LeO.ite ?_ ?_)
      | (with_reducible refine LeO.bind ?_ (fun _ => ?_))
      | exact ih0 _ _ _
      | exact LeO.none _
      | refine LeO.ite ?_ ?_
      | refine LeO.bind ?_ (fun _ => ?_)
theorem gemotref1_eight_p.mono : ∀ a0 k, LeO (gemotref1_eight_p.f k a0) (gemotref1_eight_p.f (k + 1) a0) := by
  intro a0 k
  have ih0 := gemotref1_eight_p.mono_l k
  unfold gemotref1_eight_p.f
  repeat' first
      | (with_reducible exact ih0 _ _ _)
      | (with_reducible exact LeO.refl _)
      | (with_reducible exact LeO.none _)
      | (with_reducible refine LeO.ite ?_ ?_)
      | (with_reducible refine LeO.bind ?_ (fun _ => ?_))
      | exact ih0 _ _ _
      | exact LeO.none _
      | refine LeO.ite ?_ ?_
      | refine LeO.bind ?_ (fun _ => ?_)
set_option maxHeartbeats 8000000 in
set_option maxRecDepth 100000 in
theorem gemotref1_eight_p.calls (k : Nat) (a0 : Int) (r : ByteArray) (w : World) (h : gemotref1_eight_p.f k a0 = some r) :
    Calls Try.prog 157 #[.int .u64 a0] w fun e w' => e = .returned (.string r) ∧ Below w.heap.size w w' := by
  have HB := Aside0.mk (Below.refl w.heap.size w)
  have H : (if 8 ≤ 281474976710656 then (gemotref1_eight_p.l0 k a0 (List.replicate 8 0) 0) else (none)) = some r := h
  clear h
  by_cases c2 : 8 ≤ 281474976710656
  · rw [if_pos c2] at H
    have c2b0 := eq_true c2
    have c2b1 : decide (8 ≤ 281474976710656) = true := decide_eq_true c2
    clear c2
    obtain ⟨y1001, hy1001⟩ : ∃ y_ : List Int, y_ = (List.replicate 8 0) := ⟨_, rfl⟩
    replace H : (gemotref1_eight_p.l0 k a0 y1001 0) = some r := by first | (rw [hy1001]; with_reducible exact H) | (have H2_ := (Option.bind_some _ _).symm.trans H; rw [hy1001]; with_reducible exact H2_) | (have H2_ := (Option.bind_some _ _).symm.trans H; with_reducible exact H2_) | with_reducible exact H | (rw [hy1001]; exact H) | exact H
    have Ny1001 := Aside0.mk hy1001
    clear hy1001
    have H' := Aside0.mk H
    clear H
    go_enter Try.func157, Try.ntmps157
    go_wp2_with (first | ((with_reducible refine gate_dst (N := 5) rfl ?_); refine Kd.R_make (Kd.int .u8) _ 5 rfl (N := 5) rfl 171 _ _ rfl 8 rfl rfl Try.underlying171 (.int .u8 0) 1 info5 rfl (by decide) (by omega) 0 (ok := fun _ => True) (okp := fun _ => True) rfl (fun _ hk => hk) trivial (by omega) (by omega) (Below.refl _ _) (Nat.le_refl _) ?_; intro v1002 w3 ho4 hb hg_ hnew_; clear hg_ hnew_; (first | rw [← Ny1001.out] at ho4 | (simp only [Int.reduceToNat] at ho4; rw [← Ny1001.out] at ho4)); have n0_ := Aside0.mk (Kd.R_lower ho4 (below_size (by repeat with_reducible first | exact HB.out | apply below_alloc | apply pw_below_drewN | apply below_drew1))); have n1_ := Aside0.mk (below_step (by repeat with_reducible first | exact HB.out | apply below_alloc | apply pw_below_drewN | apply below_drew1) hb); clear HB; have HO1003 := n0_; have HB := n1_; clear n0_ n1_; clear hb ho4))
    go_loopg [4] k (fun kq v4 w' => ∃ (x3_1 : List Int) (x4_1 : Int), v4 = .int .i64 x4_1 ∧ Aside0 (gemotref1_eight_p.l0 kq a0 x3_1 x4_1 = some r) ∧ Aside0 (kq ≤ k) ∧ Aside0 (Kd.R (Kd.int .u8) 5 w' w.heap.size (fun _ => True) v1002 x3_1) ∧ Aside0 (Below w.heap.size w w'))
    case atStart => exact ⟨(y1001), (0), (by first | rfl | (simp; done) | (simp [*]; done)), H', ⟨Nat.le_refl _⟩, ⟨by (with_reducible repeat (first | apply Kd.R_alloc | apply Kd.R_drewN | apply Kd.R_drew)); exact HO1003.out⟩, ⟨by repeat (first | (with_reducible first | exact HB.out | apply below_alloc | apply pw_below_drewN | apply below_drew1) | exact HB.out)⟩⟩
    case round =>
      clear H'
      try clear c1
      try clear c2
      try clear c2b0
      try clear c2b1
      try clear p2
      obtain ⟨x3_1, x4_1, rfl, HA, HK1, HO_3, HB⟩ := hrel
      cases gk with
      | zero => exact absurd HA.out (by simp [gemotref1_eight_p.l0])
      | succ k1 =>
        have H := HA.out
        clear HA
        simp only [gemotref1_eight_p.l0] at H
        by_cases c5 : x4_1 < 8
        · rw [if_pos c5] at H
          have c5b0 : decide (x4_1 < 8) = true := decide_eq_true c5
          clear c5
          obtain ⟨ji6, hji6⟩ : ∃ j_ : Int, (wrap64 (8 * x4_1)) = j_ := ⟨_, rfl⟩
          replace H : (if 0 ≤ (ji6) then (if 0 ≤ (wrap64 (7 - x4_1)) then (if (wrap64 (7 - x4_1)) < (x3_1.length : Int) then (gemotref1_eight_p.l0 k1 a0 (x3_1.set ((wrap64 (7 - x4_1)) : Int).toNat ((shr .u64 a0 (ji6)) % 256)) (wrap64 (x4_1 + 1))) else (none)) else (none)) else (none)) = some r := by first | (rw [hji6] at H; exact H) | (simp only [hji6] at H ⊢; exact H)
          have hji6w : (IntKind.i64.wrap (8 * x4_1)) = ji6 := (i64_w _).trans hji6
          by_cases c7 : 0 ≤ (ji6)
          · rw [if_pos c7] at H
            have c7b0 := eq_true c7
            have c7b1 : decide (0 ≤ (ji6)) = true := decide_eq_true c7
            clear c7
            obtain ⟨ji8, hji8⟩ : ∃ j_ : Int, (shr .u64 a0 (ji6)) = j_ := ⟨_, rfl⟩
            replace H : (if 0 ≤ (wrap64 (7 - x4_1)) then (if (wrap64 (7 - x4_1)) < (x3_1.length : Int) then (gemotref1_eight_p.l0 k1 a0 (x3_1.set ((wrap64 (7 - x4_1)) : Int).toNat ((ji8) % 256)) (wrap64 (x4_1 + 1))) else (none)) else (none)) = some r := by first | (rw [hji8] at H; exact H) | (simp only [hji8] at H ⊢; exact H)
            have hji8_ : (a0 / 2 ^ min (ji6).toNat 64) = ji8 := hji8
            have hji8z : (ji6) ≤ 64 → (a0 / 2 ^ (ji6).toNat) = ji8 := shr_small hji8
            obtain ⟨ji9, hji9⟩ : ∃ j_ : Int, (wrap64 (7 - x4_1)) = j_ := ⟨_, rfl⟩
            replace H : (if 0 ≤ (ji9) then (if (ji9) < (x3_1.length : Int) then (gemotref1_eight_p.l0 k1 a0 (x3_1.set ((ji9) : Int).toNat ((ji8) % 256)) (wrap64 (x4_1 + 1))) else (none)) else (none)) = some r := by first | (rw [hji9] at H; exact H) | (simp only [hji9] at H ⊢; exact H)
            have hji9w : (IntKind.i64.wrap (7 - x4_1)) = ji9 := (i64_w _).trans hji9
            by_cases c10 : 0 ≤ (ji9)
            · rw [if_pos c10] at H
              have c10b0 : decide (0 ≤ (ji9)) = true := decide_eq_true c10
              clear c10
              by_cases c11 : (ji9) < (x3_1.length : Int)
              · rw [if_pos c11] at H
                have c11b0 : decide ((ji9) < (x3_1.length : Int)) = true := decide_eq_true c11
                clear c11
                obtain ⟨y1004, hy1004⟩ : ∃ y_ : List Int, y_ = (x3_1.set ((ji9) : Int).toNat ((ji8) % 256)) := ⟨_, rfl⟩
                replace H : (gemotref1_eight_p.l0 k1 a0 y1004 (wrap64 (x4_1 + 1))) = some r := by first | (rw [hy1004]; with_reducible exact H) | (have H2_ := (Option.bind_some _ _).symm.trans H; rw [hy1004]; with_reducible exact H2_) | (have H2_ := (Option.bind_some _ _).symm.trans H; with_reducible exact H2_) | with_reducible exact H | (rw [hy1004]; exact H) | exact H
                have Ny1004 := Aside0.mk hy1004
                clear hy1004
                have H' := Aside0.mk H
                clear H
                have p12 : 0 ≤ ((ji9) : Int) := of_decide_eq_true (by first | (with_reducible assumption) | assumption)
                have q12 : ((ji9) : Int) < ((x3_1.length : Int) : Int) := of_decide_eq_true (by first | (with_reducible assumption) | assumption)
                obtain ⟨go12, co12, eo12, gb12, gl12, cl12, HG12⟩ := Kd.R_form HO_3.out (by omega)
                (first | cases eo12 | (injection eo12 with ea_ en_ ec_; (first | subst ea_ | (injection ea_ with ea_; subst ea_)); subst ec_; clear en_))
                have GB12 := Aside0.mk gb12
                have GG12 := Aside0.mk HG12
                clear gb12 gl12 HG12
                obtain ⟨hx12_0, hf12_0⟩ := Kd.R_celln 0 HO_3.out ((ji9) : Int) p12 q12
                replace p12 := eq_true p12
                replace q12 := eq_true q12
                have HP13 := Kd.R_putg HO_3.out ((ji9) : Int) ((ji8) % 256)
                go_wp2_with (first | ((with_reducible refine gate_store (t := 5) (p := 18) rfl ?_); refine store_event (t := 5) (p := 18) (v := ?vo_w14) (w1 := (wr.setCell ⟨go12, ((ji9) : Int).toNat, none⟩ (.int .u8 ((ji8) % 256)))) ?hg ?ho ?hn ?hr ?_; (case ho => rfl); (case hg => rfl); (case hn => rfl); (case hr => first | (go_simp; done) | (go_simp; rfl)); intro w14 hw; have hg : wr.grownBy w14 (some go12) := (by rw [hw]; exact HP13.2); have hp_ : Kd.R (Kd.int .u8) 5 w14 w.heap.size (fun _ => True) (.slice (some ⟨go12, 0, none⟩) x3_1.length co12) y1004 := (by rw [hw, Ny1004.out]; exact HP13.1); clear HP13; have n0_ := Aside0.mk (hp_); have n1_ := Aside0.mk ((by rw [hw]; exact below_set (HB.out) GB12.out : Below w.heap.size w w14)); clear HO_3; clear HB; have HO_3 := n0_; have HB := n1_; clear n0_ n1_; clear hg hw hp_))
                go_roundg k1
                case measure => have := HK1.out; omega
                case rel => exact ⟨(y1004), (wrap64 (x4_1 + 1)), (by first | rfl | (simp; done) | (simp [*]; done)), H', ⟨by have := HK1.out; omega⟩, ⟨by (with_reducible repeat (first | apply Kd.R_alloc | apply Kd.R_drewN | apply Kd.R_drew)); exact HO_3.out⟩, ⟨by repeat (first | (with_reducible first | exact HB.out | apply below_alloc | apply pw_below_drewN | apply below_drew1) | exact HB.out)⟩⟩
              · rw [if_neg c11] at H
                exact absurd H (by simp)
            · rw [if_neg c10] at H
              exact absurd H (by simp)
          · rw [if_neg c7] at H
            exact absurd H (by simp)
        · rw [if_neg c5] at H
          have c5b0 : decide (x4_1 < 8) = false := decide_eq_false c5
          clear c5
          obtain rfl := Option.some.inj H
          have hcv15 := own_string (P := Try.prog) Try.underlying171 Try.underlying5 Try.underlying9 (Kd.own_of_R HO_3.out)
          go_wp2
          go_ret
          exact ⟨by first | rfl | (simp [errW_none, errW_some] <;> rfl) | (simp [*, errW_none, errW_some] <;> rfl), by repeat (first | (with_reducible first | exact HB.out | apply below_alloc | apply pw_below_drewN | apply below_drew1) | exact HB.out)⟩
  · rw [if_neg c2] at H
    exact absurd H (by simp)

def gemotref1_eight.f (n : Int) : Option ByteArray := some (strOfNums (eightL n))
theorem gemotref1_eight.eq (n : Int) : gemotref1_eight_p.f 10 n = gemotref1_eight.f n := by
  simp [gemotref1_eight_p.f, gemotref1_eight_p.l0, gemotref1_eight.f, eightL, wrap64, List.replicate]
theorem gemotref1_eight.calls (a0 : Int) (r : ByteArray) (w : World) (h : gemotref1_eight.f a0 = some r) :
    Calls Try.prog 157 #[.int .u64 a0] w fun e w' => e = .returned (.string r) ∧ Below w.heap.size w w' :=
  gemotref1_eight_p.calls 10 a0 r w ((gemotref1_eight.eq a0).trans h)

end Go.Proofs.Ytppimpadfgldjaa.F
namespace Go.Proofs.Ytppimpadfgldjaa.F
open Go.RowKit Go.Proofs.YtppimpadfgldjaaW.PrintWords Go.Proofs.YtppimpadfgldjaaW.PrintLast Go.Proofs.YtppimpadfgldjaaW.PrintMore
attribute [local go_sem] max2_int min2_int max_two min_two max_three min_three max_four min_four
set_option linter.unusedVariables false
set_option linter.unusedSimpArgs false

/-! ### gemotref1_Number: function 110 -/
/-! #### gemotref1_Number_p: function 110 -/
def gemotref1_Number_p.f (a0 : Int) : Option (ByteArray) := (gemotref1_eight.f a0).bind fun t1001 => (if 1 + t1001.size ≤ 9223372036854775807 then (some ((⟨#[117]⟩ : ByteArray) ++ t1001)) else (none))
set_option maxHeartbeats 8000000 in
set_option maxRecDepth 100000 in
theorem gemotref1_Number_p.calls (a0 : Int) (r : ByteArray) (w : World) (h : gemotref1_Number_p.f a0 = some r) :
    Calls Try.prog 110 #[.int .u64 a0] w fun e w' => e = .returned (.string r) ∧ Below w.heap.size w w' := by
  have HB := Aside0.mk (Below.refl w.heap.size w)
  have H : ((gemotref1_eight.f a0).bind fun t1001 => (if 1 + t1001.size ≤ 9223372036854775807 then (some ((⟨#[117]⟩ : ByteArray) ++ t1001)) else (none))) = some r := h
  clear h
  replace H := Option.bind_eq_some_iff.mp H
  obtain ⟨t1001, A20, H⟩ := H
  replace H : (if 1 + t1001.size ≤ 9223372036854775807 then (some ((⟨#[117]⟩ : ByteArray) ++ t1001)) else (none)) = some r := H
  have A2 := Aside0.mk A20
  clear A20
  by_cases c3 : 1 + t1001.size ≤ 9223372036854775807
  · rw [if_pos c3] at H
    have c3b0 := eq_true c3
    have c3b1 : decide (1 + t1001.size ≤ 9223372036854775807) = true := decide_eq_true c3
    try have c3b2 : (9223372036854775807 < 1 + t1001.size) = False := eq_false (Nat.not_lt.2 c3)
    obtain rfl := Option.some.inj H
    go_enter Try.func110, Try.ntmps110
    go_wp2_with (first | ((with_reducible refine gate_callee (f := 157) rfl ?_); refine goesL_ (some 4) rfl rfl Try.func157 (by kernel_rfl) rfl #[.int .u64 a0] rfl (by simp only [List.map_toArray, List.map_cons, List.map_nil] <;> rfl) ?_; (with_reducible refine (gemotref1_eight.calls a0 t1001 _ A2.out).mono ?_); rintro e w4 ⟨rfl, hb⟩; refine ⟨_, rfl, ?_⟩; have n0_ := Aside0.mk (below_step (by repeat with_reducible first | exact HB.out | apply below_alloc | apply pw_below_drewN | apply below_drew1) hb); clear HB; have HB := n0_; clear n0_; (try clear hb)))
    go_ret
    exact ⟨by first | rfl | (simp [errW_none, errW_some] <;> rfl) | (simp [*, errW_none, errW_some] <;> rfl), by repeat (first | (with_reducible first | exact HB.out | apply below_alloc | apply pw_below_drewN | apply below_drew1) | exact HB.out)⟩
  · rw [if_neg c3] at H
    exact absurd H (by simp)

def gemotref1_Number.f (n : Int) : Option ByteArray := some (numF n)
theorem gemotref1_Number.eq (n : Int) : gemotref1_Number_p.f n = gemotref1_Number.f n := by
  unfold gemotref1_Number_p.f gemotref1_eight.f gemotref1_Number.f
  simp only [Option.bind_some]
  rw [if_pos (by show 1 + 8 ≤ _; omega)]
  congr 1
theorem gemotref1_Number.calls (a0 : Int) (r : ByteArray) (w : World) (h : gemotref1_Number.f a0 = some r) :
    Calls Try.prog 110 #[.int .u64 a0] w fun e w' => e = .returned (.string r) ∧ Below w.heap.size w w' :=
  gemotref1_Number_p.calls a0 r w ((gemotref1_Number.eq a0).trans h)

end Go.Proofs.Ytppimpadfgldjaa.F
namespace Go.Proofs.Ytppimpadfgldjaa.F
open Go.RowKit Go.Proofs.YtppimpadfgldjaaW.PrintWords Go.Proofs.YtppimpadfgldjaaW.PrintLast Go.Proofs.YtppimpadfgldjaaW.PrintMore
attribute [local go_sem] max2_int min2_int max_two min_two max_three min_three max_four min_four
set_option linter.unusedVariables false
set_option linter.unusedSimpArgs false

/-! ### gemotref1_Private: function 153 -/
/-! #### gemotref1_Private_p: function 153 -/
def gemotref1_Private_p.f (a0 : Int) : Option (ByteArray × Int) := if a0 < 1 then (some ((⟨#[]⟩ : ByteArray), 1)) else (if a0 > 8 then (some ((⟨#[]⟩ : ByteArray), 1)) else ((some (([(a0) % 256] : List Int) : List Int)).bind fun y1001 => (if 1 + (strOfNums y1001).size ≤ 9223372036854775807 then (some ((⟨#[105]⟩ : ByteArray) ++ (strOfNums y1001), 0)) else (none))))
set_option maxHeartbeats 8000000 in
set_option maxRecDepth 100000 in
theorem gemotref1_Private_p.calls (a0 : Int) (r1 : ByteArray) (r2 : Int) (w : World) (h : gemotref1_Private_p.f a0 = some (r1, r2)) :
    Calls Try.prog 153 #[.int .i64 a0] w fun e w' => e = .returned (.tuple #[.string r1, .int .i64 r2]) ∧ Below w.heap.size w w' := by
  have HB := Aside0.mk (Below.refl w.heap.size w)
  have H : (if a0 < 1 then (some ((⟨#[]⟩ : ByteArray), 1)) else (if a0 > 8 then (some ((⟨#[]⟩ : ByteArray), 1)) else ((some (([(a0) % 256] : List Int) : List Int)).bind fun y1001 => (if 1 + (strOfNums y1001).size ≤ 9223372036854775807 then (some ((⟨#[105]⟩ : ByteArray) ++ (strOfNums y1001), 0)) else (none))))) = some (r1, r2) := h
  clear h
  by_cases c2 : a0 < 1
  · rw [if_pos c2] at H
    have c2b0 : decide (a0 < 1) = true := decide_eq_true c2
    clear c2
    simp only [Option.some.injEq, Prod.mk.injEq] at H
    obtain ⟨rfl, rfl⟩ := H
    go_enter Try.func153, Try.ntmps153
    go_wp2
    go_ret2
    exact ⟨by first | rfl | (simp [errW_none, errW_some] <;> rfl) | (simp [*, errW_none, errW_some] <;> rfl), by repeat (first | (with_reducible first | exact HB.out | apply below_alloc | apply pw_below_drewN | apply below_drew1) | exact HB.out)⟩
  · rw [if_neg c2] at H
    have c2b0 : decide (a0 < 1) = false := decide_eq_false c2
    clear c2
    by_cases c3 : a0 > 8
    · rw [if_pos c3] at H
      have c3b0 : decide (8 < a0) = true := decide_eq_true c3
      clear c3
      simp only [Option.some.injEq, Prod.mk.injEq] at H
      obtain ⟨rfl, rfl⟩ := H
      go_enter Try.func153, Try.ntmps153
      go_wp2
      go_ret2
      exact ⟨by first | rfl | (simp [errW_none, errW_some] <;> rfl) | (simp [*, errW_none, errW_some] <;> rfl), by repeat (first | (with_reducible first | exact HB.out | apply below_alloc | apply pw_below_drewN | apply below_drew1) | exact HB.out)⟩
    · rw [if_neg c3] at H
      have c3b0 : decide (8 < a0) = false := decide_eq_false c3
      clear c3
      obtain ⟨y1001, hy1001⟩ : ∃ y_ : List Int, y_ = (([(a0) % 256] : List Int)) := ⟨_, rfl⟩
      replace H : (if 1 + (strOfNums y1001).size ≤ 9223372036854775807 then (some ((⟨#[105]⟩ : ByteArray) ++ (strOfNums y1001), 0)) else (none)) = some (r1, r2) := by first | (rw [hy1001]; with_reducible exact H) | (have H2_ := (Option.bind_some _ _).symm.trans H; rw [hy1001]; with_reducible exact H2_) | (have H2_ := (Option.bind_some _ _).symm.trans H; with_reducible exact H2_) | with_reducible exact H | (rw [hy1001]; exact H) | exact H
      have Ny1001 := Aside0.mk hy1001
      clear hy1001
      by_cases c4 : 1 + (strOfNums y1001).size ≤ 9223372036854775807
      · rw [if_pos c4] at H
        have c4b0 := eq_true c4
        have c4b1 : decide (1 + (strOfNums y1001).size ≤ 9223372036854775807) = true := decide_eq_true c4
        try have c4b2 : (9223372036854775807 < 1 + (strOfNums y1001).size) = False := eq_false (Nat.not_lt.2 c4)
        simp only [Option.some.injEq, Prod.mk.injEq] at H
        obtain ⟨rfl, rfl⟩ := H
        go_enter Try.func153, Try.ntmps153
        go_wp2_with (first | ((with_reducible refine gate_dst (N := 13) rfl ?_); refine Kd.R_lit (Kd.int .u8) _ 5 ?hg (N := 13) ?hd (xs := ([(a0) % 256] : List Int)) (inner := [.int .u8 ((a0) % 256)]) (ok := fun _ => True) (okp := fun _ => True) ?hr ?hp (fun _ hk => hk) trivial (Below.refl _ _) (Nat.le_refl _) (by simp) ?_; (case hd => rfl); (case hg => rfl); (case hr => first | (go_simp; done) | (go_simp; rfl)); (case hp => exact (Reps.one (show Kd.M (Kd.int .u8) _ _ _ ((a0) % 256) [.int .u8 ((a0) % 256)] from rfl) (Reps.none _ _))); intro v1002 w5 ho6 hb hg_ hnew_; clear hg_ hnew_; (first | rw [← Ny1001.out] at ho6 | (simp only [Int.reduceToNat] at ho6; rw [← Ny1001.out] at ho6)); have n0_ := Aside0.mk (Kd.R_lower ho6 (below_size (by repeat with_reducible first | exact HB.out | apply below_alloc | apply pw_below_drewN | apply below_drew1))); have n1_ := Aside0.mk (below_step (by repeat with_reducible first | exact HB.out | apply below_alloc | apply pw_below_drewN | apply below_drew1) hb); clear HB; have HO1003 := n0_; have HB := n1_; clear n0_ n1_; clear hb ho6; have hcv7 := own_string (P := Try.prog) Try.underlying171 Try.underlying5 Try.underlying9 (Kd.own_of_R HO1003.out)))
        go_ret2
        exact ⟨by first | rfl | (simp [errW_none, errW_some] <;> rfl) | (simp [*, errW_none, errW_some] <;> rfl), by repeat (first | (with_reducible first | exact HB.out | apply below_alloc | apply pw_below_drewN | apply below_drew1) | exact HB.out)⟩
      · rw [if_neg c4] at H
        exact absurd H (by simp)

def gemotref1_Private.f (p : Int) : Option (ByteArray × Int) := some (privF p)
theorem gemotref1_Private.eq (p : Int) : gemotref1_Private_p.f p = gemotref1_Private.f p := by
  unfold gemotref1_Private_p.f gemotref1_Private.f privF
  by_cases c : p < 1
  · rw [if_pos c, if_neg (by omega)]
  · rw [if_neg c]
    by_cases d : p > 8
    · rw [if_pos d, if_neg (by omega)]
    · rw [if_neg d, if_pos (by omega), show p % 256 = p by omega]
      simp only [Option.bind_some]
      rw [if_pos (by show 1 + 1 ≤ _; omega)]
      congr 2
theorem gemotref1_Private.calls (a0 : Int) (r1 : ByteArray) (r2 : Int) (w : World) (h : gemotref1_Private.f a0 = some (r1, r2)) :
    Calls Try.prog 153 #[.int .i64 a0] w fun e w' => e = .returned (.tuple #[.string r1, .int .i64 r2]) ∧ Below w.heap.size w w' :=
  gemotref1_Private_p.calls a0 r1 r2 w ((gemotref1_Private.eq a0).trans h)

end Go.Proofs.Ytppimpadfgldjaa.F
namespace Go.Proofs.Ytppimpadfgldjaa.F
open Go.RowKit Go.Proofs.YtppimpadfgldjaaW.PrintWords Go.Proofs.YtppimpadfgldjaaW.PrintLast Go.Proofs.YtppimpadfgldjaaW.PrintMore
attribute [local go_sem] max2_int min2_int max_two min_two max_three min_three max_four min_four
set_option linter.unusedVariables false
set_option linter.unusedSimpArgs false

/-! ### gemotref1_End: function 180 -/
/-! #### gemotref1_End_p: function 180 -/
mutual
def gemotref1_End_p.j0 : Nat → ByteArray → Int → Int → Int → Int → Option (Int × Int)
  | 0, _, _, _, _, _ => none
  | k + 1, x0, x1, x2, x9, x10 => if x9 < 0 then (gemotref1_End_p.j1 k x0 x1 x2 x9 x10 true) else (if 0 ≤ x1 then (if x1 < (x0.size : Int) then (if (bt x0 x1) = 107 then (if x10 ≥ (x0.size : Int) then (gemotref1_End_p.j1 k x0 x1 x2 x9 x10 true) else (if 0 ≤ x10 then (if x10 < (x0.size : Int) then (if (bt x0 x10) = 103 then (gemotref1_End_p.j1 k x0 x1 x2 x9 x10 false) else (gemotref1_End_p.j1 k x0 x1 x2 x9 x10 ((bt x0 x10) != 101))) else (none)) else (none))) else (gemotref1_End_p.j1 k x0 x1 x2 x9 x10 false)) else (none)) else (none))
def gemotref1_End_p.j1 : Nat → ByteArray → Int → Int → Int → Int → Bool → Option (Int × Int)
  | 0, _, _, _, _, _, _ => none
  | k + 1, x0, x1, x2, x9, x10, x88 => if x88 = true then (some ((-1), 0)) else (gemotref1_End_p.l0 k x0 x1 x2 x9 x10 0 (⟨#[]⟩ : ByteArray) 0)
def gemotref1_End_p.l0 : Nat → ByteArray → Int → Int → Int → Int → Int → ByteArray → Int → Option (Int × Int)
  | 0, _, _, _, _, _, _, _, _ => none
  | k + 1, x0, x1, x2, x9, x10, x11, x12, x13 => if x13 < x9 then ((gemotref1_End_p.f k x0 x10 (wrap64 (x2 - 1))).bind fun bt1003 => (if bt1003.1 < 0 then (some (bt1003.1, 0)) else (if 0 ≤ x1 then (if x1 < (x0.size : Int) then (if (bt x0 x1) = 101 then (if 0 ≤ x10 then (if x10 ≤ bt1003.1 then (if bt1003.1 ≤ (x0.size : Int) then (if (Op.bytesLess ((x0.extract (x10 : Int).toNat (bt1003.1 : Int).toNat).toList) x12.toList) = true then (some ((-1), 0)) else (gemotref1_End_p.l0 k x0 x1 x2 x9 bt1003.1 (mx x11 bt1003.2) (x0.extract (x10 : Int).toNat (bt1003.1 : Int).toNat) (wrap64 (x13 + 1)))) else (none)) else (none)) else (none)) else (if 0 ≤ x10 then (if x10 ≤ bt1003.1 then (if bt1003.1 ≤ (x0.size : Int) then (gemotref1_End_p.l0 k x0 x1 x2 x9 bt1003.1 (mx x11 bt1003.2) (x0.extract (x10 : Int).toNat (bt1003.1 : Int).toNat) (wrap64 (x13 + 1))) else (none)) else (none)) else (none))) else (none)) else (none)))) else (some (x10, wrap64 (x11 + 1)))
def gemotref1_End_p.f : Nat → ByteArray → Int → Int → Option (Int × Int)
  | 0, _, _, _ => none
  | k + 1, a0, a1, a2 => if a2 = 0 then (some ((-2), 0)) else (if a1 ≥ (a0.size : Int) then (some ((-1), 0)) else (if 0 ≤ a1 then (if a1 ≤ (a0.size : Int) then ((gemotref1_leaf.f (a0.extract (a1 : Int).toNat a0.size)).bind fun t1001 => (if t1001 > 0 then (some (wrap64 (a1 + t1001), 1)) else (if a1 < (a0.size : Int) then ((gemotref1_parts.f (bt a0 a1)).bind fun t1002 => (if (bt a0 a1) = 101 then (if (wrap64 (a1 + 1)) ≥ (a0.size : Int) then (some ((-1), 0)) else (if 0 ≤ (wrap64 (a1 + 1)) then (if (wrap64 (a1 + 1)) < (a0.size : Int) then (if (bt a0 (wrap64 (a1 + 1))) < 1 then (some ((-1), 0)) else (if (bt a0 (wrap64 (a1 + 1))) > 32 then (some ((-1), 0)) else (gemotref1_End_p.j0 k a0 a1 a2 (wrap64 (bt a0 (wrap64 (a1 + 1)))) (wrap64 ((wrap64 (a1 + 1)) + 1))))) else (none)) else (none))) else (gemotref1_End_p.j0 k a0 a1 a2 t1002 (wrap64 (a1 + 1))))) else (none)))) else (none)) else (none)))
end
theorem gemotref1_End_p.mono_l : ∀ k, (∀ y0 y1 y2, LeO (gemotref1_End_p.f k y0 y1 y2) (gemotref1_End_p.f (k + 1) y0 y1 y2)) ∧ (∀ y0 y1 y2 y3 y4, LeO (gemotref1_End_p.j0 k y0 y1 y2 y3 y4) (gemotref1_End_p.j0 (k + 1) y0 y1 y2 y3 y4)) ∧ (∀ y0 y1 y2 y3 y4 y5, LeO (gemotref1_End_p.j1 k y0 y1 y2 y3 y4 y5) (gemotref1_End_p.j1 (k + 1) y0 y1 y2 y3 y4 y5)) ∧ (∀ y0 y1 y2 y3 y4 y5 y6 y7, LeO (gemotref1_End_p.l0 k y0 y1 y2 y3 y4 y5 y6 y7) (gemotref1_End_p.l0 (k + 1) y0 y1 y2 y3 y4 y5 y6 y7))
  | 0 => ⟨fun _ _ _ r h => by simp [gemotref1_End_p.f] at h, fun _ _ _ _ _ r h => by simp [gemotref1_End_p.j0] at h, fun _ _ _ _ _ _ r h => by simp [gemotref1_End_p.j1] at h, fun _ _ _ _ _ _ _ _ r h => by simp [gemotref1_End_p.l0] at h⟩
  | k + 1 => by
    obtain ⟨ih0, ih1, ih2, ih3⟩ := gemotref1_End_p.mono_l k; refine ⟨?_, ?_, ?_, ?_⟩
    · intro y0 y1 y2; unfold gemotref1_End_p.f
      repeat' first
      | (with_reducible exact ih0 _ _ _)
      | (with_reducible exact ih1 _ _ _ _ _)
      | (with_reducible exact ih2 _ _ _ _ _ _)
      | (with_reducible exact ih3 _ _ _ _ _ _ _ _)
      | (with_reducible exact LeO.refl _)
      | (with_reducible exact LeO.none _)
      | (with_reducible refine LeO.ite ?_ ?_)
      | (with_reducible refine LeO.bind ?_ (fun _ => ?_))
      | exact ih0 _ _ _
      | exact ih1 _ _ _ _ _
      | exact ih2 _ _ _ _ _ _
      | exact ih3 _ _ _ _ _ _ _ _
      | exact LeO.none _
      | refine LeO.ite ?_ ?_
      | refine LeO.bind ?_ (fun _ => ?_)
    · intro y0 y1 y2 y3 y4; unfold gemotref1_End_p.j0
      repeat' first
      | (with_reducible exact ih0 _ _ _)
      | (with_reducible exact ih1 _ _ _ _ _)
      | (with_reducible exact ih2 _ _ _ _ _ _)
      | (with_reducible exact ih3 _ _ _ _ _ _ _ _)
      | (with_reducible exact LeO.refl _)
      | (with_reducible exact LeO.none _)
      | (with_reducible refine LeO.ite ?_ ?_)
      | (with_reducible refine LeO.bind ?_ (fun _ => ?_))
      | exact ih0 _ _ _
      | exact ih1 _ _ _ _ _
      | exact ih2 _ _ _ _ _ _
      | exact ih3 _ _ _ _ _ _ _ _
      | exact LeO.none _
      | refine LeO.ite ?_ ?_
      | refine LeO.bind ?_ (fun _ => ?_)
    · intro y0 y1 y2 y3 y4 y5; unfold gemotref1_End_p.j1
      repeat' first
      | (with_reducible exact ih0 _ _ _)
      | (with_reducible exact ih1 _ _ _ _ _)
      | (with_reducible exact ih2 _ _ _ _ _ _)
      | (with_reducible exact ih3 _ _ _ _ _ _ _ _)
      | (with_reducible exact LeO.refl _)
      | (with_reducible exact LeO.none _)
      | (with_reducible refine LeO.ite ?_ ?_)
      | (with_reducible refine LeO.bind ?_ (fun _ => ?_))
      | exact ih0 _ _ _
      | exact ih1 _ _ _ _ _
      | exact ih2 _ _ _ _ _ _
      | exact ih3 _ _ _ _ _ _ _ _
      | exact LeO.none _
      | refine LeO.ite ?_ ?_
      | refine LeO.bind ?_ (fun _ => ?_)
    · intro y0 y1 y2 y3 y4 y5 y6 y7; unfold gemotref1_End_p.l0
      repeat' first
      | (with_reducible exact ih0 _ _ _)
      | (with_reducible exact ih1 _ _ _ _ _)
      | (with_reducible exact ih2 _ _ _ _ _ _)
      | (with_reducible exact ih3 _ _ _ _ _ _ _ _)
      | (with_reducible exact LeO.refl _)
      | (with_reducible exact LeO.none _)
      | (with_reducible refine LeO.ite ?_ ?_)
      | (with_reducible refine LeO.bind ?_ (fun _ => ?_))
      | exact ih0 _ _ _
      | exact ih1 _ _ _ _ _
      | exact ih2 _ _ _ _ _ _
      | exact ih3 _ _ _ _ _ _ _ _
      | exact LeO.none _
      | refine LeO.ite ?_ ?_
      | refine LeO.bind ?_ (fun _ => ?_)
theorem gemotref1_End_p.mono : ∀ a0 a1 a2 k, LeO (gemotref1_End_p.f k a0 a1 a2) (gemotref1_End_p.f (k + 1) a0 a1 a2) := by
  intro a0 a1 a2 k; obtain ⟨ih0, ih1, ih2, ih3⟩ := gemotref1_End_p.mono_l k; exact ih0 a0 a1 a2
set_option maxHeartbeats 8000000 in
set_option maxRecDepth 100000 in
theorem gemotref1_End_p.calls (k : Nat) : ∀ (a0 : ByteArray) (a1 : Int) (a2 : Int) (r1 : Int) (r2 : Int) (w : World) (h : gemotref1_End_p.f k a0 a1 a2 = some (r1, r2)),
    Calls Try.prog 180 #[.string a0, .int .i64 a1, .int .i64 a2] w fun e w' => e = .returned (.tuple #[.int .i64 r1, .int .i64 r2]) ∧ Below w.heap.size w w' := by
  induction k using Nat.strongRecOn with
  | _ k ih =>
  intro a0 a1 a2 r1 r2 w h; cases k with
  | zero => exact absurd h (by simp [gemotref1_End_p.f])
  | succ k =>
  simp only [gemotref1_End_p.f] at h; have HB := Aside0.mk (Below.refl w.heap.size w)
  have H : (if a2 = 0 then (some ((-2), 0)) else (if a1 ≥ (a0.size : Int) then (some ((-1), 0)) else (if 0 ≤ a1 then (if a1 ≤ (a0.size : Int) then ((gemotref1_leaf.f (a0.extract (a1 : Int).toNat a0.size)).bind fun t1001 => (if t1001 > 0 then (some (wrap64 (a1 + t1001), 1)) else (if a1 < (a0.size : Int) then ((gemotref1_parts.f (bt a0 a1)).bind fun t1002 => (if (bt a0 a1) = 101 then (if (wrap64 (a1 + 1)) ≥ (a0.size : Int) then (some ((-1), 0)) else (if 0 ≤ (wrap64 (a1 + 1)) then (if (wrap64 (a1 + 1)) < (a0.size : Int) then (if (bt a0 (wrap64 (a1 + 1))) < 1 then (some ((-1), 0)) else (if (bt a0 (wrap64 (a1 + 1))) > 32 then (some ((-1), 0)) else (gemotref1_End_p.j0 k a0 a1 a2 (wrap64 (bt a0 (wrap64 (a1 + 1)))) (wrap64 ((wrap64 (a1 + 1)) + 1))))) else (none)) else (none))) else (gemotref1_End_p.j0 k a0 a1 a2 t1002 (wrap64 (a1 + 1))))) else (none)))) else (none)) else (none)))) = some (r1, r2) := h
  clear h; by_cases c4 : a2 = 0
  · rw [if_pos c4] at H
    have c4b0 : (a2 == 0) = true := beq_iff_eq.mpr c4
    have c4b1 : (a2 != 0) = false := bne_eq_false_iff_eq.mpr c4
    clear c4; simp only [Option.some.injEq, Prod.mk.injEq] at H; obtain ⟨rfl, rfl⟩ := H; go_enter Try.func180, Try.ntmps180
    go_wp2; go_ret2
    exact ⟨by first | rfl | (simp [errW_none, errW_some] <;> rfl) | (simp [*, errW_none, errW_some] <;> rfl), by repeat (first | (with_reducible first | exact HB.out | apply below_alloc | apply pw_below_drewN | apply below_drew1) | exact HB.out)⟩
  · rw [if_neg c4] at H
    have c4b0 : (a2 == 0) = false := beq_eq_false_iff_ne.mpr c4
    have c4b1 : (a2 != 0) = true := bne_iff_ne.mpr c4
    by_cases c5 : a1 ≥ (a0.size : Int)
    · rw [if_pos c5] at H
      have c5b0 : decide ((a0.size : Int) ≤ a1) = true := decide_eq_true c5
      clear c5; simp only [Option.some.injEq, Prod.mk.injEq] at H; obtain ⟨rfl, rfl⟩ := H; go_enter Try.func180, Try.ntmps180
      go_wp2; go_ret2
      exact ⟨by first | rfl | (simp [errW_none, errW_some] <;> rfl) | (simp [*, errW_none, errW_some] <;> rfl), by repeat (first | (with_reducible first | exact HB.out | apply below_alloc | apply pw_below_drewN | apply below_drew1) | exact HB.out)⟩
    · rw [if_neg c5] at H
      have c5b0 : decide ((a0.size : Int) ≤ a1) = false := decide_eq_false c5
      clear c5; by_cases c6 : 0 ≤ a1
      · rw [if_pos c6] at H
        have c6b0 := eq_true c6
        have c6b1 : decide (0 ≤ a1) = true := decide_eq_true c6
        clear c6; by_cases c7 : a1 ≤ (a0.size : Int)
        · rw [if_pos c7] at H
          have c7b0 := eq_true c7
          have c7b1 : decide (a1 ≤ (a0.size : Int)) = true := decide_eq_true c7
          clear c7; replace H := Option.bind_eq_some_iff.mp H
          obtain ⟨t1001, A80, H⟩ := H; replace H : (if t1001 > 0 then (some (wrap64 (a1 + t1001), 1)) else (if a1 < (a0.size : Int) then ((gemotref1_parts.f (bt a0 a1)).bind fun t1002 => (if (bt a0 a1) = 101 then (if (wrap64 (a1 + 1)) ≥ (a0.size : Int) then (some ((-1), 0)) else (if 0 ≤ (wrap64 (a1 + 1)) then (if (wrap64 (a1 + 1)) < (a0.size : Int) then (if (bt a0 (wrap64 (a1 + 1))) < 1 then (some ((-1), 0)) else (if (bt a0 (wrap64 (a1 + 1))) > 32 then (some ((-1), 0)) else (gemotref1_End_p.j0 k a0 a1 a2 (wrap64 (bt a0 (wrap64 (a1 + 1)))) (wrap64 ((wrap64 (a1 + 1)) + 1))))) else (none)) else (none))) else (gemotref1_End_p.j0 k a0 a1 a2 t1002 (wrap64 (a1 + 1))))) else (none))) = some (r1, r2) := H
          have A8 := Aside0.mk A80
          clear A80; by_cases c9 : t1001 > 0
          · rw [if_pos c9] at H
            have c9b0 : decide (0 < t1001) = true := decide_eq_true c9
            clear c9; simp only [Option.some.injEq, Prod.mk.injEq] at H; obtain ⟨rfl, rfl⟩ := H; go_enter Try.func180, Try.ntmps180
            go_wp2_with (first | ((with_reducible refine gate_callee (f := 214) rfl ?_); refine goesL_ (some 25) rfl rfl Try.func214 (by kernel_rfl) rfl #[.string (a0.extract (a1 : Int).toNat a0.size)] rfl (by simp only [List.map_toArray, List.map_cons, List.map_nil] <;> rfl) ?_; (with_reducible refine (gemotref1_leaf.calls (a0.extract (a1 : Int).toNat a0.size) t1001 _ A8.out).mono ?_); rintro e w' ⟨rfl, ⟨nd, rfl⟩⟩; refine ⟨_, rfl, ?_⟩))
            go_ret2
            exact ⟨by first | rfl | (simp [errW_none, errW_some] <;> rfl) | (simp [*, errW_none, errW_some] <;> rfl), by repeat (first | (with_reducible first | exact HB.out | apply below_alloc | apply pw_below_drewN | apply below_drew1) | exact HB.out)⟩
          · rw [if_neg c9] at H
            have c9b0 : decide (0 < t1001) = false := decide_eq_false c9
            clear c9; by_cases c10 : a1 < (a0.size : Int)
            · rw [if_pos c10] at H
              have c10b0 : decide (a1 < (a0.size : Int)) = true := decide_eq_true c10
              clear c10; replace H := Option.bind_eq_some_iff.mp H
              obtain ⟨t1002, A120, H⟩ := H; replace H : (if (bt a0 a1) = 101 then (if (wrap64 (a1 + 1)) ≥ (a0.size : Int) then (some ((-1), 0)) else (if 0 ≤ (wrap64 (a1 + 1)) then (if (wrap64 (a1 + 1)) < (a0.size : Int) then (if (bt a0 (wrap64 (a1 + 1))) < 1 then (some ((-1), 0)) else (if (bt a0 (wrap64 (a1 + 1))) > 32 then (some ((-1), 0)) else (gemotref1_End_p.j0 k a0 a1 a2 (wrap64 (bt a0 (wrap64 (a1 + 1)))) (wrap64 ((wrap64 (a1 + 1)) + 1))))) else (none)) else (none))) else (gemotref1_End_p.j0 k a0 a1 a2 t1002 (wrap64 (a1 + 1)))) = some (r1, r2) := H
              have A12 := Aside0.mk A120
              clear A120; have HC14 := Aside0.mk H
              clear H; go_enter Try.func180, Try.ntmps180
              go_upto_if 40 with (first | ((with_reducible refine gate_callee (f := 214) rfl ?_); refine goesL_ (some 25) rfl rfl Try.func214 (by kernel_rfl) rfl #[.string (a0.extract (a1 : Int).toNat a0.size)] rfl (by simp only [List.map_toArray, List.map_cons, List.map_nil] <;> rfl) ?_; (with_reducible refine (gemotref1_leaf.calls (a0.extract (a1 : Int).toNat a0.size) t1001 _ A8.out).mono ?_); rintro e w' ⟨rfl, ⟨nd, rfl⟩⟩; refine ⟨_, rfl, ?_⟩; have p11 : 0 ≤ (a1 : Int) := of_decide_eq_true (by assumption); have q11 : a1 < (a0.size : Int) := of_decide_eq_true (by assumption); have hx11 := bt_at a0 a1; replace p11 := eq_true p11; replace q11 := eq_true q11) | ((with_reducible refine gate_callee (f := 215) rfl ?_); refine goesL_ (some 34) rfl rfl Try.func215 (by kernel_rfl) rfl #[.int .u8 (bt a0 a1)] rfl (by simp only [List.map_toArray, List.map_cons, List.map_nil] <;> rfl) ?_; (with_reducible refine (gemotref1_parts.calls (bt a0 a1) t1002 _ A12.out).mono ?_); rintro e w' ⟨rfl, ⟨nd, rfl⟩⟩; refine ⟨_, rfl, ?_⟩; have p13 : 0 ≤ (a1 : Int) := of_decide_eq_true (by assumption); have q13 : a1 < (a0.size : Int) := of_decide_eq_true (by assumption); have hx13 := bt_at a0 a1; replace p13 := eq_true p13; replace q13 := eq_true q13))
              (try simp only [Act.put, List.setIfInBounds_toArray, List.set_cons_zero, List.set_cons_succ]); go_cut [9, 10] (fun v9 v10 wc => ∃ (kq : Nat) (x9_13 : Int) (x10_13 : Int), v9 = .int .i64 x9_13 ∧ v10 = .int .i64 x10_13 ∧ Aside0 (gemotref1_End_p.j0 kq a0 a1 a2 x9_13 x10_13 = some (r1, r2)) ∧ Aside0 (kq ≤ k) ∧ Aside0 (Below w.heap.size w wc))
              case first =>
                have H := HC14.out; clear HC14; by_cases c15 : (bt a0 a1) = 101
                · rw [if_pos c15] at H
                  have c15b0 : ((bt a0 a1) == 101) = true := beq_iff_eq.mpr c15
                  have c15b1 : ((bt a0 a1) != 101) = false := bne_eq_false_iff_eq.mpr c15
                  clear c15; (first | rw [c15b0] | (simp only [i64_w, i32_w]; rw [c15b0]) | skip); by_cases c16 : (wrap64 (a1 + 1)) ≥ (a0.size : Int)
                  · rw [if_pos c16] at H
                    have c16b0 : decide ((a0.size : Int) ≤ (wrap64 (a1 + 1))) = true := decide_eq_true c16
                    clear c16; simp only [Option.some.injEq, Prod.mk.injEq] at H; obtain ⟨rfl, rfl⟩ := H; go_wp2; go_ret2
                    exact ⟨by first | rfl | (simp [errW_none, errW_some] <;> rfl) | (simp [*, errW_none, errW_some] <;> rfl), by repeat (first | (with_reducible first | exact HB.out | apply below_alloc | apply pw_below_drewN | apply below_drew1) | exact HB.out)⟩
                  · rw [if_neg c16] at H
                    have c16b0 : decide ((a0.size : Int) ≤ (wrap64 (a1 + 1))) = false := decide_eq_false c16
                    clear c16; obtain ⟨ji17, hji17⟩ : ∃ j_ : Int, (wrap64 (a1 + 1)) = j_ := ⟨_, rfl⟩
                    replace H : (if 0 ≤ (ji17) then (if (ji17) < (a0.size : Int) then (if (bt a0 (ji17)) < 1 then (some ((-1), 0)) else (if (bt a0 (ji17)) > 32 then (some ((-1), 0)) else (gemotref1_End_p.j0 k a0 a1 a2 (wrap64 (bt a0 (ji17))) (wrap64 ((ji17) + 1))))) else (none)) else (none)) = some (r1, r2) := by first | (rw [hji17] at H; exact H) | (simp only [hji17] at H ⊢; exact H)
                    (try rw [hji17] at c16b0); have hji17w : (IntKind.i64.wrap (a1 + 1)) = ji17 := (i64_w _).trans hji17
                    by_cases c18 : 0 ≤ (ji17)
                    · rw [if_pos c18] at H
                      have c18b0 : decide (0 ≤ (ji17)) = true := decide_eq_true c18
                      clear c18; by_cases c19 : (ji17) < (a0.size : Int)
                      · rw [if_pos c19] at H
                        have c19b0 : decide ((ji17) < (a0.size : Int)) = true := decide_eq_true c19
                        clear c19; by_cases c21 : (bt a0 (ji17)) < 1
                        · rw [if_pos c21] at H
                          have c21b0 : decide ((bt a0 (ji17)) < 1) = true := decide_eq_true c21
                          clear c21; simp only [Option.some.injEq, Prod.mk.injEq] at H; obtain ⟨rfl, rfl⟩ := H; have p20 : 0 ≤ ((ji17) : Int) := of_decide_eq_true (by first | (with_reducible assumption) | assumption)
                          have q20 : (ji17) < (a0.size : Int) := of_decide_eq_true (by first | (with_reducible assumption) | assumption)
                          have hx20 := bt_at a0 (ji17)
                          replace p20 := eq_true p20
                          replace q20 := eq_true q20
                          go_wp2; go_ret2
                          exact ⟨by first | rfl | (simp [errW_none, errW_some] <;> rfl) | (simp only [← hji17]; first | rfl | (simp [errW_none, errW_some] <;> rfl)) | (simp [*, errW_none, errW_some] <;> rfl), by repeat (first | (with_reducible first | exact HB.out | apply below_alloc | apply pw_below_drewN | apply below_drew1) | exact HB.out)⟩
                        · rw [if_neg c21] at H
                          have c21b0 : decide ((bt a0 (ji17)) < 1) = false := decide_eq_false c21
                          clear c21; by_cases c23 : (bt a0 (ji17)) > 32
                          · rw [if_pos c23] at H
                            have c23b0 : decide (32 < (bt a0 (ji17))) = true := decide_eq_true c23
                            clear c23; simp only [Option.some.injEq, Prod.mk.injEq] at H; obtain ⟨rfl, rfl⟩ := H; have p20 : 0 ≤ ((ji17) : Int) := of_decide_eq_true (by first | (with_reducible assumption) | assumption)
                            have q20 : (ji17) < (a0.size : Int) := of_decide_eq_true (by first | (with_reducible assumption) | assumption)
                            have hx20 := bt_at a0 (ji17)
                            replace p20 := eq_true p20
                            replace q20 := eq_true q20
                            have p22 : 0 ≤ ((ji17) : Int) := of_decide_eq_true (by first | (with_reducible assumption) | assumption)
                            have q22 : (ji17) < (a0.size : Int) := of_decide_eq_true (by first | (with_reducible assumption) | assumption)
                            have hx22 := bt_at a0 (ji17)
                            replace p22 := eq_true p22
                            replace q22 := eq_true q22
                            go_wp2; go_ret2
                            exact ⟨by first | rfl | (simp [errW_none, errW_some] <;> rfl) | (simp only [← hji17]; first | rfl | (simp [errW_none, errW_some] <;> rfl)) | (simp [*, errW_none, errW_some] <;> rfl), by repeat (first | (with_reducible first | exact HB.out | apply below_alloc | apply pw_below_drewN | apply below_drew1) | exact HB.out)⟩
                          · rw [if_neg c23] at H
                            have c23b0 : decide (32 < (bt a0 (ji17))) = false := decide_eq_false c23
                            clear c23; have H' := Aside0.mk H
                            clear H; have p20 : 0 ≤ ((ji17) : Int) := of_decide_eq_true (by first | (with_reducible assumption) | assumption)
                            have q20 : (ji17) < (a0.size : Int) := of_decide_eq_true (by first | (with_reducible assumption) | assumption)
                            have hx20 := bt_at a0 (ji17)
                            replace p20 := eq_true p20
                            replace q20 := eq_true q20
                            have p22 : 0 ≤ ((ji17) : Int) := of_decide_eq_true (by first | (with_reducible assumption) | assumption)
                            have q22 : (ji17) < (a0.size : Int) := of_decide_eq_true (by first | (with_reducible assumption) | assumption)
                            have hx22 := bt_at a0 (ji17)
                            replace p22 := eq_true p22
                            replace q22 := eq_true q22
                            have p24 : 0 ≤ ((ji17) : Int) := of_decide_eq_true (by first | (with_reducible assumption) | assumption)
                            have q24 : (ji17) < (a0.size : Int) := of_decide_eq_true (by first | (with_reducible assumption) | assumption)
                            have hx24 := bt_at a0 (ji17)
                            replace p24 := eq_true p24
                            replace q24 := eq_true q24
                            go_wp2; go_meet
                            case rel => exact ⟨_, (wrap64 (bt a0 (ji17))), (wrap64 ((ji17) + 1)), (by first | rfl | (simp; done) | (simp only [← hji17] <;> (first | rfl | simp)) | (simp [*]; done)), (by first | rfl | (simp; done) | (simp only [← hji17] <;> (first | rfl | simp)) | (simp [*]; done)), H', ⟨by first | omega | exact Nat.le_refl _⟩, ⟨by repeat (first | (with_reducible first | exact HB.out | apply below_alloc | apply pw_below_drewN | apply below_drew1) | exact HB.out)⟩⟩
                      · rw [if_neg c19] at H
                        exact absurd H (by simp)
                    · rw [if_neg c18] at H
                      exact absurd H (by simp)
                · rw [if_neg c15] at H
                  have c15b0 : ((bt a0 a1) == 101) = false := beq_eq_false_iff_ne.mpr c15
                  have c15b1 : ((bt a0 a1) != 101) = true := bne_iff_ne.mpr c15
                  (first | rw [c15b0] | (simp only [i64_w, i32_w]; rw [c15b0]) | skip); have H' := Aside0.mk H
                  clear H; go_wp2; go_meet
                  case rel => exact ⟨_, (t1002), (wrap64 (a1 + 1)), (by first | rfl | (simp; done) | (simp [*]; done)), (by first | rfl | (simp; done) | (simp [*]; done)), H', ⟨by first | omega | exact Nat.le_refl _⟩, ⟨by repeat (first | (with_reducible first | exact HB.out | apply below_alloc | apply pw_below_drewN | apply below_drew1) | exact HB.out)⟩⟩
              case rest =>
                clear HC14; try clear c1
                try clear p1
                try clear q1
                try clear hx1
                try clear c2
                try clear p2
                try clear q2
                try clear hx2
                try clear c4
                try clear c4b0
                try clear c4b1
                try clear c5
                try clear c5b0
                try clear c6
                try clear c6b0
                try clear c6b1
                try clear p6
                try clear c7
                try clear c7b0
                try clear c7b1
                try clear c9
                try clear c9b0
                try clear c10
                try clear c10b0
                try clear p11
                try clear q11
                try clear hx11
                try clear p13
                try clear q13
                try clear hx13
                try clear c15
                try clear c15b0
                try clear c15b1
                try clear c16
                try clear c16b0
                try clear c18
                try clear c18b0
                try clear c19
                try clear c19b0
                try clear p20
                try clear q20
                try clear hx20
                try clear c21
                try clear c21b0
                try clear p22
                try clear q22
                try clear hx22
                try clear c23
                try clear c23b0
                try clear p24
                try clear q24
                try clear hx24
                try clear p11
                try clear p13
                try clear p20
                try clear p22
                try clear p24
                try clear q11
                try clear q13
                try clear q20
                try clear q22
                try clear q24
                obtain ⟨kq, x9_13, x10_13, rfl, rfl, HA, HJ13, HB⟩ := hcut; cases kq with
                | zero => exact absurd HA.out (by simp [gemotref1_End_p.j0])
                | succ kj13 =>
                  have H := HA.out; clear HA; simp only [gemotref1_End_p.j0] at H; have HC25 := Aside0.mk H
                  clear H; go_upto_region 15 with (fail)
                  go_cut [88] (fun v88 wc => ∃ (kq : Nat) (x88_24 : Bool), v88 = .bool x88_24 ∧ Aside0 (gemotref1_End_p.j1 kq a0 a1 a2 x9_13 x10_13 x88_24 = some (r1, r2)) ∧ Aside0 (kq ≤ kj13) ∧ Aside0 (Below w.heap.size w wc))
                  case first =>
                    have H := HC25.out; clear HC25; by_cases c26 : x9_13 < 0
                    · rw [if_pos c26] at H
                      have c26b0 : decide (x9_13 < 0) = true := decide_eq_true c26
                      clear c26; (first | rw [c26b0] | (simp only [i64_w, i32_w]; rw [c26b0]) | skip); have H' := Aside0.mk H
                      clear H; go_wp2; go_meet
                      case rel => exact ⟨_, (true), (by first | rfl | (simp; done) | (simp [*]; done)), H', ⟨by have := HJ13.out; first | omega | exact Nat.le_refl _⟩, ⟨by repeat (first | (with_reducible first | exact HB.out | apply below_alloc | apply pw_below_drewN | apply below_drew1) | exact HB.out)⟩⟩
                    · rw [if_neg c26] at H
                      have c26b0 : decide (x9_13 < 0) = false := decide_eq_false c26
                      clear c26; (first | rw [c26b0] | (simp only [i64_w, i32_w]; rw [c26b0]) | skip); by_cases c27 : 0 ≤ a1
                      · rw [if_pos c27] at H
                        have c27b0 : decide (0 ≤ a1) = true := decide_eq_true c27
                        clear c27; by_cases c28 : a1 < (a0.size : Int)
                        · rw [if_pos c28] at H
                          have c28b0 : decide (a1 < (a0.size : Int)) = true := decide_eq_true c28
                          clear c28; by_cases c30 : (bt a0 a1) = 107
                          · rw [if_pos c30] at H
                            have c30b0 : ((bt a0 a1) == 107) = true := beq_iff_eq.mpr c30
                            have c30b1 : ((bt a0 a1) != 107) = false := bne_eq_false_iff_eq.mpr c30
                            clear c30; by_cases c31 : x10_13 ≥ (a0.size : Int)
                            · rw [if_pos c31] at H
                              have c31b0 : decide ((a0.size : Int) ≤ x10_13) = true := decide_eq_true c31
                              clear c31; have H' := Aside0.mk H
                              clear H; have p29 : 0 ≤ (a1 : Int) := of_decide_eq_true (by first | (with_reducible assumption) | assumption)
                              have q29 : a1 < (a0.size : Int) := of_decide_eq_true (by first | (with_reducible assumption) | assumption)
                              have hx29 := bt_at a0 a1
                              replace p29 := eq_true p29
                              replace q29 := eq_true q29
                              go_wp2; go_meet
                              case rel => exact ⟨_, (true), (by first | rfl | (simp; done) | (simp [*]; done)), H', ⟨by have := HJ13.out; first | omega | exact Nat.le_refl _⟩, ⟨by repeat (first | (with_reducible first | exact HB.out | apply below_alloc | apply pw_below_drewN | apply below_drew1) | exact HB.out)⟩⟩
                            · rw [if_neg c31] at H
                              have c31b0 : decide ((a0.size : Int) ≤ x10_13) = false := decide_eq_false c31
                              clear c31; by_cases c32 : 0 ≤ x10_13
                              · rw [if_pos c32] at H
                                have c32b0 : decide (0 ≤ x10_13) = true := decide_eq_true c32
                                clear c32; by_cases c33 : x10_13 < (a0.size : Int)
                                · rw [if_pos c33] at H
                                  have c33b0 : decide (x10_13 < (a0.size : Int)) = true := decide_eq_true c33
                                  clear c33; by_cases c35 : (bt a0 x10_13) = 103
                                  · rw [if_pos c35] at H
                                    have c35b0 : ((bt a0 x10_13) == 103) = true := beq_iff_eq.mpr c35
                                    have c35b1 : ((bt a0 x10_13) != 103) = false := bne_eq_false_iff_eq.mpr c35
                                    clear c35; have H' := Aside0.mk H
                                    clear H; have p29 : 0 ≤ (a1 : Int) := of_decide_eq_true (by first | (with_reducible assumption) | assumption)
                                    have q29 : a1 < (a0.size : Int) := of_decide_eq_true (by first | (with_reducible assumption) | assumption)
                                    have hx29 := bt_at a0 a1
                                    replace p29 := eq_true p29
                                    replace q29 := eq_true q29
                                    have p34 : 0 ≤ (x10_13 : Int) := of_decide_eq_true (by first | (with_reducible assumption) | assumption)
                                    have q34 : x10_13 < (a0.size : Int) := of_decide_eq_true (by first | (with_reducible assumption) | assumption)
                                    have hx34 := bt_at a0 x10_13
                                    replace p34 := eq_true p34
                                    replace q34 := eq_true q34
                                    go_wp2; go_meet
                                    case rel => exact ⟨_, (false), (by first | rfl | (simp; done) | (simp [*]; done)), H', ⟨by have := HJ13.out; first | omega | exact Nat.le_refl _⟩, ⟨by repeat (first | (with_reducible first | exact HB.out | apply below_alloc | apply pw_below_drewN | apply below_drew1) | exact HB.out)⟩⟩
                                  · rw [if_neg c35] at H
                                    have c35b0 : ((bt a0 x10_13) == 103) = false := beq_eq_false_iff_ne.mpr c35
                                    have c35b1 : ((bt a0 x10_13) != 103) = true := bne_iff_ne.mpr c35
                                    have H' := Aside0.mk H
                                    clear H; have p29 : 0 ≤ (a1 : Int) := of_decide_eq_true (by first | (with_reducible assumption) | assumption)
                                    have q29 : a1 < (a0.size : Int) := of_decide_eq_true (by first | (with_reducible assumption) | assumption)
                                    have hx29 := bt_at a0 a1
                                    replace p29 := eq_true p29
                                    replace q29 := eq_true q29
                                    have p34 : 0 ≤ (x10_13 : Int) := of_decide_eq_true (by first | (with_reducible assumption) | assumption)
                                    have q34 : x10_13 < (a0.size : Int) := of_decide_eq_true (by first | (with_reducible assumption) | assumption)
                                    have hx34 := bt_at a0 x10_13
                                    replace p34 := eq_true p34
                                    replace q34 := eq_true q34
                                    have p36 : 0 ≤ (x10_13 : Int) := of_decide_eq_true (by first | (with_reducible assumption) | assumption)
                                    have q36 : x10_13 < (a0.size : Int) := of_decide_eq_true (by first | (with_reducible assumption) | assumption)
                                    have hx36 := bt_at a0 x10_13
                                    replace p36 := eq_true p36
                                    replace q36 := eq_true q36
                                    go_wp2; go_meet
                                    case rel => exact ⟨_, (((bt a0 x10_13) != 101)), (by first | rfl | (simp; done) | (simp [*]; done)), H', ⟨by have := HJ13.out; first | omega | exact Nat.le_refl _⟩, ⟨by repeat (first | (with_reducible first | exact HB.out | apply below_alloc | apply pw_below_drewN | apply below_drew1) | exact HB.out)⟩⟩
                                · rw [if_neg c33] at H
                                  exact absurd H (by simp)
                              · rw [if_neg c32] at H
                                exact absurd H (by simp)
                          · rw [if_neg c30] at H
                            have c30b0 : ((bt a0 a1) == 107) = false := beq_eq_false_iff_ne.mpr c30
                            have c30b1 : ((bt a0 a1) != 107) = true := bne_iff_ne.mpr c30
                            have H' := Aside0.mk H
                            clear H; have p29 : 0 ≤ (a1 : Int) := of_decide_eq_true (by first | (with_reducible assumption) | assumption)
                            have q29 : a1 < (a0.size : Int) := of_decide_eq_true (by first | (with_reducible assumption) | assumption)
                            have hx29 := bt_at a0 a1
                            replace p29 := eq_true p29
                            replace q29 := eq_true q29
                            go_wp2; go_meet
                            case rel => exact ⟨_, (false), (by first | rfl | (simp; done) | (simp [*]; done)), H', ⟨by have := HJ13.out; first | omega | exact Nat.le_refl _⟩, ⟨by repeat (first | (with_reducible first | exact HB.out | apply below_alloc | apply pw_below_drewN | apply below_drew1) | exact HB.out)⟩⟩
                        · rw [if_neg c28] at H
                          exact absurd H (by simp)
                      · rw [if_neg c27] at H
                        exact absurd H (by simp)
                  case rest =>
                    clear HC25; try clear c1
                    try clear p1
                    try clear q1
                    try clear hx1
                    try clear c2
                    try clear p2
                    try clear q2
                    try clear hx2
                    try clear c3
                    try clear p3
                    try clear q3
                    try clear hx3
                    try clear c4
                    try clear c4b0
                    try clear c4b1
                    try clear c5
                    try clear c5b0
                    try clear c6
                    try clear c6b0
                    try clear c6b1
                    try clear p6
                    try clear c7
                    try clear c7b0
                    try clear c7b1
                    try clear c9
                    try clear c9b0
                    try clear c10
                    try clear c10b0
                    try clear p11
                    try clear q11
                    try clear hx11
                    try clear p13
                    try clear q13
                    try clear hx13
                    try clear c15
                    try clear c15b0
                    try clear c15b1
                    try clear c16
                    try clear c16b0
                    try clear c18
                    try clear c18b0
                    try clear c19
                    try clear c19b0
                    try clear p20
                    try clear q20
                    try clear hx20
                    try clear c21
                    try clear c21b0
                    try clear p22
                    try clear q22
                    try clear hx22
                    try clear c23
                    try clear c23b0
                    try clear p24
                    try clear q24
                    try clear hx24
                    try clear c26
                    try clear c26b0
                    try clear c27
                    try clear c27b0
                    try clear c28
                    try clear c28b0
                    try clear p29
                    try clear q29
                    try clear hx29
                    try clear c30
                    try clear c30b0
                    try clear c30b1
                    try clear c31
                    try clear c31b0
                    try clear c32
                    try clear c32b0
                    try clear c33
                    try clear c33b0
                    try clear p34
                    try clear q34
                    try clear hx34
                    try clear c35
                    try clear c35b0
                    try clear c35b1
                    try clear p36
                    try clear q36
                    try clear hx36
                    try clear p1
                    try clear p11
                    try clear p13
                    try clear p2
                    try clear p20
                    try clear p22
                    try clear p24
                    try clear p29
                    try clear p34
                    try clear p36
                    try clear p6
                    try clear q1
                    try clear q11
                    try clear q13
                    try clear q2
                    try clear q20
                    try clear q22
                    try clear q24
                    try clear q29
                    try clear q34
                    try clear q36
                    obtain ⟨kq, x88_24, rfl, HA, HJ24, HB⟩ := hcut; cases kq with
                    | zero => exact absurd HA.out (by simp [gemotref1_End_p.j1])
                    | succ kj24 =>
                      have H := HA.out; clear HA; simp only [gemotref1_End_p.j1] at H; by_cases c37 : x88_24 = true
                      · subst c37; have H1 : (some ((-1), 0)) = some (r1, r2) := by rw [if_pos rfl] at H; exact H
                        clear H; have H := H1; clear H1; simp only [Option.some.injEq, Prod.mk.injEq] at H; obtain ⟨rfl, rfl⟩ := H; go_wp2; go_ret2
                        exact ⟨by first | rfl | (simp [errW_none, errW_some] <;> rfl) | (simp [*, errW_none, errW_some] <;> rfl), by repeat (first | (with_reducible first | exact HB.out | apply below_alloc | apply pw_below_drewN | apply below_drew1) | exact HB.out)⟩
                      · replace c37 := Bool.eq_false_iff.mpr c37
                        subst c37; have H1 : (gemotref1_End_p.l0 kj24 a0 a1 a2 x9_13 x10_13 0 (⟨#[]⟩ : ByteArray) 0) = some (r1, r2) := by rw [if_neg (show ¬ (false = true) by decide)] at H; exact H
                        clear H; have H := H1; clear H1; have H' := Aside0.mk H
                        clear H; go_wp2; go_loopg [10, 11, 12, 13] kj24 (fun kq v10 v11 v12 v13 w' => ∃ (x10_3 : Int) (x11_3 : Int) (x12_3 : ByteArray) (x13_3 : Int), v10 = .int .i64 x10_3 ∧ v11 = .int .i64 x11_3 ∧ v12 = .string x12_3 ∧ v13 = .int .i64 x13_3 ∧ Aside0 (gemotref1_End_p.l0 kq a0 a1 a2 x9_13 x10_3 x11_3 x12_3 x13_3 = some (r1, r2)) ∧ Aside0 (kq ≤ kj24) ∧ Aside0 (Below w.heap.size w w'))
                        case atStart => exact ⟨(x10_13), (0), ((⟨#[]⟩ : ByteArray)), (0), (by first | rfl | (simp; done) | (simp [*]; done)), (by first | rfl | (simp; done) | (simp [*]; done)), (by first | rfl | (simp; done) | (simp [*]; done)), (by first | rfl | (simp; done) | (simp [*]; done)), H', ⟨Nat.le_refl _⟩, ⟨by repeat (first | (with_reducible first | exact HB.out | apply below_alloc | apply pw_below_drewN | apply below_drew1) | exact HB.out)⟩⟩
                        case round =>
                          clear H'; try clear c1
                          try clear p1
                          try clear q1
                          try clear hx1
                          try clear c2
                          try clear p2
                          try clear q2
                          try clear hx2
                          try clear c3
                          try clear p3
                          try clear q3
                          try clear hx3
                          try clear c4
                          try clear c4b0
                          try clear c4b1
                          try clear c5
                          try clear c5b0
                          try clear c6
                          try clear c6b0
                          try clear c6b1
                          try clear p6
                          try clear c7
                          try clear c7b0
                          try clear c7b1
                          try clear c9
                          try clear c9b0
                          try clear c10
                          try clear c10b0
                          try clear p11
                          try clear q11
                          try clear hx11
                          try clear p13
                          try clear q13
                          try clear hx13
                          try clear c15
                          try clear c15b0
                          try clear c15b1
                          try clear c16
                          try clear c16b0
                          try clear c18
                          try clear c18b0
                          try clear c19
                          try clear c19b0
                          try clear p20
                          try clear q20
                          try clear hx20
                          try clear c21
                          try clear c21b0
                          try clear p22
                          try clear q22
                          try clear hx22
                          try clear c23
                          try clear c23b0
                          try clear p24
                          try clear q24
                          try clear hx24
                          try clear c26
                          try clear c26b0
                          try clear c27
                          try clear c27b0
                          try clear c28
                          try clear c28b0
                          try clear p29
                          try clear q29
                          try clear hx29
                          try clear c30
                          try clear c30b0
                          try clear c30b1
                          try clear c31
                          try clear c31b0
                          try clear c32
                          try clear c32b0
                          try clear c33
                          try clear c33b0
                          try clear p34
                          try clear q34
                          try clear hx34
                          try clear c35
                          try clear c35b0
                          try clear c35b1
                          try clear p36
                          try clear q36
                          try clear hx36
                          try clear c37
                          try clear p1
                          try clear p11
                          try clear p13
                          try clear p2
                          try clear p20
                          try clear p22
                          try clear p24
                          try clear p29
                          try clear p3
                          try clear p34
                          try clear p36
                          try clear p6
                          try clear q1
                          try clear q11
                          try clear q13
                          try clear q2
                          try clear q20
                          try clear q22
                          try clear q24
                          try clear q29
                          try clear q3
                          try clear q34
                          try clear q36
                          obtain ⟨x10_3, x11_3, x12_3, x13_3, rfl, rfl, rfl, rfl, HA, HK3, HB⟩ := hrel; cases gk with
                          | zero => exact absurd HA.out (by simp [gemotref1_End_p.l0])
                          | succ k3 =>
                            have H := HA.out; clear HA; simp only [gemotref1_End_p.l0] at H; by_cases c38 : x13_3 < x9_13
                            · rw [if_pos c38] at H
                              have c38b0 : decide (x13_3 < x9_13) = true := decide_eq_true c38
                              clear c38; replace H := Option.bind_eq_some_iff.mp H
                              obtain ⟨⟨t1003, t1004⟩, A390, H⟩ := H
                              replace H : (if t1003 < 0 then (some (t1003, 0)) else (if 0 ≤ a1 then (if a1 < (a0.size : Int) then (if (bt a0 a1) = 101 then (if 0 ≤ x10_3 then (if x10_3 ≤ t1003 then (if t1003 ≤ (a0.size : Int) then (if (Op.bytesLess ((a0.extract (x10_3 : Int).toNat (t1003 : Int).toNat).toList) x12_3.toList) = true then (some ((-1), 0)) else (gemotref1_End_p.l0 k3 a0 a1 a2 x9_13 t1003 (mx x11_3 t1004) (a0.extract (x10_3 : Int).toNat (t1003 : Int).toNat) (wrap64 (x13_3 + 1)))) else (none)) else (none)) else (none)) else (if 0 ≤ x10_3 then (if x10_3 ≤ t1003 then (if t1003 ≤ (a0.size : Int) then (gemotref1_End_p.l0 k3 a0 a1 a2 x9_13 t1003 (mx x11_3 t1004) (a0.extract (x10_3 : Int).toNat (t1003 : Int).toNat) (wrap64 (x13_3 + 1))) else (none)) else (none)) else (none))) else (none)) else (none))) = some (r1, r2) := H
                              have A39 := Aside0.mk A390
                              clear A390; by_cases c40 : t1003 < 0
                              · rw [if_pos c40] at H
                                have c40b0 : decide (t1003 < 0) = true := decide_eq_true c40
                                clear c40; simp only [Option.some.injEq, Prod.mk.injEq] at H; obtain ⟨rfl, rfl⟩ := H; go_wp2_with (first | ((with_reducible refine gate_callee (f := 180) rfl ?_); refine goesL_ (some 99) rfl rfl Try.func180 (by kernel_rfl) rfl #[.string a0, .int .i64 x10_3, .int .i64 (wrap64 (a2 - 1))] rfl (by simp only [List.map_toArray, List.map_cons, List.map_nil] <;> rfl) ?_; (with_reducible refine (ih k3 (by have := HJ13.out; have := HJ24.out; have := HK3.out; omega) a0 x10_3 (wrap64 (a2 - 1)) t1003 t1004 _ A39.out).mono ?_); rintro e w41 ⟨rfl, hb⟩; refine ⟨_, rfl, ?_⟩; have n0_ := Aside0.mk (below_step (by repeat with_reducible first | exact HB.out | apply below_alloc | apply pw_below_drewN | apply below_drew1) hb); clear HB; have HB := n0_; clear n0_; (try clear hb)))
                                go_ret2
                                exact ⟨by first | rfl | (simp [errW_none, errW_some] <;> rfl) | (simp [*, errW_none, errW_some] <;> rfl), by repeat (first | (with_reducible first | exact HB.out | apply below_alloc | apply pw_below_drewN | apply below_drew1) | exact HB.out)⟩
                              · rw [if_neg c40] at H
                                have c40b0 : decide (t1003 < 0) = false := decide_eq_false c40
                                clear c40; by_cases c42 : 0 ≤ a1
                                · rw [if_pos c42] at H
                                  have c42b0 : decide (0 ≤ a1) = true := decide_eq_true c42
                                  clear c42; by_cases c43 : a1 < (a0.size : Int)
                                  · rw [if_pos c43] at H
                                    have c43b0 : decide (a1 < (a0.size : Int)) = true := decide_eq_true c43
                                    clear c43; by_cases c45 : (bt a0 a1) = 101
                                    · rw [if_pos c45] at H
                                      have c45b0 : ((bt a0 a1) == 101) = true := beq_iff_eq.mpr c45
                                      have c45b1 : ((bt a0 a1) != 101) = false := bne_eq_false_iff_eq.mpr c45
                                      clear c45; by_cases c46 : 0 ≤ x10_3
                                      · rw [if_pos c46] at H
                                        have c46b0 := eq_true c46
                                        have c46b1 : decide (0 ≤ x10_3) = true := decide_eq_true c46
                                        clear c46; by_cases c47 : x10_3 ≤ t1003
                                        · rw [if_pos c47] at H
                                          have c47b0 := eq_true c47
                                          have c47b1 : decide (x10_3 ≤ t1003) = true := decide_eq_true c47
                                          clear c47; by_cases c48 : t1003 ≤ (a0.size : Int)
                                          · rw [if_pos c48] at H
                                            have c48b0 := eq_true c48
                                            have c48b1 : decide (t1003 ≤ (a0.size : Int)) = true := decide_eq_true c48
                                            clear c48; by_cases c49 : (Op.bytesLess ((a0.extract (x10_3 : Int).toNat (t1003 : Int).toNat).toList) x12_3.toList) = true
                                            · rw [if_pos c49] at H
                                              have c49b0 : (Op.bytesLess ((a0.extract (x10_3 : Int).toNat (t1003 : Int).toNat).toList) x12_3.toList) = true := c49
                                              clear c49; simp only [Option.some.injEq, Prod.mk.injEq] at H; obtain ⟨rfl, rfl⟩ := H; go_wp2_with (first | ((with_reducible refine gate_callee (f := 180) rfl ?_); refine goesL_ (some 99) rfl rfl Try.func180 (by kernel_rfl) rfl #[.string a0, .int .i64 x10_3, .int .i64 (wrap64 (a2 - 1))] rfl (by simp only [List.map_toArray, List.map_cons, List.map_nil] <;> rfl) ?_; (with_reducible refine (ih k3 (by have := HJ13.out; have := HJ24.out; have := HK3.out; omega) a0 x10_3 (wrap64 (a2 - 1)) t1003 t1004 _ A39.out).mono ?_); rintro e w50 ⟨rfl, hb⟩; refine ⟨_, rfl, ?_⟩; have n0_ := Aside0.mk (below_step (by repeat with_reducible first | exact HB.out | apply below_alloc | apply pw_below_drewN | apply below_drew1) hb); clear HB; have HB := n0_; clear n0_; (try clear hb); have p44 : 0 ≤ (a1 : Int) := of_decide_eq_true (by assumption); have q44 : a1 < (a0.size : Int) := of_decide_eq_true (by assumption); have hx44 := bt_at a0 a1; replace p44 := eq_true p44; replace q44 := eq_true q44))
                                              go_ret2
                                              exact ⟨by first | rfl | (simp [errW_none, errW_some] <;> rfl) | (simp [*, errW_none, errW_some] <;> rfl), by repeat (first | (with_reducible first | exact HB.out | apply below_alloc | apply pw_below_drewN | apply below_drew1) | exact HB.out)⟩
                                            · rw [if_neg c49] at H
                                              have c49b0 : (Op.bytesLess ((a0.extract (x10_3 : Int).toNat (t1003 : Int).toNat).toList) x12_3.toList) = false := by simpa using c49
                                              clear c49; have c51b0 := eq_true (of_decide_eq_true (by first | (with_reducible assumption) | assumption) : 0 ≤ x10_3)
                                              have c52b0 := eq_true (of_decide_eq_true (by first | (with_reducible assumption) | assumption) : x10_3 ≤ t1003)
                                              have c53b0 := eq_true (of_decide_eq_true (by first | (with_reducible assumption) | assumption) : t1003 ≤ (a0.size : Int))
                                              obtain ⟨ji54, hji54⟩ : ∃ j_ : Int, (mx x11_3 t1004) = j_ := ⟨_, rfl⟩
                                              replace H : (gemotref1_End_p.l0 k3 a0 a1 a2 x9_13 t1003 ji54 (a0.extract (x10_3 : Int).toNat (t1003 : Int).toNat) (wrap64 (x13_3 + 1))) = some (r1, r2) := by first | (rw [hji54] at H; exact H) | (simp only [hji54] at H ⊢; exact H)
                                              (try rw [hji54] at A39); have hji54_ : (if x11_3 < t1004 then t1004 else x11_3) = ji54 := hji54
                                              have H' := Aside0.mk H
                                              clear H; go_wp2_with (first | ((with_reducible refine gate_callee (f := 180) rfl ?_); refine goesL_ (some 99) rfl rfl Try.func180 (by kernel_rfl) rfl #[.string a0, .int .i64 x10_3, .int .i64 (wrap64 (a2 - 1))] rfl (by simp only [List.map_toArray, List.map_cons, List.map_nil] <;> rfl) ?_; (with_reducible refine (ih k3 (by have := HJ13.out; have := HJ24.out; have := HK3.out; omega) a0 x10_3 (wrap64 (a2 - 1)) t1003 t1004 _ A39.out).mono ?_); rintro e w55 ⟨rfl, hb⟩; refine ⟨_, rfl, ?_⟩; have n0_ := Aside0.mk (below_step (by repeat with_reducible first | exact HB.out | apply below_alloc | apply pw_below_drewN | apply below_drew1) hb); clear HB; have HB := n0_; clear n0_; (try clear hb); have p44 : 0 ≤ (a1 : Int) := of_decide_eq_true (by assumption); have q44 : a1 < (a0.size : Int) := of_decide_eq_true (by assumption); have hx44 := bt_at a0 a1; replace p44 := eq_true p44; replace q44 := eq_true q44))
                                              go_roundg k3
                                              case measure => have := HJ13.out; have := HJ24.out; have := HK3.out; omega
                                              case rel => exact ⟨(t1003), (ji54), (a0.extract (x10_3 : Int).toNat (t1003 : Int).toNat), (wrap64 (x13_3 + 1)), (by first | rfl | (simp; done) | (simp [*]; done)), (by first | rfl | (simp; done) | (simp only [← hji54] <;> (first | rfl | simp)) | (simp [*]; done)), (by first | rfl | (simp; done) | (simp [*]; done)), (by first | rfl | (simp; done) | (simp [*]; done)), H', ⟨by have := HJ13.out; have := HJ24.out; have := HK3.out; omega⟩, ⟨by repeat (first | (with_reducible first | exact HB.out | apply below_alloc | apply pw_below_drewN | apply below_drew1) | exact HB.out)⟩⟩
                                          · rw [if_neg c48] at H
                                            exact absurd H (by simp)
                                        · rw [if_neg c47] at H
                                          exact absurd H (by simp)
                                      · rw [if_neg c46] at H
                                        exact absurd H (by simp)
                                    · rw [if_neg c45] at H
                                      have c45b0 : ((bt a0 a1) == 101) = false := beq_eq_false_iff_ne.mpr c45
                                      have c45b1 : ((bt a0 a1) != 101) = true := bne_iff_ne.mpr c45
                                      by_cases c56 : 0 ≤ x10_3
                                      · rw [if_pos c56] at H
                                        have c56b0 := eq_true c56
                                        have c56b1 : decide (0 ≤ x10_3) = true := decide_eq_true c56
                                        clear c56; by_cases c57 : x10_3 ≤ t1003
                                        · rw [if_pos c57] at H
                                          have c57b0 := eq_true c57
                                          have c57b1 : decide (x10_3 ≤ t1003) = true := decide_eq_true c57
                                          clear c57; by_cases c58 : t1003 ≤ (a0.size : Int)
                                          · rw [if_pos c58] at H
                                            have c58b0 := eq_true c58
                                            have c58b1 : decide (t1003 ≤ (a0.size : Int)) = true := decide_eq_true c58
                                            clear c58; obtain ⟨ji59, hji59⟩ : ∃ j_ : Int, (mx x11_3 t1004) = j_ := ⟨_, rfl⟩
                                            replace H : (gemotref1_End_p.l0 k3 a0 a1 a2 x9_13 t1003 ji59 (a0.extract (x10_3 : Int).toNat (t1003 : Int).toNat) (wrap64 (x13_3 + 1))) = some (r1, r2) := by first | (rw [hji59] at H; exact H) | (simp only [hji59] at H ⊢; exact H)
                                            (try rw [hji59] at A39); have hji59_ : (if x11_3 < t1004 then t1004 else x11_3) = ji59 := hji59
                                            have H' := Aside0.mk H
                                            clear H; go_wp2_with (first | ((with_reducible refine gate_callee (f := 180) rfl ?_); refine goesL_ (some 99) rfl rfl Try.func180 (by kernel_rfl) rfl #[.string a0, .int .i64 x10_3, .int .i64 (wrap64 (a2 - 1))] rfl (by simp only [List.map_toArray, List.map_cons, List.map_nil] <;> rfl) ?_; (with_reducible refine (ih k3 (by have := HJ13.out; have := HJ24.out; have := HK3.out; omega) a0 x10_3 (wrap64 (a2 - 1)) t1003 t1004 _ A39.out).mono ?_); rintro e w60 ⟨rfl, hb⟩; refine ⟨_, rfl, ?_⟩; have n0_ := Aside0.mk (below_step (by repeat with_reducible first | exact HB.out | apply below_alloc | apply pw_below_drewN | apply below_drew1) hb); clear HB; have HB := n0_; clear n0_; (try clear hb); have p44 : 0 ≤ (a1 : Int) := of_decide_eq_true (by assumption); have q44 : a1 < (a0.size : Int) := of_decide_eq_true (by assumption); have hx44 := bt_at a0 a1; replace p44 := eq_true p44; replace q44 := eq_true q44))
                                            go_roundg k3
                                            case measure => have := HJ13.out; have := HJ24.out; have := HK3.out; omega
                                            case rel => exact ⟨(t1003), (ji59), (a0.extract (x10_3 : Int).toNat (t1003 : Int).toNat), (wrap64 (x13_3 + 1)), (by first | rfl | (simp; done) | (simp [*]; done)), (by first | rfl | (simp; done) | (simp only [← hji59] <;> (first | rfl | simp)) | (simp [*]; done)), (by first | rfl | (simp; done) | (simp [*]; done)), (by first | rfl | (simp; done) | (simp [*]; done)), H', ⟨by have := HJ13.out; have := HJ24.out; have := HK3.out; omega⟩, ⟨by repeat (first | (with_reducible first | exact HB.out | apply below_alloc | apply pw_below_drewN | apply below_drew1) | exact HB.out)⟩⟩
                                          · rw [if_neg c58] at H
                                            exact absurd H (by simp)
                                        · rw [if_neg c57] at H
                                          exact absurd H (by simp)
                                      · rw [if_neg c56] at H
                                        exact absurd H (by simp)
                                  · rw [if_neg c43] at H
                                    exact absurd H (by simp)
                                · rw [if_neg c42] at H
                                  exact absurd H (by simp)
                            · rw [if_neg c38] at H
                              have c38b0 : decide (x13_3 < x9_13) = false := decide_eq_false c38
                              clear c38; simp only [Option.some.injEq, Prod.mk.injEq] at H; obtain ⟨rfl, rfl⟩ := H; go_wp2; go_ret2
                              exact ⟨by first | rfl | (simp [errW_none, errW_some] <;> rfl) | (simp [*, errW_none, errW_some] <;> rfl), by repeat (first | (with_reducible first | exact HB.out | apply below_alloc | apply pw_below_drewN | apply below_drew1) | exact HB.out)⟩
            · rw [if_neg c10] at H
              exact absurd H (by simp)
        · rw [if_neg c7] at H
          exact absurd H (by simp)
      · rw [if_neg c6] at H
        exact absurd H (by simp)

/-- Where a term ends, as the document says it. -/
def finR (r : Int × Int × Int) : Int × Int := if r.2.2 = 0 then (r.1, r.2.1) else if r.2.2 = 4 then (-2, 0) else (-1, 0)
def refEnd (s : ByteArray) (d : Nat) (i : Int) : Int × Int := finR (endF s d i)
def gemotref1_End.f (s : ByteArray) (i d : Int) : Option (Int × Int) := if s.size < 9223372036854775808 ∧ 0 ≤ i ∧ 0 ≤ d ∧ d ≤ 400 then some (refEnd s d.toNat i) else none
theorem finR_neg {r : Int × Int × Int} (h0 : r.2.2 ≠ 0) : (finR r).1 < 0 ∧ finR r = ((finR r).1, 0) := by
  unfold finR
  rw [if_neg h0]
  split <;> exact ⟨by decide, rfl⟩
theorem finR_code {r : Int × Int × Int} (h0 : r.2.2 ≠ 0) : finR (0, 0, r.2.2) = ((finR r).1, 0) := by
  unfold finR
  simp only
  rw [if_neg h0, if_neg h0]
  split <;> rfl
theorem gemotref1_End.loop (s : ByteArray) (hs : s.size < 9223372036854775808) (d : Nat) (hd : d < 400) (x1 : Int) (h1 : 0 ≤ x1) (h1' : x1 < s.size) (pow : Bool) (hpow : pow = true ↔ bt s x1 = 101) (many : Int) (hm : 0 ≤ many ∧ many ≤ 1000)
    (hE : ∀ i : Int, 0 ≤ i → ∃ K, ∀ k, K ≤ k → gemotref1_End_p.f k s i d = some (refEnd s d i)) :
    ∀ (m : Nat) (i dep : Int) (last : ByteArray) (j : Int), 0 ≤ i → 0 ≤ dep → dep ≤ 400 → 0 ≤ j → j + m = many →
      ∃ K, ∀ k, K ≤ k → gemotref1_End_p.l0 k s x1 ((d : Int) + 1) many i dep last j = some (finR (partsF s (endF s d) pow m i dep last))
  | 0, i, dep, last, j, h0, h2, h3, h4, hj => by
    refine ⟨1, fun k hk => ?_⟩
    obtain ⟨k, rfl⟩ : ∃ m, k = m + 1 := ⟨k - 1, by omega⟩
    simp only [gemotref1_End_p.l0, partsF]; rw [if_neg (by omega), show wrap64 (dep + 1) = dep + 1 by unfold wrap64; omega]
    rfl
  | m + 1, i, dep, last, j, h0, h2, h3, h4, hj => by
    obtain ⟨K1, hK1⟩ := hE i h0
    have hw : wrap64 ((d : Int) + 1 - 1) = d := by unfold wrap64; omega
    have hw2 : wrap64 (j + 1) = j + 1 := by unfold wrap64; omega
    by_cases c1 : (endF s d i).2.2 ≠ 0
    · refine ⟨K1 + 1, fun k hk => ?_⟩
      obtain ⟨k, rfl⟩ : ∃ m, k = m + 1 := ⟨k - 1, by omega⟩
      have hn := finR_neg c1
      simp only [gemotref1_End_p.l0]; rw [if_pos (by omega), hw, hK1 k (by omega)]
      simp only [Option.bind_some, partsF]; rw [if_pos c1]
      unfold refEnd
      rw [if_pos hn.1]
      congr 1
      exact (finR_code c1).symm
    · have c1' : (endF s d i).2.2 = 0 := by simpa using c1
      have ho := endF_ok d i h0 c1'
      have hr : refEnd s d i = ((endF s d i).1, (endF s d i).2.1) := by unfold refEnd finR; rw [if_pos c1']
      by_cases c2 : pow = true ∧ Op.bytesLess (s.extract i.toNat (endF s d i).1.toNat).toList last.toList = true
      · refine ⟨K1 + 1, fun k hk => ?_⟩
        obtain ⟨k, rfl⟩ : ∃ m, k = m + 1 := ⟨k - 1, by omega⟩
        simp only [gemotref1_End_p.l0]; rw [if_pos (by omega), hw, hK1 k (by omega), hr]
        simp only [Option.bind_some, partsF]; rw [if_neg c1, if_pos c2, if_neg (by omega), if_pos h1, if_pos h1', if_pos (hpow.mp c2.1), if_pos h0, if_pos (by omega), if_pos (by omega), if_pos c2.2]
        rfl
      · obtain ⟨K2, hK2⟩ := gemotref1_End.loop s hs d hd x1 h1 h1' pow hpow many hm hE m (endF s d i).1 (if dep < (endF s d i).2.1 then (endF s d i).2.1 else dep) (s.extract i.toNat (endF s d i).1.toNat) (j + 1) (by omega) (by split <;> omega) (by split <;> omega) (by omega) (by omega)
        refine ⟨K1 + K2 + 1, fun k hk => ?_⟩
        obtain ⟨k, rfl⟩ : ∃ m, k = m + 1 := ⟨k - 1, by omega⟩
        simp only [gemotref1_End_p.l0]; rw [if_pos (by omega), hw, hK1 k (by omega), hr]
        simp only [Option.bind_some, partsF]; rw [if_neg c1, if_neg c2, if_neg (by omega), if_pos h1, if_pos h1', hw2, ← hK2 k (by omega)]
        by_cases c3 : bt s x1 = 101
        · rw [if_pos c3, if_pos h0, if_pos (by omega), if_pos (by omega), if_neg (fun q => c2 ⟨hpow.mpr c3, q⟩)]
          rfl
        · rw [if_neg c3, if_pos h0, if_pos (by omega), if_pos (by omega)]
          rfl
theorem gemotref1_End.ev (s : ByteArray) (hs : s.size < 9223372036854775808) : ∀ (d : Nat) (i : Int), d ≤ 400 → 0 ≤ i → ∃ K, ∀ k, K ≤ k → gemotref1_End_p.f k s i d = some (refEnd s d i)
  | 0, i, hd, h0 => by
    refine ⟨1, fun k hk => ?_⟩
    obtain ⟨k, rfl⟩ : ∃ m, k = m + 1 := ⟨k - 1, by omega⟩
    simp only [gemotref1_End_p.f]; rw [if_pos (by simp)]
    rfl
  | d + 1, i, hd, h0 => by
    have hc : ((d + 1 : Nat) : Int) = (d : Int) + 1 := by omega
    by_cases c1 : (s.size : Int) ≤ i
    · refine ⟨1, fun k hk => ?_⟩
      obtain ⟨k, rfl⟩ : ∃ m, k = m + 1 := ⟨k - 1, by omega⟩
      simp only [gemotref1_End_p.f]; rw [if_neg (by omega), if_pos (by omega)]
      unfold refEnd
      rw [endF, if_pos c1]
      rfl
    have hz : (s.extract i.toNat s.size).size = s.size - i.toNat := by rw [ByteArray.size_extract]; omega
    have hlf : gemotref1_leaf.f (s.extract i.toNat s.size) = some (refLeaf (s.extract i.toNat s.size)) := by
      unfold gemotref1_leaf.f
      rw [if_pos (by omega)]
    by_cases c2 : leafF (s.extract i.toNat s.size) ≠ 0
    · refine ⟨1, fun k hk => ?_⟩
      obtain ⟨k, rfl⟩ : ∃ m, k = m + 1 := ⟨k - 1, by omega⟩
      have hl := leafF_ok (s := s.extract i.toNat s.size) (by omega) c2
      simp only [gemotref1_End_p.f]; rw [if_neg (by omega), if_neg (by omega), if_pos h0, if_pos (by omega), hlf]
      simp only [Option.bind_some]; unfold refLeaf
      rw [if_neg c2, if_pos (by omega), show wrap64 (i + leafF (s.extract i.toNat s.size)) = i + leafF (s.extract i.toNat s.size) by unfold wrap64; omega]
      unfold refEnd
      rw [endF, if_neg c1, if_pos c2]
      rfl
    have hrl : refLeaf (s.extract i.toNat s.size) = -1 := by unfold refLeaf; rw [if_pos (by simpa using c2)]
    have hw1 : wrap64 (i + 1) = i + 1 := by unfold wrap64; omega
    have hw2 : i + 1 < (s.size : Int) → wrap64 (i + 1 + 1) = i + 2 := fun _ => by unfold wrap64; omega
    have hend : endF s (d + 1) i = if (beginF s i).2.2.2.2.2.2 = true then partsF s (endF s d) (beginF s i).2.2.1 (beginF s i).1.toNat (beginF s i).2.2.2.2.2.1 0 ⟨#[]⟩ else (0, 0, 2) := by
      rw [endF, if_neg c1, if_neg c2]
    have hE := fun j (hj : 0 ≤ j) => gemotref1_End.ev s hs d j (by omega) hj
    have step : ∀ k, gemotref1_End_p.f (k + 1) s i ((d : Int) + 1) = if (bt s i) = 101 then (if i + 1 ≥ (s.size : Int) then (some ((-1), 0)) else (if 0 ≤ i + 1 then (if i + 1 < (s.size : Int) then (if (bt s (i + 1)) < 1 then (some ((-1), 0)) else (if (bt s (i + 1)) > 32 then (some ((-1), 0)) else (gemotref1_End_p.j0 k s i ((d : Int) + 1) (wrap64 (bt s (i + 1))) (wrap64 (i + 1 + 1))))) else (none)) else (none))) else (gemotref1_End_p.j0 k s i ((d : Int) + 1) (refParts (bt s i)) (i + 1)) := by
      intro k; simp only [gemotref1_End_p.f]; rw [if_neg (by omega), if_neg (by omega), if_pos h0, if_pos (by omega), hlf]
      simp only [Option.bind_some]; rw [hrl, if_neg (by omega), if_pos (by omega)]
      unfold gemotref1_parts.f
      simp only [Option.bind_some]; rw [hw1]
    rw [hc]
    by_cases k5 : bt s i = 101
    · by_cases c : i + 1 < (s.size : Int) ∧ 1 ≤ bt s (i + 1) ∧ bt s (i + 1) ≤ 32
      · have hb : beginF s i = (bt s (i + 1), 0, true, i + 2, ⟨#[]⟩, i + 2, true) := by
          unfold beginF; rw [k5]
          simp only [show ¬ ((101 : Int) = 107) from by decide, show ¬ ((101 : Int) = 104) from by decide, show ¬ ((101 : Int) = 112 ∨ (101 : Int) = 120) from by decide, show ¬ ((101 : Int) = 115) from by decide, if_false, if_true]; rw [if_pos c]
        have hwb : wrap64 (bt s (i + 1)) = bt s (i + 1) := by unfold wrap64; omega
        obtain ⟨K, hK⟩ := gemotref1_End.loop s hs d (by omega) i h0 (by omega) true (by simp [k5]) (bt s (i + 1)) (by omega) hE (bt s (i + 1)).toNat (i + 2) 0 ⟨#[]⟩ 0 (by omega) (by omega) (by omega) (by omega) (by omega)
        refine ⟨K + 3, fun k hk => ?_⟩
        obtain ⟨k, rfl⟩ : ∃ m, k = m + 3 := ⟨k - 3, by omega⟩
        rw [step, if_pos k5, if_neg (by omega), if_pos (by omega), if_pos (by omega), if_neg (by omega), if_neg (by omega), hwb, hw2 c.1]
        simp only [gemotref1_End_p.j0, gemotref1_End_p.j1]; rw [if_neg (by omega), if_pos h0, if_pos (by omega), if_neg (by omega)]
        simp only [Bool.false_eq_true, if_false]; rw [hK k (by omega)]
        unfold refEnd
        rw [hend, hb]
        rfl
      · have hb : (beginF s i).2.2.2.2.2.2 = false := by
          unfold beginF; rw [k5]
          simp only [show ¬ ((101 : Int) = 107) from by decide, show ¬ ((101 : Int) = 104) from by decide, show ¬ ((101 : Int) = 112 ∨ (101 : Int) = 120) from by decide, show ¬ ((101 : Int) = 115) from by decide, if_false, if_true]; rw [if_neg c]
        refine ⟨1, fun k hk => ?_⟩
        obtain ⟨k, rfl⟩ : ∃ m, k = m + 1 := ⟨k - 1, by omega⟩
        unfold refEnd
        rw [step, if_pos k5, hend, if_neg (show ¬ ((beginF s i).2.2.2.2.2.2 = true) by rw [hb]; simp)]
        by_cases q1 : i + 1 ≥ (s.size : Int)
        · rw [if_pos q1]; rfl
        rw [if_neg q1, if_pos (by omega), if_pos (by omega)]
        by_cases q2 : bt s (i + 1) < 1
        · rw [if_pos q2]; rfl
        rw [if_neg q2, if_pos (by omega)]; rfl
    · by_cases k1 : bt s i = 107
      · by_cases c : i + 1 < (s.size : Int) ∧ (bt s (i + 1) = 103 ∨ bt s (i + 1) = 101)
        · have hb : beginF s i = (1, 0, false, i + 1, ⟨#[]⟩, i + 1, true) := by unfold beginF; rw [if_pos k1, if_pos c]
          obtain ⟨K, hK⟩ := gemotref1_End.loop s hs d (by omega) i h0 (by omega) false (by simp [k5]) 1 (by omega) hE 1 (i + 1) 0 ⟨#[]⟩ 0 (by omega) (by omega) (by omega) (by omega) (by omega)
          refine ⟨K + 3, fun k hk => ?_⟩
          obtain ⟨k, rfl⟩ : ∃ m, k = m + 3 := ⟨k - 3, by omega⟩
          rw [step, if_neg k5, k1, show refParts 107 = 1 from rfl]
          simp only [gemotref1_End_p.j0, gemotref1_End_p.j1]; rw [if_neg (by omega), if_pos h0, if_pos (by omega), if_pos k1, if_neg (by omega), if_pos (by omega), if_pos c.1]
          have hj : (if bt s (i + 1) = 103 then gemotref1_End_p.j1 (k + 1) s i ((d : Int) + 1) 1 (i + 1) false else gemotref1_End_p.j1 (k + 1) s i ((d : Int) + 1) 1 (i + 1) (bt s (i + 1) != 101)) = gemotref1_End_p.j1 (k + 1) s i ((d : Int) + 1) 1 (i + 1) false := by
            split
            · rfl
            · rw [show (bt s (i + 1) != 101) = false from bne_eq_false_iff_eq.mpr (by omega)]
          simp only [gemotref1_End_p.j1] at hj; rw [hj]
          simp only [Bool.false_eq_true, if_false]; rw [hK k (by omega)]
          unfold refEnd
          rw [hend, hb]
          rfl
        · have hb : (beginF s i).2.2.2.2.2.2 = false := by unfold beginF; rw [if_pos k1, if_neg c]
          refine ⟨3, fun k hk => ?_⟩
          obtain ⟨k, rfl⟩ : ∃ m, k = m + 3 := ⟨k - 3, by omega⟩
          unfold refEnd
          rw [step, if_neg k5, k1, show refParts 107 = 1 from rfl, hend, if_neg (show ¬ ((beginF s i).2.2.2.2.2.2 = true) by rw [hb]; simp)]
          simp only [gemotref1_End_p.j0]; rw [if_neg (by omega), if_pos h0, if_pos (by omega), if_pos k1]
          by_cases q1 : i + 1 ≥ (s.size : Int)
          · rw [if_pos q1]; rfl
          rw [if_neg q1, if_pos (by omega), if_pos (by omega), if_neg (by omega), show (bt s (i + 1) != 101) = true from bne_iff_ne.mpr (by omega)]
          rfl
      · by_cases kk : bt s i = 104 ∨ bt s i = 112 ∨ bt s i = 120 ∨ bt s i = 115
        · have hb : beginF s i = (refParts (bt s i), 0, false, i + 1, ⟨#[]⟩, i + 1, true) ∧ 1 ≤ refParts (bt s i) ∧ refParts (bt s i) ≤ 3 := by
            rcases kk with q | q | q | q <;> (rw [q]; unfold beginF; rw [q]; exact ⟨rfl, by decide, by decide⟩)
          obtain ⟨hb, hp1, hp2⟩ := hb; obtain ⟨K, hK⟩ := gemotref1_End.loop s hs d (by omega) i h0 (by omega) false (by simp [k5]) (refParts (bt s i)) (by omega) hE (refParts (bt s i)).toNat (i + 1) 0 ⟨#[]⟩ 0 (by omega) (by omega) (by omega) (by omega) (by omega)
          refine ⟨K + 3, fun k hk => ?_⟩
          obtain ⟨k, rfl⟩ : ∃ m, k = m + 3 := ⟨k - 3, by omega⟩
          rw [step, if_neg k5]
          simp only [gemotref1_End_p.j0, gemotref1_End_p.j1]; rw [if_neg (by omega), if_pos h0, if_pos (by omega), if_neg k1]
          simp only [Bool.false_eq_true, if_false]; rw [hK k (by omega)]
          unfold refEnd
          rw [hend, hb]
          rfl
        · have hb : (beginF s i).2.2.2.2.2.2 = false ∧ refParts (bt s i) = -1 := by
            unfold beginF refParts
            rw [if_neg k1, if_neg (by omega), if_neg (by omega), if_neg (by omega), if_neg k5, if_neg (by omega), if_neg (by omega), if_neg (by omega)]
            exact ⟨rfl, rfl⟩
          refine ⟨3, fun k hk => ?_⟩
          obtain ⟨k, rfl⟩ : ∃ m, k = m + 3 := ⟨k - 3, by omega⟩
          unfold refEnd
          rw [step, if_neg k5, hend, if_neg (show ¬ ((beginF s i).2.2.2.2.2.2 = true) by rw [hb.1]; simp), hb.2]
          rfl
theorem gemotref1_End.calls (a0 : ByteArray) (a1 : Int) (a2 : Int) (r1 : Int) (r2 : Int) (w : World) (h : gemotref1_End.f a0 a1 a2 = some (r1, r2)) :
    Calls Try.prog 180 #[.string a0, .int .i64 a1, .int .i64 a2] w fun e w' => e = .returned (.tuple #[.int .i64 r1, .int .i64 r2]) ∧ Below w.heap.size w w' := by
  unfold gemotref1_End.f at h
  split at h
  case isFalse => cases h
  rename_i hs
  obtain ⟨K, hK⟩ := gemotref1_End.ev a0 hs.1 a2.toNat a1 (by omega) hs.2.1
  have hK := hK K (Nat.le_refl _)
  rw [show ((a2.toNat : Nat) : Int) = a2 by omega] at hK
  exact gemotref1_End_p.calls K a0 a1 a2 r1 r2 w (hK.trans h)

end Go.Proofs.Ytppimpadfgldjaa.F
namespace Go.Proofs.Ytppimpadfgldjaa.F
open Go.RowKit Go.Proofs.YtppimpadfgldjaaW.PrintWords Go.Proofs.YtppimpadfgldjaaW.PrintLast Go.Proofs.YtppimpadfgldjaaW.PrintMore
attribute [local go_sem] max2_int min2_int max_two min_two max_three min_three max_four min_four
set_option linter.unusedVariables false
set_option linter.unusedSimpArgs false

/-! ### gemotref1_Take: function 152 -/
/-! #### gemotref1_Take_p: function 152 -/
def gemotref1_Take_p.f (a0 : ByteArray) : Option (ByteArray × ByteArray × Int) := (gemotref1_End.f a0 0 400).bind fun bt1001 => (if bt1001.1 = (-1) then (some ((⟨#[]⟩ : ByteArray), (⟨#[]⟩ : ByteArray), 2)) else (if bt1001.1 = (-2) then (some ((⟨#[]⟩ : ByteArray), (⟨#[]⟩ : ByteArray), 4)) else (if bt1001.1 > 20000 then (some ((⟨#[]⟩ : ByteArray), (⟨#[]⟩ : ByteArray), 3)) else (if 0 ≤ bt1001.1 then (if bt1001.1 ≤ (a0.size : Int) then (some (a0.extract 0 (bt1001.1 : Int).toNat, a0.extract (bt1001.1 : Int).toNat a0.size, 0)) else (none)) else (none)))))
set_option maxHeartbeats 8000000 in
set_option maxRecDepth 100000 in
theorem gemotref1_Take_p.calls (a0 : ByteArray) (r1 : ByteArray) (r2 : ByteArray) (r3 : Int) (w : World) (h : gemotref1_Take_p.f a0 = some (r1, r2, r3)) :
    Calls Try.prog 152 #[.string a0] w fun e w' => e = .returned (.tuple #[.string r1, .string r2, .int .i64 r3]) ∧ Below w.heap.size w w' := by
  have HB := Aside0.mk (Below.refl w.heap.size w)
  have H : ((gemotref1_End.f a0 0 400).bind fun bt1001 => (if bt1001.1 = (-1) then (some ((⟨#[]⟩ : ByteArray), (⟨#[]⟩ : ByteArray), 2)) else (if bt1001.1 = (-2) then (some ((⟨#[]⟩ : ByteArray), (⟨#[]⟩ : ByteArray), 4)) else (if bt1001.1 > 20000 then (some ((⟨#[]⟩ : ByteArray), (⟨#[]⟩ : ByteArray), 3)) else (if 0 ≤ bt1001.1 then (if bt1001.1 ≤ (a0.size : Int) then (some (a0.extract 0 (bt1001.1 : Int).toNat, a0.extract (bt1001.1 : Int).toNat a0.size, 0)) else (none)) else (none)))))) = some (r1, r2, r3) := h
  clear h
  replace H := Option.bind_eq_some_iff.mp H
  obtain ⟨⟨t1001, t1002⟩, A20, H⟩ := H
  replace H : (if t1001 = (-1) then (some ((⟨#[]⟩ : ByteArray), (⟨#[]⟩ : ByteArray), 2)) else (if t1001 = (-2) then (some ((⟨#[]⟩ : ByteArray), (⟨#[]⟩ : ByteArray), 4)) else (if t1001 > 20000 then (some ((⟨#[]⟩ : ByteArray), (⟨#[]⟩ : ByteArray), 3)) else (if 0 ≤ t1001 then (if t1001 ≤ (a0.size : Int) then (some (a0.extract 0 (t1001 : Int).toNat, a0.extract (t1001 : Int).toNat a0.size, 0)) else (none)) else (none))))) = some (r1, r2, r3) := H
  have A2 := Aside0.mk A20
  clear A20
  by_cases c3 : t1001 = (-1)
  · rw [if_pos c3] at H
    have c3b0 : (t1001 == (-1)) = true := beq_iff_eq.mpr c3
    have c3b1 : (t1001 != (-1)) = false := bne_eq_false_iff_eq.mpr c3
    clear c3
    simp only [Option.some.injEq, Prod.mk.injEq] at H
    obtain ⟨rfl, rfl, rfl⟩ := H
    go_enter Try.func152, Try.ntmps152
    go_wp2_with (first | (go_at_call 180; (with_reducible refine (gemotref1_End.calls a0 0 400 t1001 t1002 _ A2.out).mono ?_); rintro e w4 ⟨rfl, hb⟩; have n0_ := Aside0.mk (below_step (by repeat with_reducible first | exact HB.out | apply below_alloc | apply pw_below_drewN | apply below_drew1) hb); clear HB; have HB := n0_; clear n0_; (try clear hb)))
    repeat (go_quiet (first | (go_at_call 180; (with_reducible refine (gemotref1_End.calls a0 0 400 t1001 t1002 _ A2.out).mono ?_); rintro e w4 ⟨rfl, hb⟩; have n0_ := Aside0.mk (below_step (by repeat with_reducible first | exact HB.out | apply below_alloc | apply pw_below_drewN | apply below_drew1) hb); clear HB; have HB := n0_; clear n0_; (try clear hb))); try go_wp2_with (first | (go_at_call 180; (with_reducible refine (gemotref1_End.calls a0 0 400 t1001 t1002 _ A2.out).mono ?_); rintro e w4 ⟨rfl, hb⟩; have n0_ := Aside0.mk (below_step (by repeat with_reducible first | exact HB.out | apply below_alloc | apply pw_below_drewN | apply below_drew1) hb); clear HB; have HB := n0_; clear n0_; (try clear hb))))
    go_ret3
    exact ⟨by first | rfl | (simp [errW_none, errW_some] <;> rfl) | (simp [*, errW_none, errW_some] <;> rfl), by repeat (first | (with_reducible first | exact HB.out | apply below_alloc | apply pw_below_drewN | apply below_drew1) | exact HB.out)⟩
  · rw [if_neg c3] at H
    have c3b0 : (t1001 == (-1)) = false := beq_eq_false_iff_ne.mpr c3
    have c3b1 : (t1001 != (-1)) = true := bne_iff_ne.mpr c3
    by_cases c5 : t1001 = (-2)
    · rw [if_pos c5] at H
      have c5b0 : (t1001 == (-2)) = true := beq_iff_eq.mpr c5
      have c5b1 : (t1001 != (-2)) = false := bne_eq_false_iff_eq.mpr c5
      clear c5
      simp only [Option.some.injEq, Prod.mk.injEq] at H
      obtain ⟨rfl, rfl, rfl⟩ := H
      go_enter Try.func152, Try.ntmps152
      go_wp2_with (first | (go_at_call 180; (with_reducible refine (gemotref1_End.calls a0 0 400 t1001 t1002 _ A2.out).mono ?_); rintro e w6 ⟨rfl, hb⟩; have n0_ := Aside0.mk (below_step (by repeat with_reducible first | exact HB.out | apply below_alloc | apply pw_below_drewN | apply below_drew1) hb); clear HB; have HB := n0_; clear n0_; (try clear hb)))
      repeat (go_quiet (first | (go_at_call 180; (with_reducible refine (gemotref1_End.calls a0 0 400 t1001 t1002 _ A2.out).mono ?_); rintro e w6 ⟨rfl, hb⟩; have n0_ := Aside0.mk (below_step (by repeat with_reducible first | exact HB.out | apply below_alloc | apply pw_below_drewN | apply below_drew1) hb); clear HB; have HB := n0_; clear n0_; (try clear hb))); try go_wp2_with (first | (go_at_call 180; (with_reducible refine (gemotref1_End.calls a0 0 400 t1001 t1002 _ A2.out).mono ?_); rintro e w6 ⟨rfl, hb⟩; have n0_ := Aside0.mk (below_step (by repeat with_reducible first | exact HB.out | apply below_alloc | apply pw_below_drewN | apply below_drew1) hb); clear HB; have HB := n0_; clear n0_; (try clear hb))))
      go_ret3
      exact ⟨by first | rfl | (simp [errW_none, errW_some] <;> rfl) | (simp [*, errW_none, errW_some] <;> rfl), by repeat (first | (with_reducible first | exact HB.out | apply below_alloc | apply pw_below_drewN | apply below_drew1) | exact HB.out)⟩
    · rw [if_neg c5] at H
      have c5b0 : (t1001 == (-2)) = false := beq_eq_false_iff_ne.mpr c5
      have c5b1 : (t1001 != (-2)) = true := bne_iff_ne.mpr c5
      by_cases c7 : t1001 > 20000
      · rw [if_pos c7] at H
        have c7b0 : decide (20000 < t1001) = true := decide_eq_true c7
        clear c7
        simp only [Option.some.injEq, Prod.mk.injEq] at H
        obtain ⟨rfl, rfl, rfl⟩ := H
        go_enter Try.func152, Try.ntmps152
        go_wp2_with (first | (go_at_call 180; (with_reducible refine (gemotref1_End.calls a0 0 400 t1001 t1002 _ A2.out).mono ?_); rintro e w8 ⟨rfl, hb⟩; have n0_ := Aside0.mk (below_step (by repeat with_reducible first | exact HB.out | apply below_alloc | apply pw_below_drewN | apply below_drew1) hb); clear HB; have HB := n0_; clear n0_; (try clear hb)))
        repeat (go_quiet (first | (go_at_call 180; (with_reducible refine (gemotref1_End.calls a0 0 400 t1001 t1002 _ A2.out).mono ?_); rintro e w8 ⟨rfl, hb⟩; have n0_ := Aside0.mk (below_step (by repeat with_reducible first | exact HB.out | apply below_alloc | apply pw_below_drewN | apply below_drew1) hb); clear HB; have HB := n0_; clear n0_; (try clear hb))); try go_wp2_with (first | (go_at_call 180; (with_reducible refine (gemotref1_End.calls a0 0 400 t1001 t1002 _ A2.out).mono ?_); rintro e w8 ⟨rfl, hb⟩; have n0_ := Aside0.mk (below_step (by repeat with_reducible first | exact HB.out | apply below_alloc | apply pw_below_drewN | apply below_drew1) hb); clear HB; have HB := n0_; clear n0_; (try clear hb))))
        go_ret3
        exact ⟨by first | rfl | (simp [errW_none, errW_some] <;> rfl) | (simp [*, errW_none, errW_some] <;> rfl), by repeat (first | (with_reducible first | exact HB.out | apply below_alloc | apply pw_below_drewN | apply below_drew1) | exact HB.out)⟩
      · rw [if_neg c7] at H
        have c7b0 : decide (20000 < t1001) = false := decide_eq_false c7
        clear c7
        by_cases c9 : 0 ≤ t1001
        · rw [if_pos c9] at H
          have c9b0 := eq_true c9
          have c9b1 : decide (0 ≤ t1001) = true := decide_eq_true c9
          clear c9
          by_cases c10 : t1001 ≤ (a0.size : Int)
          · rw [if_pos c10] at H
            have c10b0 := eq_true c10
            have c10b1 : decide (t1001 ≤ (a0.size : Int)) = true := decide_eq_true c10
            clear c10
            have c11b0 := eq_true (of_decide_eq_true (by first | (with_reducible assumption) | assumption) : 0 ≤ t1001)
            have c12b0 := eq_true (of_decide_eq_true (by first | (with_reducible assumption) | assumption) : t1001 ≤ (a0.size : Int))
            simp only [Option.some.injEq, Prod.mk.injEq] at H
            obtain ⟨rfl, rfl, rfl⟩ := H
            go_enter Try.func152, Try.ntmps152
            go_wp2_with (first | (go_at_call 180; (with_reducible refine (gemotref1_End.calls a0 0 400 t1001 t1002 _ A2.out).mono ?_); rintro e w13 ⟨rfl, hb⟩; have n0_ := Aside0.mk (below_step (by repeat with_reducible first | exact HB.out | apply below_alloc | apply pw_below_drewN | apply below_drew1) hb); clear HB; have HB := n0_; clear n0_; (try clear hb)))
            repeat (go_quiet (first | (go_at_call 180; (with_reducible refine (gemotref1_End.calls a0 0 400 t1001 t1002 _ A2.out).mono ?_); rintro e w13 ⟨rfl, hb⟩; have n0_ := Aside0.mk (below_step (by repeat with_reducible first | exact HB.out | apply below_alloc | apply pw_below_drewN | apply below_drew1) hb); clear HB; have HB := n0_; clear n0_; (try clear hb))); try go_wp2_with (first | (go_at_call 180; (with_reducible refine (gemotref1_End.calls a0 0 400 t1001 t1002 _ A2.out).mono ?_); rintro e w13 ⟨rfl, hb⟩; have n0_ := Aside0.mk (below_step (by repeat with_reducible first | exact HB.out | apply below_alloc | apply pw_below_drewN | apply below_drew1) hb); clear HB; have HB := n0_; clear n0_; (try clear hb))))
            go_ret3
            exact ⟨by first | rfl | (simp [errW_none, errW_some] <;> rfl) | (simp [*, errW_none, errW_some] <;> rfl), by repeat (first | (with_reducible first | exact HB.out | apply below_alloc | apply pw_below_drewN | apply below_drew1) | exact HB.out)⟩
          · rw [if_neg c10] at H
            exact absurd H (by simp)
        · rw [if_neg c9] at H
          exact absurd H (by simp)

def gemotref1_Take.f (s : ByteArray) : Option (ByteArray × ByteArray × Int) := if s.size < 9223372036854775808 then some (takeF s) else none
theorem codes {s : ByteArray} {p : Int → Int × Int × Int} {pow : Bool} (hp : ∀ i, (p i).2.2 = 0 ∨ (p i).2.2 = 2 ∨ (p i).2.2 = 4) : ∀ (m : Nat) (i dep : Int) (last : ByteArray), (partsF s p pow m i dep last).2.2 = 0 ∨ (partsF s p pow m i dep last).2.2 = 2 ∨ (partsF s p pow m i dep last).2.2 = 4
  | 0, _, _, _ => .inl rfl
  | m + 1, i, dep, last => by
    simp only [partsF]
    split
    · exact hp i
    · split
      · exact .inr (.inl rfl)
      · exact codes hp m _ _ _
theorem endcodes (s : ByteArray) : ∀ (d : Nat) (i : Int), (endF s d i).2.2 = 0 ∨ (endF s d i).2.2 = 2 ∨ (endF s d i).2.2 = 4
  | 0, _ => .inr (.inr rfl)
  | d + 1, i => by
    simp only [endF]
    split
    · exact .inr (.inl rfl)
    · split
      · exact .inl rfl
      · split
        · exact codes (endcodes s d) _ _ _ _
        · exact .inr (.inl rfl)
theorem gemotref1_Take.eq (s : ByteArray) (hs : s.size < 9223372036854775808) : gemotref1_Take_p.f s = gemotref1_Take.f s := by
  unfold gemotref1_Take_p.f gemotref1_End.f gemotref1_Take.f takeF scanF
  rw [if_pos ⟨hs, by decide, by decide, by decide⟩, if_pos hs]
  simp only [Option.bind_some]
  unfold refEnd finR
  rw [show ((400 : Int)).toNat = 400 from rfl]
  by_cases c : (endF s 400 0).2.2 = 0
  · have he := endF_ok 400 0 (Int.le_refl _) c
    rw [if_pos c, if_pos c, if_neg (show ¬ ((endF s 400 0).2.2 ≠ 0) from fun h => h c)]
    simp only
    rw [if_neg (by omega), if_neg (by omega)]
    split
    · rfl
    · rw [if_pos (by omega), if_pos (by omega)]
  · rw [if_neg c, if_neg c]
    simp only
    rw [if_pos c]
    rcases endcodes s 400 0 with h | h | h
    · exact absurd h c
    · rw [h]; rfl
    · rw [h]; rfl
theorem gemotref1_Take.calls (a0 : ByteArray) (r1 : ByteArray) (r2 : ByteArray) (r3 : Int) (w : World) (h : gemotref1_Take.f a0 = some (r1, r2, r3)) :
    Calls Try.prog 152 #[.string a0] w fun e w' => e = .returned (.tuple #[.string r1, .string r2, .int .i64 r3]) ∧ Below w.heap.size w w' := by
  have hs : a0.size < 9223372036854775808 := by
    unfold gemotref1_Take.f at h
    split at h
    · assumption
    · cases h
  exact gemotref1_Take_p.calls a0 r1 r2 r3 w ((gemotref1_Take.eq a0 hs).trans h)

end Go.Proofs.Ytppimpadfgldjaa.F
namespace Go.Proofs.Ytppimpadfgldjaa.F
open Go.RowKit Go.Proofs.YtppimpadfgldjaaW.PrintWords Go.Proofs.YtppimpadfgldjaaW.PrintLast Go.Proofs.YtppimpadfgldjaaW.PrintMore
attribute [local go_sem] max2_int min2_int max_two min_two max_three min_three max_four min_four
set_option linter.unusedVariables false
set_option linter.unusedSimpArgs false

/-! ### gemotref1_Right: function 106 -/
/-! #### gemotref1_Right_p: function 106 -/
def gemotref1_Right_p.f (a0 : ByteArray) : Option (Bool) := (gemotref1_Take.f a0).bind fun bt1001 => (if bt1001.2.2 = 0 then (if bt1001.2.1.toList = ([] : List UInt8) then (some (bt1001.1.toList != ([] : List UInt8))) else (some false)) else (some false))
set_option maxHeartbeats 8000000 in
set_option maxRecDepth 100000 in
theorem gemotref1_Right_p.calls (a0 : ByteArray) (r : Bool) (w : World) (h : gemotref1_Right_p.f a0 = some r) :
    Calls Try.prog 106 #[.string a0] w fun e w' => e = .returned (.bool r) ∧ Below w.heap.size w w' := by
  have HB := Aside0.mk (Below.refl w.heap.size w)
  have H : ((gemotref1_Take.f a0).bind fun bt1001 => (if bt1001.2.2 = 0 then (if bt1001.2.1.toList = ([] : List UInt8) then (some (bt1001.1.toList != ([] : List UInt8))) else (some false)) else (some false))) = some r := h
  clear h
  replace H := Option.bind_eq_some_iff.mp H
  obtain ⟨⟨t1001, t1002, t1003⟩, A20, H⟩ := H
  replace H : (if t1003 = 0 then (if t1002.toList = ([] : List UInt8) then (some (t1001.toList != ([] : List UInt8))) else (some false)) else (some false)) = some r := H
  have A2 := Aside0.mk A20
  clear A20
  by_cases c3 : t1003 = 0
  · rw [if_pos c3] at H
    have c3b0 : (t1003 == 0) = true := beq_iff_eq.mpr c3
    have c3b1 : (t1003 != 0) = false := bne_eq_false_iff_eq.mpr c3
    clear c3
    by_cases c4 : t1002.toList = ([] : List UInt8)
    · rw [if_pos c4] at H
      have c4b0 : (t1002.toList == ([] : List UInt8)) = true := beq_iff_eq.mpr c4
      have c4b1 : (t1002.toList != ([] : List UInt8)) = false := bne_eq_false_iff_eq.mpr c4
      clear c4
      obtain rfl := Option.some.inj H
      go_enter Try.func106, Try.ntmps106
      go_wp2_with (first | ((with_reducible refine gate_callee (f := 152) rfl ?_); refine goesL_ (some 8) rfl rfl Try.func152 (by kernel_rfl) rfl #[.string a0] rfl (by simp only [List.map_toArray, List.map_cons, List.map_nil] <;> rfl) ?_; (with_reducible refine (gemotref1_Take.calls a0 t1001 t1002 t1003 _ A2.out).mono ?_); rintro e w5 ⟨rfl, hb⟩; refine ⟨_, rfl, ?_⟩; have n0_ := Aside0.mk (below_step (by repeat with_reducible first | exact HB.out | apply below_alloc | apply pw_below_drewN | apply below_drew1) hb); clear HB; have HB := n0_; clear n0_; (try clear hb)))
      go_ret
      exact ⟨by first | rfl | (cases h_ : t1001.toList <;> simp [h_]) | (simp [errW_none, errW_some] <;> rfl) | (simp [*, errW_none, errW_some] <;> rfl), by repeat (first | (with_reducible first | exact HB.out | apply below_alloc | apply pw_below_drewN | apply below_drew1) | exact HB.out)⟩
    · rw [if_neg c4] at H
      have c4b0 : (t1002.toList == ([] : List UInt8)) = false := beq_eq_false_iff_ne.mpr c4
      have c4b1 : (t1002.toList != ([] : List UInt8)) = true := bne_iff_ne.mpr c4
      obtain rfl := Option.some.inj H
      go_enter Try.func106, Try.ntmps106
      go_wp2_with (first | ((with_reducible refine gate_callee (f := 152) rfl ?_); refine goesL_ (some 8) rfl rfl Try.func152 (by kernel_rfl) rfl #[.string a0] rfl (by simp only [List.map_toArray, List.map_cons, List.map_nil] <;> rfl) ?_; (with_reducible refine (gemotref1_Take.calls a0 t1001 t1002 t1003 _ A2.out).mono ?_); rintro e w6 ⟨rfl, hb⟩; refine ⟨_, rfl, ?_⟩; have n0_ := Aside0.mk (below_step (by repeat with_reducible first | exact HB.out | apply below_alloc | apply pw_below_drewN | apply below_drew1) hb); clear HB; have HB := n0_; clear n0_; (try clear hb)))
      go_ret
      exact ⟨by first | rfl | (simp [errW_none, errW_some] <;> rfl) | (simp [*, errW_none, errW_some] <;> rfl), by repeat (first | (with_reducible first | exact HB.out | apply below_alloc | apply pw_below_drewN | apply below_drew1) | exact HB.out)⟩
  · rw [if_neg c3] at H
    have c3b0 : (t1003 == 0) = false := beq_eq_false_iff_ne.mpr c3
    have c3b1 : (t1003 != 0) = true := bne_iff_ne.mpr c3
    obtain rfl := Option.some.inj H
    go_enter Try.func106, Try.ntmps106
    go_wp2_with (first | ((with_reducible refine gate_callee (f := 152) rfl ?_); refine goesL_ (some 8) rfl rfl Try.func152 (by kernel_rfl) rfl #[.string a0] rfl (by simp only [List.map_toArray, List.map_cons, List.map_nil] <;> rfl) ?_; (with_reducible refine (gemotref1_Take.calls a0 t1001 t1002 t1003 _ A2.out).mono ?_); rintro e w7 ⟨rfl, hb⟩; refine ⟨_, rfl, ?_⟩; have n0_ := Aside0.mk (below_step (by repeat with_reducible first | exact HB.out | apply below_alloc | apply pw_below_drewN | apply below_drew1) hb); clear HB; have HB := n0_; clear n0_; (try clear hb)))
    go_ret
    exact ⟨by first | rfl | (simp [errW_none, errW_some] <;> rfl) | (simp [*, errW_none, errW_some] <;> rfl), by repeat (first | (with_reducible first | exact HB.out | apply below_alloc | apply pw_below_drewN | apply below_drew1) | exact HB.out)⟩

def gemotref1_Right.f (s : ByteArray) : Option Bool := if s.size < 9223372036854775808 then some (rightB s) else none
theorem gemotref1_Right.eq (s : ByteArray) (hs : s.size < 9223372036854775808) : gemotref1_Right_p.f s = gemotref1_Right.f s := by
  unfold gemotref1_Right_p.f gemotref1_Take.f gemotref1_Right.f
  rw [if_pos hs, if_pos hs]
  simp only [Option.bind_some]
  unfold takeF rightB
  by_cases c : (scanF s).2.2 = 0
  · have he := scanF_end c
    rw [if_neg (show ¬ ((scanF s).2.2 ≠ 0) from fun h => h c)]
    by_cases c2 : (scanF s).1 > 20000
    · rw [if_pos c2, if_neg (show ¬ ((3 : Int) = 0) by decide)]
      rw [decide_eq_false (by omega)]
    · rw [if_neg c2, if_pos rfl]
      by_cases c3 : s.size ≤ (scanF s).1.toNat
      · rw [if_pos ((extract_nil s _).mpr c3)]
        have c4 : (scanF s).1.toNat = s.size := by omega
        rw [c4, extract_all, decide_eq_true (by omega)]
        have h5 : ¬ s.toList = [] := fun h => by
          have := extract_nil s 0
          rw [extract_all] at this
          have := this.mp h
          omega
        simp [h5]
      · rw [if_neg (fun h => c3 ((extract_nil s _).mp h)), decide_eq_false (by omega)]
  · rw [if_pos c, if_neg c, decide_eq_false (fun h => c h.1)]
theorem gemotref1_Right.calls (a0 : ByteArray) (r : Bool) (w : World) (h : gemotref1_Right.f a0 = some r) :
    Calls Try.prog 106 #[.string a0] w fun e w' => e = .returned (.bool r) ∧ Below w.heap.size w w' := by
  have hs : a0.size < 9223372036854775808 := by
    unfold gemotref1_Right.f at h
    split at h
    · assumption
    · cases h
  exact gemotref1_Right_p.calls a0 r w ((gemotref1_Right.eq a0 hs).trans h)

end Go.Proofs.Ytppimpadfgldjaa.F
