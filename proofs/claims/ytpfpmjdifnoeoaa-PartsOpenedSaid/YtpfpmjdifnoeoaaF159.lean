-- Laid by mk.py (a program of this session) over the seat's translation.
import Derived.Test.YtpfpmjdifnoeoaaF0
namespace Go.Proofs.Ytpfpmjdifnoeoaa.F
open Go.RowKit Go.Proofs.YtpfpmjdifnoeoaaW.PrintWords Go.Proofs.YtpfpmjdifnoeoaaW.PrintLast Go.Proofs.YtpfpmjdifnoeoaaW.PrintMore
attribute [local go_sem] max2_int min2_int max_two min_two max_three min_three max_four min_four
set_option linter.unusedVariables false
set_option linter.unusedSimpArgs false

/-! ### gemotref1_parts: function 159 -/
/-! #### gemotref1_parts_p: function 159 -/
mutual
def gemotref1_parts_p.j0 : Nat → Int → Bool → Option (Int)
  | 0, _, _ => none
  | k + 1, x3, x4 => if x4 = true then (some 1) else (if x3 = 112 then (gemotref1_parts_p.j1 k x3 (x3 == 112)) else (gemotref1_parts_p.j1 k x3 (x3 == 120)))
def gemotref1_parts_p.j1 : Nat → Int → Bool → Option (Int)
  | 0, _, _ => none
  | k + 1, x3, x7 => if x7 = true then (some 2) else (if x3 = 115 then (some 3) else (some (-1)))
end
def gemotref1_parts_p.f (k : Nat) (a0 : Int) : Option (Int) := if a0 = 107 then (gemotref1_parts_p.j0 k a0 (a0 == 107)) else (gemotref1_parts_p.j0 k a0 (a0 == 104))
theorem gemotref1_parts_p.mono_l : ∀ k, (∀ y0 y1, LeO (gemotref1_parts_p.j0 k y0 y1) (gemotref1_parts_p.j0 (k + 1) y0 y1)) ∧ (∀ y0 y1, LeO (gemotref1_parts_p.j1 k y0 y1) (gemotref1_parts_p.j1 (k + 1) y0 y1))
  | 0 => ⟨fun _ _ r h => by simp [gemotref1_parts_p.j0] at h, fun _ _ r h => by simp [gemotref1_parts_p.j1] at h⟩
  | k + 1 => by
    obtain ⟨ih0, ih1⟩ := gemotref1_parts_p.mono_l k
    refine ⟨?_, ?_⟩
    · intro y0 y1
      unfold gemotref1_parts_p.j0
      repeat' first
      | (with_reducible exact ih0 _ _)
      | (with_reducible exact ih1 _ _)
      | (with_reducible exact LeO.refl _)
      | (with_reducible exact LeO.none _)
      | (with_reducible refine LeO.ite ?_ ?_)
      | (with_reducible refine LeO.bind ?_ (fun _ => ?_))
      | exact ih0 _ _
      | exact ih1 _ _
      | exact LeO.none _
      | refine LeO.ite ?_ ?_
      | refine LeO.bind ?_ (fun _ => ?_)
    · intro y0 y1
      unfold gemotref1_parts_p.j1
      repeat' first
      | (with_reducible exact ih0 _ _)
      | (with_reducible exact ih1 _ _)
      | (with_reducible exact LeO.refl _)
      | (with_reducible exact LeO.none _)
      | (with_reducible refine LeO.ite ?_ ?_)
      | (with_reducible refine LeO.bind ?_ (fun _ => ?_))
      | exact ih0 _ _
      | exact ih1 _ _
      | exact LeO.none _
      | refine LeO.ite ?_ ?_
      | refine LeO.bind ?_ (fun _ => ?_)
theorem gemotref1_parts_p.mono : ∀ a0 k, LeO (gemotref1_parts_p.f k a0) (gemotref1_parts_p.f (k + 1) a0) := by
  intro a0 k
  obtain ⟨ih0, ih1⟩ := gemotref1_parts_p.mono_l k
  unfold gemotref1_parts_p.f
  repeat' first
      | (with_reducible exact ih0 _ _)
      | (with_reducible exact ih1 _ _)
      | (with_reducible exact LeO.refl _)
      | (with_reducible exact LeO.none _)
      | (with_reducible refine LeO.ite ?_ ?_)
      | (with_reducible refine LeO.bind ?_ (fun _ => ?_))
      | exact ih0 _ _
      | exact ih1 _ _
      | exact LeO.none _
      | refine LeO.ite ?_ ?_
      | refine LeO.bind ?_ (fun _ => ?_)
set_option maxHeartbeats 8000000 in
set_option maxRecDepth 100000 in
theorem gemotref1_parts_p.calls (k : Nat) (a0 : Int) (r : Int) (w : World) (h : gemotref1_parts_p.f k a0 = some r) :
    Calls Try.prog 159 #[.int .u8 a0] w fun e w' => e = .returned (.int .i64 r) ∧ Drawn0 w w' := by
  have H : (if a0 = 107 then (gemotref1_parts_p.j0 k a0 (a0 == 107)) else (gemotref1_parts_p.j0 k a0 (a0 == 104))) = some r := h
  clear h
  have HC2 := Aside0.mk H
  clear H
  go_enter Try.func159, Try.ntmps159
  go_upto_if 4 with (fail)
  go_cut [4] (fun v4 wc => ∃ (kq : Nat) (x4_1 : Bool), v4 = .bool x4_1 ∧ Aside0 (gemotref1_parts_p.j0 kq a0 x4_1 = some r) ∧ Aside0 (kq ≤ k) ∧ Drawn0 w wc)
  case first =>
    have H := HC2.out
    clear HC2
    by_cases c3 : a0 = 107
    · rw [if_pos c3] at H
      have c3b0 : (a0 == 107) = true := beq_iff_eq.mpr c3
      have c3b1 : (a0 != 107) = false := bne_eq_false_iff_eq.mpr c3
      clear c3
      (first | rw [c3b0] | (simp only [i64_w, i32_w]; rw [c3b0]) | skip)
      have H' := Aside0.mk H
      clear H
      go_wp2
      go_meet
      case rel => exact ⟨_, ((a0 == 107)), (by first | rfl | (simp; done) | (simp [*]; done)), H', ⟨by first | omega | exact Nat.le_refl _⟩, by repeat (first | exact Drawn0.refl _ | apply Drawn0.step)⟩
    · rw [if_neg c3] at H
      have c3b0 : (a0 == 107) = false := beq_eq_false_iff_ne.mpr c3
      have c3b1 : (a0 != 107) = true := bne_iff_ne.mpr c3
      (first | rw [c3b0] | (simp only [i64_w, i32_w]; rw [c3b0]) | skip)
      have H' := Aside0.mk H
      clear H
      go_wp2
      go_meet
      case rel => exact ⟨_, ((a0 == 104)), (by first | rfl | (simp; done) | (simp [*]; done)), H', ⟨by first | omega | exact Nat.le_refl _⟩, by repeat (first | exact Drawn0.refl _ | apply Drawn0.step)⟩
  case rest =>
    clear HC2
    try clear c1
    try clear p2
    try clear c3
    try clear c3b0
    try clear c3b1
    obtain ⟨kq, x4_1, rfl, HA, HJ1, ⟨mc1, rfl⟩⟩ := hcut
    cases kq with
    | zero => exact absurd HA.out (by simp [gemotref1_parts_p.j0])
    | succ kj1 =>
      have H := HA.out
      clear HA
      simp only [gemotref1_parts_p.j0] at H
      by_cases c4 : x4_1 = true
      · subst c4
        have H1 : (some 1) = some r := by rw [if_pos rfl] at H; exact H
        clear H
        have H := H1
        clear H1
        obtain rfl := Option.some.inj H
        go_wp2
        go_ret
        exact ⟨by first | rfl | (simp; done) | (simp [*]; done), by repeat (first | exact Drawn0.refl _ | apply Drawn0.step)⟩
      · replace c4 := Bool.eq_false_iff.mpr c4
        subst c4
        have H1 : (if a0 = 112 then (gemotref1_parts_p.j1 kj1 a0 (a0 == 112)) else (gemotref1_parts_p.j1 kj1 a0 (a0 == 120))) = some r := by rw [if_neg (show ¬ (false = true) by decide)] at H; exact H
        clear H
        have H := H1
        clear H1
        have HC5 := Aside0.mk H
        clear H
        go_upto_if 7 with (fail)
        go_cut [7] (fun v7 wc => ∃ (kq : Nat) (x7_4 : Bool), v7 = .bool x7_4 ∧ Aside0 (gemotref1_parts_p.j1 kq a0 x7_4 = some r) ∧ Aside0 (kq ≤ kj1) ∧ Drawn0 w wc)
        case first =>
          have H := HC5.out
          clear HC5
          by_cases c6 : a0 = 112
          · rw [if_pos c6] at H
            have c6b0 : (a0 == 112) = true := beq_iff_eq.mpr c6
            have c6b1 : (a0 != 112) = false := bne_eq_false_iff_eq.mpr c6
            clear c6
            (first | rw [c6b0] | (simp only [i64_w, i32_w]; rw [c6b0]) | skip)
            have H' := Aside0.mk H
            clear H
            go_wp2
            go_meet
            case rel => exact ⟨_, ((a0 == 112)), (by first | rfl | (simp; done) | (simp [*]; done)), H', ⟨by have := HJ1.out; first | omega | exact Nat.le_refl _⟩, by repeat (first | exact Drawn0.refl _ | apply Drawn0.step)⟩
          · rw [if_neg c6] at H
            have c6b0 : (a0 == 112) = false := beq_eq_false_iff_ne.mpr c6
            have c6b1 : (a0 != 112) = true := bne_iff_ne.mpr c6
            (first | rw [c6b0] | (simp only [i64_w, i32_w]; rw [c6b0]) | skip)
            have H' := Aside0.mk H
            clear H
            go_wp2
            go_meet
            case rel => exact ⟨_, ((a0 == 120)), (by first | rfl | (simp; done) | (simp [*]; done)), H', ⟨by have := HJ1.out; first | omega | exact Nat.le_refl _⟩, by repeat (first | exact Drawn0.refl _ | apply Drawn0.step)⟩
        case rest =>
          clear HC5
          try clear c1
          try clear p2
          try clear c3
          try clear c3b0
          try clear c3b1
          try clear c4
          try clear c6
          try clear c6b0
          try clear c6b1
          try clear p2
          obtain ⟨kq, x7_4, rfl, HA, HJ4, ⟨mc4, rfl⟩⟩ := hcut
          cases kq with
          | zero => exact absurd HA.out (by simp [gemotref1_parts_p.j1])
          | succ kj4 =>
            have H := HA.out
            clear HA
            simp only [gemotref1_parts_p.j1] at H
            by_cases c7 : x7_4 = true
            · subst c7
              have H1 : (some 2) = some r := by rw [if_pos rfl] at H; exact H
              clear H
              have H := H1
              clear H1
              obtain rfl := Option.some.inj H
              go_wp2
              go_ret
              exact ⟨by first | rfl | (simp; done) | (simp [*]; done), by repeat (first | exact Drawn0.refl _ | apply Drawn0.step)⟩
            · replace c7 := Bool.eq_false_iff.mpr c7
              subst c7
              have H1 : (if a0 = 115 then (some 3) else (some (-1))) = some r := by rw [if_neg (show ¬ (false = true) by decide)] at H; exact H
              clear H
              have H := H1
              clear H1
              by_cases c8 : a0 = 115
              · rw [if_pos c8] at H
                have c8b0 : (a0 == 115) = true := beq_iff_eq.mpr c8
                have c8b1 : (a0 != 115) = false := bne_eq_false_iff_eq.mpr c8
                clear c8
                obtain rfl := Option.some.inj H
                go_wp2
                go_ret
                exact ⟨by first | rfl | (simp; done) | (simp [*]; done), by repeat (first | exact Drawn0.refl _ | apply Drawn0.step)⟩
              · rw [if_neg c8] at H
                have c8b0 : (a0 == 115) = false := beq_eq_false_iff_ne.mpr c8
                have c8b1 : (a0 != 115) = true := bne_iff_ne.mpr c8
                obtain rfl := Option.some.inj H
                go_wp2
                go_ret
                exact ⟨by first | rfl | (simp; done) | (simp [*]; done), by repeat (first | exact Drawn0.refl _ | apply Drawn0.step)⟩

def refParts (c : Int) : Int := if c = 107 ∨ c = 104 then 1 else if c = 112 ∨ c = 120 then 2 else if c = 115 then 3 else -1
def gemotref1_parts.f (c : Int) : Option Int := some (refParts c)
theorem gemotref1_parts.eq (c : Int) : gemotref1_parts_p.f 5 c = gemotref1_parts.f c := by
  unfold gemotref1_parts_p.f gemotref1_parts.f refParts
  by_cases k1 : c = 107
  · subst k1; rfl
  by_cases k2 : c = 104
  · subst k2; rfl
  by_cases k3 : c = 112
  · subst k3; rfl
  by_cases k4 : c = 120
  · subst k4; rfl
  by_cases k5 : c = 115
  · subst k5; rfl
  have e1 : (c == 104) = false := beq_eq_false_iff_ne.mpr k2
  have e2 : (c == 120) = false := beq_eq_false_iff_ne.mpr k4
  rw [if_neg k1, e1]
  simp only [gemotref1_parts_p.j0, gemotref1_parts_p.j1, Bool.false_eq_true, if_false]
  rw [if_neg k3, e2]
  simp only [Bool.false_eq_true, if_false]
  rw [if_neg k5, if_neg (by omega), if_neg (by omega), if_neg k5]
theorem gemotref1_parts.calls (a0 : Int) (r : Int) (w : World) (h : gemotref1_parts.f a0 = some r) :
    Calls Try.prog 159 #[.int .u8 a0] w fun e w' => e = .returned (.int .i64 r) ∧ Drawn0 w w' :=
  gemotref1_parts_p.calls 5 a0 r w ((gemotref1_parts.eq a0).trans h)

end Go.Proofs.Ytpfpmjdifnoeoaa.F
