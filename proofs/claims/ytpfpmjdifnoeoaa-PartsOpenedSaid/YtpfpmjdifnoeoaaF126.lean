-- Laid by mk.py (a program of this session) over the seat's translation.
import Derived.Test.YtpfpmjdifnoeoaaF0
import Derived.Test.YtpfpmjdifnoeoaaF131
import Derived.Test.YtpfpmjdifnoeoaaF158
import Derived.Test.YtpfpmjdifnoeoaaF159
import Derived.Test.YtpfpmjdifnoeoaaF162
import Derived.Test.YtpfpmjdifnoeoaaF163
import Derived.Test.YtpfpmjdifnoeoaaF131
namespace Go.Proofs.Ytpfpmjdifnoeoaa.F
open Go.RowKit Go.Proofs.YtpfpmjdifnoeoaaW.PrintWords Go.Proofs.YtpfpmjdifnoeoaaW.PrintLast Go.Proofs.YtpfpmjdifnoeoaaW.PrintMore
attribute [local go_sem] max2_int min2_int max_two min_two max_three min_three max_four min_four
set_option linter.unusedVariables false
set_option linter.unusedSimpArgs false

/-! ### gemotref1_End: function 126 -/
/-! #### gemotref1_End_p: function 126 -/
mutual
def gemotref1_End_p.j0 : Nat → ByteArray → Int → Int → Int → Int → Option (Int × Int)
  | 0, _, _, _, _, _ => none
  | k + 1, x0, x1, x2, x9, x10 => if x9 < 0 then (gemotref1_End_p.j1 k x0 x1 x2 x9 x10 true) else (if 0 ≤ x1 then (if x1 < (x0.size : Int) then (if (bt x0 x1) = 107 then (if x10 ≥ (x0.size : Int) then (gemotref1_End_p.j1 k x0 x1 x2 x9 x10 true) else (if 0 ≤ x10 then (if x10 < (x0.size : Int) then (if (bt x0 x10) = 103 then (gemotref1_End_p.j1 k x0 x1 x2 x9 x10 false) else (gemotref1_End_p.j1 k x0 x1 x2 x9 x10 ((bt x0 x10) != 101))) else (none)) else (none))) else (gemotref1_End_p.j1 k x0 x1 x2 x9 x10 false)) else (none)) else (none))
def gemotref1_End_p.j1 : Nat → ByteArray → Int → Int → Int → Int → Bool → Option (Int × Int)
  | 0, _, _, _, _, _, _ => none
  | k + 1, x0, x1, x2, x9, x10, x88 => if x88 = true then (some ((-1), 0)) else (gemotref1_End_p.l0 k x0 x1 x2 x9 x10 0 (⟨#[]⟩ : ByteArray) 0)
def gemotref1_End_p.l0 : Nat → ByteArray → Int → Int → Int → Int → Int → ByteArray → Int → Option (Int × Int)
  | 0, _, _, _, _, _, _, _, _ => none
  | k + 1, x0, x1, x2, x9, x10, x11, x12, x13 => if x13 < x9 then ((gemotref1_End_p.f k x0 x10 (wrap64 (x2 - 1))).bind fun bt122 => (if bt122.1 < 0 then (some (bt122.1, 0)) else (if 0 ≤ x1 then (if x1 < (x0.size : Int) then (if (bt x0 x1) = 101 then (if 0 ≤ x10 then (if x10 ≤ bt122.1 then (if bt122.1 ≤ (x0.size : Int) then (if (Op.bytesLess ((x0.extract (x10 : Int).toNat (bt122.1 : Int).toNat).toList) x12.toList) = true then (some ((-1), 0)) else (gemotref1_End_p.l0 k x0 x1 x2 x9 bt122.1 (mx x11 bt122.2) (x0.extract (x10 : Int).toNat (bt122.1 : Int).toNat) (wrap64 (x13 + 1)))) else (none)) else (none)) else (none)) else (if 0 ≤ x10 then (if x10 ≤ bt122.1 then (if bt122.1 ≤ (x0.size : Int) then (gemotref1_End_p.l0 k x0 x1 x2 x9 bt122.1 (mx x11 bt122.2) (x0.extract (x10 : Int).toNat (bt122.1 : Int).toNat) (wrap64 (x13 + 1))) else (none)) else (none)) else (none))) else (none)) else (none)))) else (some (x10, wrap64 (x11 + 1)))
def gemotref1_End_p.f : Nat → ByteArray → Int → Int → Option (Int × Int)
  | 0, _, _, _ => none
  | k + 1, a0, a1, a2 => if a2 = 0 then (some ((-2), 0)) else (if a1 ≥ (a0.size : Int) then (some ((-1), 0)) else (if 0 ≤ a1 then (if a1 ≤ (a0.size : Int) then ((gemotref1_leaf.f (a0.extract (a1 : Int).toNat a0.size)).bind fun t120 => (if t120 > 0 then (some (wrap64 (a1 + t120), 1)) else (if a1 < (a0.size : Int) then ((gemotref1_parts.f (bt a0 a1)).bind fun t121 => (if (bt a0 a1) = 101 then (if (wrap64 (a1 + 1)) ≥ (a0.size : Int) then (some ((-1), 0)) else (if 0 ≤ (wrap64 (a1 + 1)) then (if (wrap64 (a1 + 1)) < (a0.size : Int) then (if (bt a0 (wrap64 (a1 + 1))) < 1 then (some ((-1), 0)) else (if (bt a0 (wrap64 (a1 + 1))) > 32 then (some ((-1), 0)) else (gemotref1_End_p.j0 k a0 a1 a2 (wrap64 (bt a0 (wrap64 (a1 + 1)))) (wrap64 ((wrap64 (a1 + 1)) + 1))))) else (none)) else (none))) else (gemotref1_End_p.j0 k a0 a1 a2 t121 (wrap64 (a1 + 1))))) else (none)))) else (none)) else (none)))
end
theorem gemotref1_End_p.mono_l : ∀ k, (∀ y0 y1 y2, LeO (gemotref1_End_p.f k y0 y1 y2) (gemotref1_End_p.f (k + 1) y0 y1 y2)) ∧ (∀ y0 y1 y2 y3 y4, LeO (gemotref1_End_p.j0 k y0 y1 y2 y3 y4) (gemotref1_End_p.j0 (k + 1) y0 y1 y2 y3 y4)) ∧ (∀ y0 y1 y2 y3 y4 y5, LeO (gemotref1_End_p.j1 k y0 y1 y2 y3 y4 y5) (gemotref1_End_p.j1 (k + 1) y0 y1 y2 y3 y4 y5)) ∧ (∀ y0 y1 y2 y3 y4 y5 y6 y7, LeO (gemotref1_End_p.l0 k y0 y1 y2 y3 y4 y5 y6 y7) (gemotref1_End_p.l0 (k + 1) y0 y1 y2 y3 y4 y5 y6 y7))
  | 0 => ⟨fun _ _ _ r h => by simp [gemotref1_End_p.f] at h, fun _ _ _ _ _ r h => by simp [gemotref1_End_p.j0] at h, fun _ _ _ _ _ _ r h => by simp [gemotref1_End_p.j1] at h, fun _ _ _ _ _ _ _ _ r h => by simp [gemotref1_End_p.l0] at h⟩
  | k + 1 => by
    obtain ⟨ih0, ih1, ih2, ih3⟩ := gemotref1_End_p.mono_l k
    refine ⟨?_, ?_, ?_, ?_⟩
    · intro y0 y1 y2
      unfold gemotref1_End_p.f
      repeat' first
      | (with_reducible exact ih0 _ _ _)
      | (with_reducible exact ih1 _ _ _ _ _)
      | (with_reducible exact ih2 _ _ _ _ _ _)
      | (with_reducible exact ih3 _ _ _ _ _ _ _ _)
      | (with_reducible exact LeO.refl _)
      | (with_reducible exact LeO.none _)
      | (with_reducible refine LeO.ite ?_ ?_)
      | (with_reducible refine LeO.bind ?_ (fun _ => ?_))
      | exact ih0 _ _ _
      | exact ih1 _ _ _ _ _
      | exact ih2 _ _ _ _ _ _
      | exact ih3 _ _ _ _ _ _ _ _
      | exact LeO.none _
      | refine LeO.ite ?_ ?_
      | refine LeO.bind ?_ (fun _ => ?_)
    · intro y0 y1 y2 y3 y4
      unfold gemotref1_End_p.j0
      repeat' first
      | (with_reducible exact ih0 _ _ _)
      | (with_reducible exact ih1 _ _ _ _ _)
      | (with_reducible exact ih2 _ _ _ _ _ _)
      | (with_reducible exact ih3 _ _ _ _ _ _ _ _)
      | (with_reducible exact LeO.refl _)
      | (with_reducible exact LeO.none _)
      | (with_reducible refine LeO.ite ?_ ?_)
      | (with_reducible refine LeO.bind ?_ (fun _ => ?_))
      | exact ih0 _ _ _
      | exact ih1 _ _ _ _ _
      | exact ih2 _ _ _ _ _ _
      | exact ih3 _ _ _ _ _ _ _ _
      | exact LeO.none _
      | refine LeO.ite ?_ ?_
      | refine LeO.bind ?_ (fun _ => ?_)
    · intro y0 y1 y2 y3 y4 y5
      unfold gemotref1_End_p.j1
      repeat' first
      | (with_reducible exact ih0 _ _ _)
      | (with_reducible exact ih1 _ _ _ _ _)
      | (with_reducible exact ih2 _ _ _ _ _ _)
      | (with_reducible exact ih3 _ _ _ _ _ _ _ _)
      | (with_reducible exact LeO.refl _)
      | (with_reducible exact LeO.none _)
      | (with_reducible refine LeO.ite ?_ ?_)
      | (with_reducible refine LeO.bind ?_ (fun _ => ?_))
      | exact ih0 _ _ _
      | exact ih1 _ _ _ _ _
      | exact ih2 _ _ _ _ _ _
      | exact ih3 _ _ _ _ _ _ _ _
      | exact LeO.none _
      | refine LeO.ite ?_ ?_
      | refine LeO.bind ?_ (fun _ => ?_)
    · intro y0 y1 y2 y3 y4 y5 y6 y7
      unfold gemotref1_End_p.l0
      repeat' first
      | (with_reducible exact ih0 _ _ _)
      | (with_reducible exact ih1 _ _ _ _ _)
      | (with_reducible exact ih2 _ _ _ _ _ _)
      | (with_reducible exact ih3 _ _ _ _ _ _ _ _)
      | (with_reducible exact LeO.refl _)
      | (with_reducible exact LeO.none _)
      | (with_reducible refine LeO.ite ?_ ?_)
      | (with_reducible refine LeO.bind ?_ (fun _ => ?_))
      | exact ih0 _ _ _
      | exact ih1 _ _ _ _ _
      | exact ih2 _ _ _ _ _ _
      | exact ih3 _ _ _ _ _ _ _ _
      | exact LeO.none _
      | refine LeO.ite ?_ ?_
      | refine LeO.bind ?_ (fun _ => ?_)
theorem gemotref1_End_p.mono : ∀ a0 a1 a2 k, LeO (gemotref1_End_p.f k a0 a1 a2) (gemotref1_End_p.f (k + 1) a0 a1 a2) := by
  intro a0 a1 a2 k
  obtain ⟨ih0, ih1, ih2, ih3⟩ := gemotref1_End_p.mono_l k
  exact ih0 a0 a1 a2
set_option maxHeartbeats 8000000 in
set_option maxRecDepth 100000 in
theorem gemotref1_End_p.calls (k : Nat) : ∀ (a0 : ByteArray) (a1 : Int) (a2 : Int) (r1 : Int) (r2 : Int) (w : World) (h : gemotref1_End_p.f k a0 a1 a2 = some (r1, r2)),
    Calls Try.prog 126 #[.string a0, .int .i64 a1, .int .i64 a2] w fun e w' => e = .returned (.tuple #[.int .i64 r1, .int .i64 r2]) ∧ Below w.heap.size w w' := by
  induction k using Nat.strongRecOn with
  | _ k ih =>
  intro a0 a1 a2 r1 r2 w h
  cases k with
  | zero => exact absurd h (by simp [gemotref1_End_p.f])
  | succ k =>
  simp only [gemotref1_End_p.f] at h
  have HB := Aside0.mk (Below.refl w.heap.size w)
  have H : (if a2 = 0 then (some ((-2), 0)) else (if a1 ≥ (a0.size : Int) then (some ((-1), 0)) else (if 0 ≤ a1 then (if a1 ≤ (a0.size : Int) then ((gemotref1_leaf.f (a0.extract (a1 : Int).toNat a0.size)).bind fun t120 => (if t120 > 0 then (some (wrap64 (a1 + t120), 1)) else (if a1 < (a0.size : Int) then ((gemotref1_parts.f (bt a0 a1)).bind fun t121 => (if (bt a0 a1) = 101 then (if (wrap64 (a1 + 1)) ≥ (a0.size : Int) then (some ((-1), 0)) else (if 0 ≤ (wrap64 (a1 + 1)) then (if (wrap64 (a1 + 1)) < (a0.size : Int) then (if (bt a0 (wrap64 (a1 + 1))) < 1 then (some ((-1), 0)) else (if (bt a0 (wrap64 (a1 + 1))) > 32 then (some ((-1), 0)) else (gemotref1_End_p.j0 k a0 a1 a2 (wrap64 (bt a0 (wrap64 (a1 + 1)))) (wrap64 ((wrap64 (a1 + 1)) + 1))))) else (none)) else (none))) else (gemotref1_End_p.j0 k a0 a1 a2 t121 (wrap64 (a1 + 1))))) else (none)))) else (none)) else (none)))) = some (r1, r2) := h
  clear h
  by_cases c4 : a2 = 0
  · rw [if_pos c4] at H
    have c4b0 : (a2 == 0) = true := beq_iff_eq.mpr c4
    have c4b1 : (a2 != 0) = false := bne_eq_false_iff_eq.mpr c4
    clear c4
    simp only [Option.some.injEq, Prod.mk.injEq] at H
    obtain ⟨rfl, rfl⟩ := H
    go_enter Try.func126, Try.ntmps126
    go_wp2
    go_ret2
    exact ⟨by first | rfl | (simp [errW_none, errW_some] <;> rfl) | (simp [*, errW_none, errW_some] <;> rfl), by repeat (first | (with_reducible first | exact HB.out | apply below_alloc | apply pw_below_drewN | apply below_drew1) | exact HB.out)⟩
  · rw [if_neg c4] at H
    have c4b0 : (a2 == 0) = false := beq_eq_false_iff_ne.mpr c4
    have c4b1 : (a2 != 0) = true := bne_iff_ne.mpr c4
    by_cases c5 : a1 ≥ (a0.size : Int)
    · rw [if_pos c5] at H
      have c5b0 : decide ((a0.size : Int) ≤ a1) = true := decide_eq_true c5
      clear c5
      simp only [Option.some.injEq, Prod.mk.injEq] at H
      obtain ⟨rfl, rfl⟩ := H
      go_enter Try.func126, Try.ntmps126
      go_wp2
      go_ret2
      exact ⟨by first | rfl | (simp [errW_none, errW_some] <;> rfl) | (simp [*, errW_none, errW_some] <;> rfl), by repeat (first | (with_reducible first | exact HB.out | apply below_alloc | apply pw_below_drewN | apply below_drew1) | exact HB.out)⟩
    · rw [if_neg c5] at H
      have c5b0 : decide ((a0.size : Int) ≤ a1) = false := decide_eq_false c5
      clear c5
      by_cases c6 : 0 ≤ a1
      · rw [if_pos c6] at H
        have c6b0 := eq_true c6
        have c6b1 : decide (0 ≤ a1) = true := decide_eq_true c6
        clear c6
        by_cases c7 : a1 ≤ (a0.size : Int)
        · rw [if_pos c7] at H
          have c7b0 := eq_true c7
          have c7b1 : decide (a1 ≤ (a0.size : Int)) = true := decide_eq_true c7
          clear c7
          replace H := Option.bind_eq_some_iff.mp H
          obtain ⟨t120, A80, H⟩ := H
          replace H : (if t120 > 0 then (some (wrap64 (a1 + t120), 1)) else (if a1 < (a0.size : Int) then ((gemotref1_parts.f (bt a0 a1)).bind fun t121 => (if (bt a0 a1) = 101 then (if (wrap64 (a1 + 1)) ≥ (a0.size : Int) then (some ((-1), 0)) else (if 0 ≤ (wrap64 (a1 + 1)) then (if (wrap64 (a1 + 1)) < (a0.size : Int) then (if (bt a0 (wrap64 (a1 + 1))) < 1 then (some ((-1), 0)) else (if (bt a0 (wrap64 (a1 + 1))) > 32 then (some ((-1), 0)) else (gemotref1_End_p.j0 k a0 a1 a2 (wrap64 (bt a0 (wrap64 (a1 + 1)))) (wrap64 ((wrap64 (a1 + 1)) + 1))))) else (none)) else (none))) else (gemotref1_End_p.j0 k a0 a1 a2 t121 (wrap64 (a1 + 1))))) else (none))) = some (r1, r2) := H
          have A8 := Aside0.mk A80
          clear A80
          by_cases c9 : t120 > 0
          · rw [if_pos c9] at H
            have c9b0 : decide (0 < t120) = true := decide_eq_true c9
            clear c9
            simp only [Option.some.injEq, Prod.mk.injEq] at H
            obtain ⟨rfl, rfl⟩ := H
            go_enter Try.func126, Try.ntmps126
            go_wp2_with (first | ((with_reducible refine gate_callee (f := 158) rfl ?_); refine goesL_ (some 25) rfl rfl Try.func158 (by kernel_rfl) rfl #[.string (a0.extract (a1 : Int).toNat a0.size)] rfl (by (try simp only [List.map_toArray, List.map_cons, List.map_nil]); first | done | rfl | (simp only [List.length_drop, List.length_take]; rfl)) ?_; (with_reducible refine (gemotref1_leaf.calls (a0.extract (a1 : Int).toNat a0.size) t120 _ A8.out).mono ?_); rintro e w' ⟨rfl, ⟨nd, rfl⟩⟩; refine ⟨_, rfl, ?_⟩))
            go_ret2
            exact ⟨by first | rfl | (simp [errW_none, errW_some] <;> rfl) | (simp [*, errW_none, errW_some] <;> rfl), by repeat (first | (with_reducible first | exact HB.out | apply below_alloc | apply pw_below_drewN | apply below_drew1) | exact HB.out)⟩
          · rw [if_neg c9] at H
            have c9b0 : decide (0 < t120) = false := decide_eq_false c9
            clear c9
            by_cases c10 : a1 < (a0.size : Int)
            · rw [if_pos c10] at H
              have c10b0 : decide (a1 < (a0.size : Int)) = true := decide_eq_true c10
              clear c10
              replace H := Option.bind_eq_some_iff.mp H
              obtain ⟨t121, A120, H⟩ := H
              replace H : (if (bt a0 a1) = 101 then (if (wrap64 (a1 + 1)) ≥ (a0.size : Int) then (some ((-1), 0)) else (if 0 ≤ (wrap64 (a1 + 1)) then (if (wrap64 (a1 + 1)) < (a0.size : Int) then (if (bt a0 (wrap64 (a1 + 1))) < 1 then (some ((-1), 0)) else (if (bt a0 (wrap64 (a1 + 1))) > 32 then (some ((-1), 0)) else (gemotref1_End_p.j0 k a0 a1 a2 (wrap64 (bt a0 (wrap64 (a1 + 1)))) (wrap64 ((wrap64 (a1 + 1)) + 1))))) else (none)) else (none))) else (gemotref1_End_p.j0 k a0 a1 a2 t121 (wrap64 (a1 + 1)))) = some (r1, r2) := H
              have A12 := Aside0.mk A120
              clear A120
              have HC14 := Aside0.mk H
              clear H
              go_enter Try.func126, Try.ntmps126
              go_upto_if 40 with (first | ((with_reducible refine gate_callee (f := 158) rfl ?_); refine goesL_ (some 25) rfl rfl Try.func158 (by kernel_rfl) rfl #[.string (a0.extract (a1 : Int).toNat a0.size)] rfl (by (try simp only [List.map_toArray, List.map_cons, List.map_nil]); first | done | rfl | (simp only [List.length_drop, List.length_take]; rfl)) ?_; (with_reducible refine (gemotref1_leaf.calls (a0.extract (a1 : Int).toNat a0.size) t120 _ A8.out).mono ?_); rintro e w' ⟨rfl, ⟨nd, rfl⟩⟩; refine ⟨_, rfl, ?_⟩; have p11 : 0 ≤ (a1 : Int) := of_decide_eq_true (by first | (with_reducible assumption) | assumption); have q11 : a1 < (a0.size : Int) := of_decide_eq_true (by first | (with_reducible assumption) | assumption); have hx11 := bt_at a0 a1; replace p11 := eq_true p11; replace q11 := eq_true q11) | ((with_reducible refine gate_callee (f := 159) rfl ?_); refine goesL_ (some 34) rfl rfl Try.func159 (by kernel_rfl) rfl #[.int .u8 (bt a0 a1)] rfl (by (try simp only [List.map_toArray, List.map_cons, List.map_nil]); first | done | rfl | (simp only [List.length_drop, List.length_take]; rfl)) ?_; (with_reducible refine (gemotref1_parts.calls (bt a0 a1) t121 _ A12.out).mono ?_); rintro e w' ⟨rfl, ⟨nd, rfl⟩⟩; refine ⟨_, rfl, ?_⟩; have p13 : 0 ≤ (a1 : Int) := of_decide_eq_true (by first | (with_reducible assumption) | assumption); have q13 : a1 < (a0.size : Int) := of_decide_eq_true (by first | (with_reducible assumption) | assumption); have hx13 := bt_at a0 a1; replace p13 := eq_true p13; replace q13 := eq_true q13))
              (try simp only [Act.put, List.setIfInBounds_toArray, List.set_cons_zero, List.set_cons_succ])
              go_cut [9, 10] (fun v9 v10 wc => ∃ (kq : Nat) (x9_13 : Int) (x10_13 : Int), v9 = .int .i64 x9_13 ∧ v10 = .int .i64 x10_13 ∧ Aside0 (gemotref1_End_p.j0 kq a0 a1 a2 x9_13 x10_13 = some (r1, r2)) ∧ Aside0 (kq ≤ k) ∧ Aside0 (Below w.heap.size w wc))
              case first =>
                have H := HC14.out
                clear HC14
                by_cases c15 : (bt a0 a1) = 101
                · rw [if_pos c15] at H
                  have c15b0 : ((bt a0 a1) == 101) = true := beq_iff_eq.mpr c15
                  have c15b1 : ((bt a0 a1) != 101) = false := bne_eq_false_iff_eq.mpr c15
                  clear c15
                  (first | rw [c15b0] | (simp only [i64_w, i32_w]; rw [c15b0]) | skip)
                  by_cases c16 : (wrap64 (a1 + 1)) ≥ (a0.size : Int)
                  · rw [if_pos c16] at H
                    have c16b0 : decide ((a0.size : Int) ≤ (wrap64 (a1 + 1))) = true := decide_eq_true c16
                    clear c16
                    simp only [Option.some.injEq, Prod.mk.injEq] at H
                    obtain ⟨rfl, rfl⟩ := H
                    go_wp2
                    go_ret2
                    exact ⟨by first | rfl | (simp [errW_none, errW_some] <;> rfl) | (simp [*, errW_none, errW_some] <;> rfl), by repeat (first | (with_reducible first | exact HB.out | apply below_alloc | apply pw_below_drewN | apply below_drew1) | exact HB.out)⟩
                  · rw [if_neg c16] at H
                    have c16b0 : decide ((a0.size : Int) ≤ (wrap64 (a1 + 1))) = false := decide_eq_false c16
                    clear c16
                    obtain ⟨ji17, hji17⟩ : ∃ j_ : Int, (wrap64 (a1 + 1)) = j_ := ⟨_, rfl⟩
                    replace H : (if 0 ≤ (ji17) then (if (ji17) < (a0.size : Int) then (if (bt a0 (ji17)) < 1 then (some ((-1), 0)) else (if (bt a0 (ji17)) > 32 then (some ((-1), 0)) else (gemotref1_End_p.j0 k a0 a1 a2 (wrap64 (bt a0 (ji17))) (wrap64 ((ji17) + 1))))) else (none)) else (none)) = some (r1, r2) := by first | (rw [hji17] at H; exact H) | (simp only [hji17] at H ⊢; exact H)
                    (try rw [hji17] at c16b0)
                    have hji17w : (IntKind.i64.wrap (a1 + 1)) = ji17 := (i64_w _).trans hji17
                    by_cases c18 : 0 ≤ (ji17)
                    · rw [if_pos c18] at H
                      have c18b0 : decide (0 ≤ (ji17)) = true := decide_eq_true c18
                      clear c18
                      by_cases c19 : (ji17) < (a0.size : Int)
                      · rw [if_pos c19] at H
                        have c19b0 : decide ((ji17) < (a0.size : Int)) = true := decide_eq_true c19
                        clear c19
                        by_cases c21 : (bt a0 (ji17)) < 1
                        · rw [if_pos c21] at H
                          have c21b0 : decide ((bt a0 (ji17)) < 1) = true := decide_eq_true c21
                          clear c21
                          simp only [Option.some.injEq, Prod.mk.injEq] at H
                          obtain ⟨rfl, rfl⟩ := H
                          have p20 : 0 ≤ ((ji17) : Int) := of_decide_eq_true (by first | (with_reducible assumption) | assumption)
                          have q20 : (ji17) < (a0.size : Int) := of_decide_eq_true (by first | (with_reducible assumption) | assumption)
                          have hx20 := bt_at a0 (ji17)
                          replace p20 := eq_true p20
                          replace q20 := eq_true q20
                          go_wp2
                          go_ret2
                          exact ⟨by first | rfl | (simp [errW_none, errW_some] <;> rfl) | (simp only [← hji17]; first | rfl | (simp [errW_none, errW_some] <;> rfl)) | (simp [*, errW_none, errW_some] <;> rfl), by repeat (first | (with_reducible first | exact HB.out | apply below_alloc | apply pw_below_drewN | apply below_drew1) | exact HB.out)⟩
                        · rw [if_neg c21] at H
                          have c21b0 : decide ((bt a0 (ji17)) < 1) = false := decide_eq_false c21
                          clear c21
                          by_cases c23 : (bt a0 (ji17)) > 32
                          · rw [if_pos c23] at H
                            have c23b0 : decide (32 < (bt a0 (ji17))) = true := decide_eq_true c23
                            clear c23
                            simp only [Option.some.injEq, Prod.mk.injEq] at H
                            obtain ⟨rfl, rfl⟩ := H
                            have p20 : 0 ≤ ((ji17) : Int) := of_decide_eq_true (by first | (with_reducible assumption) | assumption)
                            have q20 : (ji17) < (a0.size : Int) := of_decide_eq_true (by first | (with_reducible assumption) | assumption)
                            have hx20 := bt_at a0 (ji17)
                            replace p20 := eq_true p20
                            replace q20 := eq_true q20
                            have p22 : 0 ≤ ((ji17) : Int) := of_decide_eq_true (by first | (with_reducible assumption) | assumption)
                            have q22 : (ji17) < (a0.size : Int) := of_decide_eq_true (by first | (with_reducible assumption) | assumption)
                            have hx22 := bt_at a0 (ji17)
                            replace p22 := eq_true p22
                            replace q22 := eq_true q22
                            go_wp2
                            go_ret2
                            exact ⟨by first | rfl | (simp [errW_none, errW_some] <;> rfl) | (simp only [← hji17]; first | rfl | (simp [errW_none, errW_some] <;> rfl)) | (simp [*, errW_none, errW_some] <;> rfl), by repeat (first | (with_reducible first | exact HB.out | apply below_alloc | apply pw_below_drewN | apply below_drew1) | exact HB.out)⟩
                          · rw [if_neg c23] at H
                            have c23b0 : decide (32 < (bt a0 (ji17))) = false := decide_eq_false c23
                            clear c23
                            have H' := Aside0.mk H
                            clear H
                            have p20 : 0 ≤ ((ji17) : Int) := of_decide_eq_true (by first | (with_reducible assumption) | assumption)
                            have q20 : (ji17) < (a0.size : Int) := of_decide_eq_true (by first | (with_reducible assumption) | assumption)
                            have hx20 := bt_at a0 (ji17)
                            replace p20 := eq_true p20
                            replace q20 := eq_true q20
                            have p22 : 0 ≤ ((ji17) : Int) := of_decide_eq_true (by first | (with_reducible assumption) | assumption)
                            have q22 : (ji17) < (a0.size : Int) := of_decide_eq_true (by first | (with_reducible assumption) | assumption)
                            have hx22 := bt_at a0 (ji17)
                            replace p22 := eq_true p22
                            replace q22 := eq_true q22
                            have p24 : 0 ≤ ((ji17) : Int) := of_decide_eq_true (by first | (with_reducible assumption) | assumption)
                            have q24 : (ji17) < (a0.size : Int) := of_decide_eq_true (by first | (with_reducible assumption) | assumption)
                            have hx24 := bt_at a0 (ji17)
                            replace p24 := eq_true p24
                            replace q24 := eq_true q24
                            go_wp2
                            go_meet
                            case rel => exact ⟨_, (wrap64 (bt a0 (ji17))), (wrap64 ((ji17) + 1)), (by first | rfl | (simp; done) | (simp only [← hji17] <;> (first | rfl | simp)) | (simp [*]; done)), (by first | rfl | (simp; done) | (simp only [← hji17] <;> (first | rfl | simp)) | (simp [*]; done)), H', ⟨by first | omega | exact Nat.le_refl _⟩, ⟨by repeat (first | (with_reducible first | exact HB.out | apply below_alloc | apply pw_below_drewN | apply below_drew1) | exact HB.out)⟩⟩
                      · rw [if_neg c19] at H
                        exact absurd H (by simp)
                    · rw [if_neg c18] at H
                      exact absurd H (by simp)
                · rw [if_neg c15] at H
                  have c15b0 : ((bt a0 a1) == 101) = false := beq_eq_false_iff_ne.mpr c15
                  have c15b1 : ((bt a0 a1) != 101) = true := bne_iff_ne.mpr c15
                  (first | rw [c15b0] | (simp only [i64_w, i32_w]; rw [c15b0]) | skip)
                  have H' := Aside0.mk H
                  clear H
                  go_wp2
                  go_meet
                  case rel => exact ⟨_, (t121), (wrap64 (a1 + 1)), (by first | rfl | (simp; done) | (simp [*]; done)), (by first | rfl | (simp; done) | (simp [*]; done)), H', ⟨by first | omega | exact Nat.le_refl _⟩, ⟨by repeat (first | (with_reducible first | exact HB.out | apply below_alloc | apply pw_below_drewN | apply below_drew1) | exact HB.out)⟩⟩
              case rest =>
                clear HC14
                try clear c1
                try clear p1
                try clear q1
                try clear hx1
                try clear c2
                try clear p2
                try clear q2
                try clear hx2
                try clear c4
                try clear c4b0
                try clear c4b1
                try clear c5
                try clear c5b0
                try clear c6
                try clear c6b0
                try clear c6b1
                try clear p6
                try clear c7
                try clear c7b0
                try clear c7b1
                try clear c9
                try clear c9b0
                try clear c10
                try clear c10b0
                try clear p11
                try clear q11
                try clear hx11
                try clear c12
                try clear p13
                try clear q13
                try clear hx13
                try clear c15
                try clear c15b0
                try clear c15b1
                try clear c16
                try clear c16b0
                try clear c18
                try clear c18b0
                try clear c19
                try clear c19b0
                try clear p20
                try clear q20
                try clear hx20
                try clear c21
                try clear c21b0
                try clear p22
                try clear q22
                try clear hx22
                try clear c23
                try clear c23b0
                try clear p24
                try clear q24
                try clear hx24
                try clear p11
                try clear p13
                try clear p20
                try clear p22
                try clear p24
                try clear q11
                try clear q13
                try clear q20
                try clear q22
                try clear q24
                obtain ⟨kq, x9_13, x10_13, rfl, rfl, HA, HJ13, HB⟩ := hcut
                cases kq with
                | zero => exact absurd HA.out (by simp [gemotref1_End_p.j0])
                | succ kj13 =>
                  have H := HA.out
                  clear HA
                  simp only [gemotref1_End_p.j0] at H
                  have HC25 := Aside0.mk H
                  clear H
                  go_upto_region 15 with (fail)
                  go_cut [88] (fun v88 wc => ∃ (kq : Nat) (x88_24 : Bool), v88 = .bool x88_24 ∧ Aside0 (gemotref1_End_p.j1 kq a0 a1 a2 x9_13 x10_13 x88_24 = some (r1, r2)) ∧ Aside0 (kq ≤ kj13) ∧ Aside0 (Below w.heap.size w wc))
                  case first =>
                    have H := HC25.out
                    clear HC25
                    by_cases c26 : x9_13 < 0
                    · rw [if_pos c26] at H
                      have c26b0 : decide (x9_13 < 0) = true := decide_eq_true c26
                      clear c26
                      (first | rw [c26b0] | (simp only [i64_w, i32_w]; rw [c26b0]) | skip)
                      have H' := Aside0.mk H
                      clear H
                      go_wp2
                      go_meet
                      case rel => exact ⟨_, (true), (by first | rfl | (simp; done) | (simp [*]; done)), H', ⟨by have := HJ13.out; first | omega | exact Nat.le_refl _⟩, ⟨by repeat (first | (with_reducible first | exact HB.out | apply below_alloc | apply pw_below_drewN | apply below_drew1) | exact HB.out)⟩⟩
                    · rw [if_neg c26] at H
                      have c26b0 : decide (x9_13 < 0) = false := decide_eq_false c26
                      clear c26
                      (first | rw [c26b0] | (simp only [i64_w, i32_w]; rw [c26b0]) | skip)
                      by_cases c27 : 0 ≤ a1
                      · rw [if_pos c27] at H
                        have c27b0 : decide (0 ≤ a1) = true := decide_eq_true c27
                        clear c27
                        by_cases c28 : a1 < (a0.size : Int)
                        · rw [if_pos c28] at H
                          have c28b0 : decide (a1 < (a0.size : Int)) = true := decide_eq_true c28
                          clear c28
                          by_cases c30 : (bt a0 a1) = 107
                          · rw [if_pos c30] at H
                            have c30b0 : ((bt a0 a1) == 107) = true := beq_iff_eq.mpr c30
                            have c30b1 : ((bt a0 a1) != 107) = false := bne_eq_false_iff_eq.mpr c30
                            clear c30
                            by_cases c31 : x10_13 ≥ (a0.size : Int)
                            · rw [if_pos c31] at H
                              have c31b0 : decide ((a0.size : Int) ≤ x10_13) = true := decide_eq_true c31
                              clear c31
                              have H' := Aside0.mk H
                              clear H
                              have p29 : 0 ≤ (a1 : Int) := of_decide_eq_true (by first | (with_reducible assumption) | assumption)
                              have q29 : a1 < (a0.size : Int) := of_decide_eq_true (by first | (with_reducible assumption) | assumption)
                              have hx29 := bt_at a0 a1
                              replace p29 := eq_true p29
                              replace q29 := eq_true q29
                              go_wp2
                              go_meet
                              case rel => exact ⟨_, (true), (by first | rfl | (simp; done) | (simp [*]; done)), H', ⟨by have := HJ13.out; first | omega | exact Nat.le_refl _⟩, ⟨by repeat (first | (with_reducible first | exact HB.out | apply below_alloc | apply pw_below_drewN | apply below_drew1) | exact HB.out)⟩⟩
                            · rw [if_neg c31] at H
                              have c31b0 : decide ((a0.size : Int) ≤ x10_13) = false := decide_eq_false c31
                              clear c31
                              by_cases c32 : 0 ≤ x10_13
                              · rw [if_pos c32] at H
                                have c32b0 : decide (0 ≤ x10_13) = true := decide_eq_true c32
                                clear c32
                                by_cases c33 : x10_13 < (a0.size : Int)
                                · rw [if_pos c33] at H
                                  have c33b0 : decide (x10_13 < (a0.size : Int)) = true := decide_eq_true c33
                                  clear c33
                                  by_cases c35 : (bt a0 x10_13) = 103
                                  · rw [if_pos c35] at H
                                    have c35b0 : ((bt a0 x10_13) == 103) = true := beq_iff_eq.mpr c35
                                    have c35b1 : ((bt a0 x10_13) != 103) = false := bne_eq_false_iff_eq.mpr c35
                                    clear c35
                                    have H' := Aside0.mk H
                                    clear H
                                    have p29 : 0 ≤ (a1 : Int) := of_decide_eq_true (by first | (with_reducible assumption) | assumption)
                                    have q29 : a1 < (a0.size : Int) := of_decide_eq_true (by first | (with_reducible assumption) | assumption)
                                    have hx29 := bt_at a0 a1
                                    replace p29 := eq_true p29
                                    replace q29 := eq_true q29
                                    have p34 : 0 ≤ (x10_13 : Int) := of_decide_eq_true (by first | (with_reducible assumption) | assumption)
                                    have q34 : x10_13 < (a0.size : Int) := of_decide_eq_true (by first | (with_reducible assumption) | assumption)
                                    have hx34 := bt_at a0 x10_13
                                    replace p34 := eq_true p34
                                    replace q34 := eq_true q34
                                    go_wp2
                                    go_meet
                                    case rel => exact ⟨_, (false), (by first | rfl | (simp; done) | (simp [*]; done)), H', ⟨by have := HJ13.out; first | omega | exact Nat.le_refl _⟩, ⟨by repeat (first | (with_reducible first | exact HB.out | apply below_alloc | apply pw_below_drewN | apply below_drew1) | exact HB.out)⟩⟩
                                  · rw [if_neg c35] at H
                                    have c35b0 : ((bt a0 x10_13) == 103) = false := beq_eq_false_iff_ne.mpr c35
                                    have c35b1 : ((bt a0 x10_13) != 103) = true := bne_iff_ne.mpr c35
                                    have H' := Aside0.mk H
                                    clear H
                                    have p29 : 0 ≤ (a1 : Int) := of_decide_eq_true (by first | (with_reducible assumption) | assumption)
                                    have q29 : a1 < (a0.size : Int) := of_decide_eq_true (by first | (with_reducible assumption) | assumption)
                                    have hx29 := bt_at a0 a1
                                    replace p29 := eq_true p29
                                    replace q29 := eq_true q29
                                    have p34 : 0 ≤ (x10_13 : Int) := of_decide_eq_true (by first | (with_reducible assumption) | assumption)
                                    have q34 : x10_13 < (a0.size : Int) := of_decide_eq_true (by first | (with_reducible assumption) | assumption)
                                    have hx34 := bt_at a0 x10_13
                                    replace p34 := eq_true p34
                                    replace q34 := eq_true q34
                                    have p36 : 0 ≤ (x10_13 : Int) := of_decide_eq_true (by first | (with_reducible assumption) | assumption)
                                    have q36 : x10_13 < (a0.size : Int) := of_decide_eq_true (by first | (with_reducible assumption) | assumption)
                                    have hx36 := bt_at a0 x10_13
                                    replace p36 := eq_true p36
                                    replace q36 := eq_true q36
                                    go_wp2
                                    go_meet
                                    case rel => exact ⟨_, (((bt a0 x10_13) != 101)), (by first | rfl | (simp; done) | (simp [*]; done)), H', ⟨by have := HJ13.out; first | omega | exact Nat.le_refl _⟩, ⟨by repeat (first | (with_reducible first | exact HB.out | apply below_alloc | apply pw_below_drewN | apply below_drew1) | exact HB.out)⟩⟩
                                · rw [if_neg c33] at H
                                  exact absurd H (by simp)
                              · rw [if_neg c32] at H
                                exact absurd H (by simp)
                          · rw [if_neg c30] at H
                            have c30b0 : ((bt a0 a1) == 107) = false := beq_eq_false_iff_ne.mpr c30
                            have c30b1 : ((bt a0 a1) != 107) = true := bne_iff_ne.mpr c30
                            have H' := Aside0.mk H
                            clear H
                            have p29 : 0 ≤ (a1 : Int) := of_decide_eq_true (by first | (with_reducible assumption) | assumption)
                            have q29 : a1 < (a0.size : Int) := of_decide_eq_true (by first | (with_reducible assumption) | assumption)
                            have hx29 := bt_at a0 a1
                            replace p29 := eq_true p29
                            replace q29 := eq_true q29
                            go_wp2
                            go_meet
                            case rel => exact ⟨_, (false), (by first | rfl | (simp; done) | (simp [*]; done)), H', ⟨by have := HJ13.out; first | omega | exact Nat.le_refl _⟩, ⟨by repeat (first | (with_reducible first | exact HB.out | apply below_alloc | apply pw_below_drewN | apply below_drew1) | exact HB.out)⟩⟩
                        · rw [if_neg c28] at H
                          exact absurd H (by simp)
                      · rw [if_neg c27] at H
                        exact absurd H (by simp)
                  case rest =>
                    clear HC25
                    try clear c1
                    try clear p1
                    try clear q1
                    try clear hx1
                    try clear c2
                    try clear p2
                    try clear q2
                    try clear hx2
                    try clear c3
                    try clear p3
                    try clear q3
                    try clear hx3
                    try clear c4
                    try clear c4b0
                    try clear c4b1
                    try clear c5
                    try clear c5b0
                    try clear c6
                    try clear c6b0
                    try clear c6b1
                    try clear p6
                    try clear c7
                    try clear c7b0
                    try clear c7b1
                    try clear c9
                    try clear c9b0
                    try clear c10
                    try clear c10b0
                    try clear p11
                    try clear q11
                    try clear hx11
                    try clear c12
                    try clear p13
                    try clear q13
                    try clear hx13
                    try clear c15
                    try clear c15b0
                    try clear c15b1
                    try clear c16
                    try clear c16b0
                    try clear c18
                    try clear c18b0
                    try clear c19
                    try clear c19b0
                    try clear p20
                    try clear q20
                    try clear hx20
                    try clear c21
                    try clear c21b0
                    try clear p22
                    try clear q22
                    try clear hx22
                    try clear c23
                    try clear c23b0
                    try clear p24
                    try clear q24
                    try clear hx24
                    try clear c26
                    try clear c26b0
                    try clear c27
                    try clear c27b0
                    try clear c28
                    try clear c28b0
                    try clear p29
                    try clear q29
                    try clear hx29
                    try clear c30
                    try clear c30b0
                    try clear c30b1
                    try clear c31
                    try clear c31b0
                    try clear c32
                    try clear c32b0
                    try clear c33
                    try clear c33b0
                    try clear p34
                    try clear q34
                    try clear hx34
                    try clear c35
                    try clear c35b0
                    try clear c35b1
                    try clear p36
                    try clear q36
                    try clear hx36
                    try clear p1
                    try clear p11
                    try clear p13
                    try clear p2
                    try clear p20
                    try clear p22
                    try clear p24
                    try clear p29
                    try clear p34
                    try clear p36
                    try clear p6
                    try clear q1
                    try clear q11
                    try clear q13
                    try clear q2
                    try clear q20
                    try clear q22
                    try clear q24
                    try clear q29
                    try clear q34
                    try clear q36
                    obtain ⟨kq, x88_24, rfl, HA, HJ24, HB⟩ := hcut
                    cases kq with
                    | zero => exact absurd HA.out (by simp [gemotref1_End_p.j1])
                    | succ kj24 =>
                      have H := HA.out
                      clear HA
                      simp only [gemotref1_End_p.j1] at H
                      by_cases c37 : x88_24 = true
                      · subst c37
                        have H1 : (some ((-1), 0)) = some (r1, r2) := by rw [if_pos rfl] at H; exact H
                        clear H
                        have H := H1
                        clear H1
                        simp only [Option.some.injEq, Prod.mk.injEq] at H
                        obtain ⟨rfl, rfl⟩ := H
                        go_wp2
                        go_ret2
                        exact ⟨by first | rfl | (simp [errW_none, errW_some] <;> rfl) | (simp [*, errW_none, errW_some] <;> rfl), by repeat (first | (with_reducible first | exact HB.out | apply below_alloc | apply pw_below_drewN | apply below_drew1) | exact HB.out)⟩
                      · replace c37 := Bool.eq_false_iff.mpr c37
                        subst c37
                        have H1 : (gemotref1_End_p.l0 kj24 a0 a1 a2 x9_13 x10_13 0 (⟨#[]⟩ : ByteArray) 0) = some (r1, r2) := by rw [if_neg (show ¬ (false = true) by decide)] at H; exact H
                        clear H
                        have H := H1
                        clear H1
                        have H' := Aside0.mk H
                        clear H
                        go_wp2
                        go_loopg [10, 11, 12, 13] kj24 (fun kq v10 v11 v12 v13 w' => ∃ (x10_3 : Int) (x11_3 : Int) (x12_3 : ByteArray) (x13_3 : Int), v10 = .int .i64 x10_3 ∧ v11 = .int .i64 x11_3 ∧ v12 = .string x12_3 ∧ v13 = .int .i64 x13_3 ∧ Aside0 (gemotref1_End_p.l0 kq a0 a1 a2 x9_13 x10_3 x11_3 x12_3 x13_3 = some (r1, r2)) ∧ Aside0 (kq ≤ kj24) ∧ Aside0 (Below w.heap.size w w'))
                        case atStart => exact ⟨(x10_13), (0), ((⟨#[]⟩ : ByteArray)), (0), (by first | rfl | (simp; done) | (simp [*]; done)), (by first | rfl | (simp; done) | (simp [*]; done)), (by first | rfl | (simp; done) | (simp [*]; done)), (by first | rfl | (simp; done) | (simp [*]; done)), H', ⟨Nat.le_refl _⟩, ⟨by repeat (first | (with_reducible first | exact HB.out | apply below_alloc | apply pw_below_drewN | apply below_drew1) | exact HB.out)⟩⟩
                        case round =>
                          clear H'
                          try clear c1
                          try clear p1
                          try clear q1
                          try clear hx1
                          try clear c2
                          try clear p2
                          try clear q2
                          try clear hx2
                          try clear c3
                          try clear p3
                          try clear q3
                          try clear hx3
                          try clear c4
                          try clear c4b0
                          try clear c4b1
                          try clear c5
                          try clear c5b0
                          try clear c6
                          try clear c6b0
                          try clear c6b1
                          try clear p6
                          try clear c7
                          try clear c7b0
                          try clear c7b1
                          try clear c9
                          try clear c9b0
                          try clear c10
                          try clear c10b0
                          try clear p11
                          try clear q11
                          try clear hx11
                          try clear c12
                          try clear p13
                          try clear q13
                          try clear hx13
                          try clear c15
                          try clear c15b0
                          try clear c15b1
                          try clear c16
                          try clear c16b0
                          try clear c18
                          try clear c18b0
                          try clear c19
                          try clear c19b0
                          try clear p20
                          try clear q20
                          try clear hx20
                          try clear c21
                          try clear c21b0
                          try clear p22
                          try clear q22
                          try clear hx22
                          try clear c23
                          try clear c23b0
                          try clear p24
                          try clear q24
                          try clear hx24
                          try clear c26
                          try clear c26b0
                          try clear c27
                          try clear c27b0
                          try clear c28
                          try clear c28b0
                          try clear p29
                          try clear q29
                          try clear hx29
                          try clear c30
                          try clear c30b0
                          try clear c30b1
                          try clear c31
                          try clear c31b0
                          try clear c32
                          try clear c32b0
                          try clear c33
                          try clear c33b0
                          try clear p34
                          try clear q34
                          try clear hx34
                          try clear c35
                          try clear c35b0
                          try clear c35b1
                          try clear p36
                          try clear q36
                          try clear hx36
                          try clear c37
                          try clear p1
                          try clear p11
                          try clear p13
                          try clear p2
                          try clear p20
                          try clear p22
                          try clear p24
                          try clear p29
                          try clear p3
                          try clear p34
                          try clear p36
                          try clear p6
                          try clear q1
                          try clear q11
                          try clear q13
                          try clear q2
                          try clear q20
                          try clear q22
                          try clear q24
                          try clear q29
                          try clear q3
                          try clear q34
                          try clear q36
                          obtain ⟨x10_3, x11_3, x12_3, x13_3, rfl, rfl, rfl, rfl, HA, HK3, HB⟩ := hrel
                          cases gk with
                          | zero => exact absurd HA.out (by simp [gemotref1_End_p.l0])
                          | succ k3 =>
                            have H := HA.out
                            clear HA
                            simp only [gemotref1_End_p.l0] at H
                            by_cases c38 : x13_3 < x9_13
                            · rw [if_pos c38] at H
                              have c38b0 : decide (x13_3 < x9_13) = true := decide_eq_true c38
                              clear c38
                              replace H := Option.bind_eq_some_iff.mp H
                              obtain ⟨⟨t122, t123⟩, A390, H⟩ := H
                              replace H : (if t122 < 0 then (some (t122, 0)) else (if 0 ≤ a1 then (if a1 < (a0.size : Int) then (if (bt a0 a1) = 101 then (if 0 ≤ x10_3 then (if x10_3 ≤ t122 then (if t122 ≤ (a0.size : Int) then (if (Op.bytesLess ((a0.extract (x10_3 : Int).toNat (t122 : Int).toNat).toList) x12_3.toList) = true then (some ((-1), 0)) else (gemotref1_End_p.l0 k3 a0 a1 a2 x9_13 t122 (mx x11_3 t123) (a0.extract (x10_3 : Int).toNat (t122 : Int).toNat) (wrap64 (x13_3 + 1)))) else (none)) else (none)) else (none)) else (if 0 ≤ x10_3 then (if x10_3 ≤ t122 then (if t122 ≤ (a0.size : Int) then (gemotref1_End_p.l0 k3 a0 a1 a2 x9_13 t122 (mx x11_3 t123) (a0.extract (x10_3 : Int).toNat (t122 : Int).toNat) (wrap64 (x13_3 + 1))) else (none)) else (none)) else (none))) else (none)) else (none))) = some (r1, r2) := H
                              have A39 := Aside0.mk A390
                              clear A390
                              by_cases c40 : t122 < 0
                              · rw [if_pos c40] at H
                                have c40b0 : decide (t122 < 0) = true := decide_eq_true c40
                                clear c40
                                simp only [Option.some.injEq, Prod.mk.injEq] at H
                                obtain ⟨rfl, rfl⟩ := H
                                go_wp2_with (first | ((with_reducible refine gate_callee (f := 126) rfl ?_); refine goesL_ (some 99) rfl rfl Try.func126 (by kernel_rfl) rfl #[.string a0, .int .i64 x10_3, .int .i64 (wrap64 (a2 - 1))] rfl (by (try simp only [List.map_toArray, List.map_cons, List.map_nil]); first | done | rfl | (simp only [List.length_drop, List.length_take]; rfl)) ?_; (with_reducible refine (ih k3 (by have := HJ13.out; have := HJ24.out; have := HK3.out; omega) a0 x10_3 (wrap64 (a2 - 1)) t122 t123 _ A39.out).mono ?_); rintro e w41 ⟨rfl, hb⟩; refine ⟨_, rfl, ?_⟩; have n0_ := Aside0.mk (below_step (by repeat (first | (with_reducible first | exact HB.out | apply below_alloc | apply pw_below_drewN | apply below_drew1) | exact HB.out)) hb); clear HB; have HB := n0_; clear n0_; (try clear hb); (try clear hb2); (try clear hk); (try clear hi)))
                                go_ret2
                                exact ⟨by first | rfl | (simp [errW_none, errW_some] <;> rfl) | (simp [*, errW_none, errW_some] <;> rfl), by repeat (first | (with_reducible first | exact HB.out | apply below_alloc | apply pw_below_drewN | apply below_drew1) | exact HB.out)⟩
                              · rw [if_neg c40] at H
                                have c40b0 : decide (t122 < 0) = false := decide_eq_false c40
                                clear c40
                                by_cases c42 : 0 ≤ a1
                                · rw [if_pos c42] at H
                                  have c42b0 : decide (0 ≤ a1) = true := decide_eq_true c42
                                  clear c42
                                  by_cases c43 : a1 < (a0.size : Int)
                                  · rw [if_pos c43] at H
                                    have c43b0 : decide (a1 < (a0.size : Int)) = true := decide_eq_true c43
                                    clear c43
                                    by_cases c45 : (bt a0 a1) = 101
                                    · rw [if_pos c45] at H
                                      have c45b0 : ((bt a0 a1) == 101) = true := beq_iff_eq.mpr c45
                                      have c45b1 : ((bt a0 a1) != 101) = false := bne_eq_false_iff_eq.mpr c45
                                      clear c45
                                      by_cases c46 : 0 ≤ x10_3
                                      · rw [if_pos c46] at H
                                        have c46b0 := eq_true c46
                                        have c46b1 : decide (0 ≤ x10_3) = true := decide_eq_true c46
                                        clear c46
                                        by_cases c47 : x10_3 ≤ t122
                                        · rw [if_pos c47] at H
                                          have c47b0 := eq_true c47
                                          have c47b1 : decide (x10_3 ≤ t122) = true := decide_eq_true c47
                                          clear c47
                                          by_cases c48 : t122 ≤ (a0.size : Int)
                                          · rw [if_pos c48] at H
                                            have c48b0 := eq_true c48
                                            have c48b1 : decide (t122 ≤ (a0.size : Int)) = true := decide_eq_true c48
                                            clear c48
                                            by_cases c49 : (Op.bytesLess ((a0.extract (x10_3 : Int).toNat (t122 : Int).toNat).toList) x12_3.toList) = true
                                            · rw [if_pos c49] at H
                                              have c49b0 : (Op.bytesLess ((a0.extract (x10_3 : Int).toNat (t122 : Int).toNat).toList) x12_3.toList) = true := c49
                                              clear c49
                                              simp only [Option.some.injEq, Prod.mk.injEq] at H
                                              obtain ⟨rfl, rfl⟩ := H
                                              go_wp2_with (first | ((with_reducible refine gate_callee (f := 126) rfl ?_); refine goesL_ (some 99) rfl rfl Try.func126 (by kernel_rfl) rfl #[.string a0, .int .i64 x10_3, .int .i64 (wrap64 (a2 - 1))] rfl (by (try simp only [List.map_toArray, List.map_cons, List.map_nil]); first | done | rfl | (simp only [List.length_drop, List.length_take]; rfl)) ?_; (with_reducible refine (ih k3 (by have := HJ13.out; have := HJ24.out; have := HK3.out; omega) a0 x10_3 (wrap64 (a2 - 1)) t122 t123 _ A39.out).mono ?_); rintro e w50 ⟨rfl, hb⟩; refine ⟨_, rfl, ?_⟩; have n0_ := Aside0.mk (below_step (by repeat (first | (with_reducible first | exact HB.out | apply below_alloc | apply pw_below_drewN | apply below_drew1) | exact HB.out)) hb); clear HB; have HB := n0_; clear n0_; (try clear hb); (try clear hb2); (try clear hk); (try clear hi); have p44 : 0 ≤ (a1 : Int) := of_decide_eq_true (by first | (with_reducible assumption) | assumption); have q44 : a1 < (a0.size : Int) := of_decide_eq_true (by first | (with_reducible assumption) | assumption); have hx44 := bt_at a0 a1; replace p44 := eq_true p44; replace q44 := eq_true q44))
                                              go_ret2
                                              exact ⟨by first | rfl | (simp [errW_none, errW_some] <;> rfl) | (simp [*, errW_none, errW_some] <;> rfl), by repeat (first | (with_reducible first | exact HB.out | apply below_alloc | apply pw_below_drewN | apply below_drew1) | exact HB.out)⟩
                                            · rw [if_neg c49] at H
                                              have c49b0 : (Op.bytesLess ((a0.extract (x10_3 : Int).toNat (t122 : Int).toNat).toList) x12_3.toList) = false := by simpa using c49
                                              clear c49
                                              have c51b0 := eq_true (of_decide_eq_true (by first | (with_reducible assumption) | assumption) : 0 ≤ x10_3)
                                              have c52b0 := eq_true (of_decide_eq_true (by first | (with_reducible assumption) | assumption) : x10_3 ≤ t122)
                                              have c53b0 := eq_true (of_decide_eq_true (by first | (with_reducible assumption) | assumption) : t122 ≤ (a0.size : Int))
                                              obtain ⟨ji54, hji54⟩ : ∃ j_ : Int, (mx x11_3 t123) = j_ := ⟨_, rfl⟩
                                              replace H : (gemotref1_End_p.l0 k3 a0 a1 a2 x9_13 t122 ji54 (a0.extract (x10_3 : Int).toNat (t122 : Int).toNat) (wrap64 (x13_3 + 1))) = some (r1, r2) := by first | (rw [hji54] at H; exact H) | (simp only [hji54] at H ⊢; exact H)
                                              (try rw [hji54] at A39)
                                              have hji54_ : (if x11_3 < t123 then t123 else x11_3) = ji54 := hji54
                                              have H' := Aside0.mk H
                                              clear H
                                              go_wp2_with (first | ((with_reducible refine gate_callee (f := 126) rfl ?_); refine goesL_ (some 99) rfl rfl Try.func126 (by kernel_rfl) rfl #[.string a0, .int .i64 x10_3, .int .i64 (wrap64 (a2 - 1))] rfl (by (try simp only [List.map_toArray, List.map_cons, List.map_nil]); first | done | rfl | (simp only [List.length_drop, List.length_take]; rfl)) ?_; (with_reducible refine (ih k3 (by have := HJ13.out; have := HJ24.out; have := HK3.out; omega) a0 x10_3 (wrap64 (a2 - 1)) t122 t123 _ A39.out).mono ?_); rintro e w55 ⟨rfl, hb⟩; refine ⟨_, rfl, ?_⟩; have n0_ := Aside0.mk (below_step (by repeat (first | (with_reducible first | exact HB.out | apply below_alloc | apply pw_below_drewN | apply below_drew1) | exact HB.out)) hb); clear HB; have HB := n0_; clear n0_; (try clear hb); (try clear hb2); (try clear hk); (try clear hi); have p44 : 0 ≤ (a1 : Int) := of_decide_eq_true (by first | (with_reducible assumption) | assumption); have q44 : a1 < (a0.size : Int) := of_decide_eq_true (by first | (with_reducible assumption) | assumption); have hx44 := bt_at a0 a1; replace p44 := eq_true p44; replace q44 := eq_true q44))
                                              go_roundg k3
                                              case measure => have := HJ13.out; have := HJ24.out; have := HK3.out; omega
                                              case rel => exact ⟨(t122), (ji54), (a0.extract (x10_3 : Int).toNat (t122 : Int).toNat), (wrap64 (x13_3 + 1)), (by first | rfl | (simp; done) | (simp [*]; done)), (by first | rfl | (simp; done) | (simp only [← hji54] <;> (first | rfl | simp)) | (simp [*]; done)), (by first | rfl | (simp; done) | (simp [*]; done)), (by first | rfl | (simp; done) | (simp [*]; done)), H', ⟨by have := HJ13.out; have := HJ24.out; have := HK3.out; omega⟩, ⟨by repeat (first | (with_reducible first | exact HB.out | apply below_alloc | apply pw_below_drewN | apply below_drew1) | exact HB.out)⟩⟩
                                          · rw [if_neg c48] at H
                                            exact absurd H (by simp)
                                        · rw [if_neg c47] at H
                                          exact absurd H (by simp)
                                      · rw [if_neg c46] at H
                                        exact absurd H (by simp)
                                    · rw [if_neg c45] at H
                                      have c45b0 : ((bt a0 a1) == 101) = false := beq_eq_false_iff_ne.mpr c45
                                      have c45b1 : ((bt a0 a1) != 101) = true := bne_iff_ne.mpr c45
                                      by_cases c56 : 0 ≤ x10_3
                                      · rw [if_pos c56] at H
                                        have c56b0 := eq_true c56
                                        have c56b1 : decide (0 ≤ x10_3) = true := decide_eq_true c56
                                        clear c56
                                        by_cases c57 : x10_3 ≤ t122
                                        · rw [if_pos c57] at H
                                          have c57b0 := eq_true c57
                                          have c57b1 : decide (x10_3 ≤ t122) = true := decide_eq_true c57
                                          clear c57
                                          by_cases c58 : t122 ≤ (a0.size : Int)
                                          · rw [if_pos c58] at H
                                            have c58b0 := eq_true c58
                                            have c58b1 : decide (t122 ≤ (a0.size : Int)) = true := decide_eq_true c58
                                            clear c58
                                            obtain ⟨ji59, hji59⟩ : ∃ j_ : Int, (mx x11_3 t123) = j_ := ⟨_, rfl⟩
                                            replace H : (gemotref1_End_p.l0 k3 a0 a1 a2 x9_13 t122 ji59 (a0.extract (x10_3 : Int).toNat (t122 : Int).toNat) (wrap64 (x13_3 + 1))) = some (r1, r2) := by first | (rw [hji59] at H; exact H) | (simp only [hji59] at H ⊢; exact H)
                                            (try rw [hji59] at A39)
                                            have hji59_ : (if x11_3 < t123 then t123 else x11_3) = ji59 := hji59
                                            have H' := Aside0.mk H
                                            clear H
                                            go_wp2_with (first | ((with_reducible refine gate_callee (f := 126) rfl ?_); refine goesL_ (some 99) rfl rfl Try.func126 (by kernel_rfl) rfl #[.string a0, .int .i64 x10_3, .int .i64 (wrap64 (a2 - 1))] rfl (by (try simp only [List.map_toArray, List.map_cons, List.map_nil]); first | done | rfl | (simp only [List.length_drop, List.length_take]; rfl)) ?_; (with_reducible refine (ih k3 (by have := HJ13.out; have := HJ24.out; have := HK3.out; omega) a0 x10_3 (wrap64 (a2 - 1)) t122 t123 _ A39.out).mono ?_); rintro e w60 ⟨rfl, hb⟩; refine ⟨_, rfl, ?_⟩; have n0_ := Aside0.mk (below_step (by repeat (first | (with_reducible first | exact HB.out | apply below_alloc | apply pw_below_drewN | apply below_drew1) | exact HB.out)) hb); clear HB; have HB := n0_; clear n0_; (try clear hb); (try clear hb2); (try clear hk); (try clear hi); have p44 : 0 ≤ (a1 : Int) := of_decide_eq_true (by first | (with_reducible assumption) | assumption); have q44 : a1 < (a0.size : Int) := of_decide_eq_true (by first | (with_reducible assumption) | assumption); have hx44 := bt_at a0 a1; replace p44 := eq_true p44; replace q44 := eq_true q44))
                                            go_roundg k3
                                            case measure => have := HJ13.out; have := HJ24.out; have := HK3.out; omega
                                            case rel => exact ⟨(t122), (ji59), (a0.extract (x10_3 : Int).toNat (t122 : Int).toNat), (wrap64 (x13_3 + 1)), (by first | rfl | (simp; done) | (simp [*]; done)), (by first | rfl | (simp; done) | (simp only [← hji59] <;> (first | rfl | simp)) | (simp [*]; done)), (by first | rfl | (simp; done) | (simp [*]; done)), (by first | rfl | (simp; done) | (simp [*]; done)), H', ⟨by have := HJ13.out; have := HJ24.out; have := HK3.out; omega⟩, ⟨by repeat (first | (with_reducible first | exact HB.out | apply below_alloc | apply pw_below_drewN | apply below_drew1) | exact HB.out)⟩⟩
                                          · rw [if_neg c58] at H
                                            exact absurd H (by simp)
                                        · rw [if_neg c57] at H
                                          exact absurd H (by simp)
                                      · rw [if_neg c56] at H
                                        exact absurd H (by simp)
                                  · rw [if_neg c43] at H
                                    exact absurd H (by simp)
                                · rw [if_neg c42] at H
                                  exact absurd H (by simp)
                            · rw [if_neg c38] at H
                              have c38b0 : decide (x13_3 < x9_13) = false := decide_eq_false c38
                              clear c38
                              simp only [Option.some.injEq, Prod.mk.injEq] at H
                              obtain ⟨rfl, rfl⟩ := H
                              go_wp2
                              go_ret2
                              exact ⟨by first | rfl | (simp [errW_none, errW_some] <;> rfl) | (simp [*, errW_none, errW_some] <;> rfl), by repeat (first | (with_reducible first | exact HB.out | apply below_alloc | apply pw_below_drewN | apply below_drew1) | exact HB.out)⟩
            · rw [if_neg c10] at H
              exact absurd H (by simp)
        · rw [if_neg c7] at H
          exact absurd H (by simp)
      · rw [if_neg c6] at H
        exact absurd H (by simp)

/-- Where a term ends, as the document says it. -/
def finR (r : Int × Int × Int) : Int × Int := if r.2.2 = 0 then (r.1, r.2.1) else if r.2.2 = 4 then (-2, 0) else (-1, 0)
def refEnd (s : ByteArray) (d : Nat) (i : Int) : Int × Int := finR (endF s d i)
def gemotref1_End.f (s : ByteArray) (i d : Int) : Option (Int × Int) := if s.size < 9223372036854770000 ∧ 0 ≤ i ∧ 0 ≤ d ∧ d ≤ 400 then some (refEnd s d.toNat i) else none
theorem finR_neg {r : Int × Int × Int} (h0 : r.2.2 ≠ 0) : (finR r).1 < 0 ∧ finR r = ((finR r).1, 0) := by
  unfold finR
  rw [if_neg h0]
  split <;> exact ⟨by decide, rfl⟩
theorem finR_code {r : Int × Int × Int} (h0 : r.2.2 ≠ 0) : finR (0, 0, r.2.2) = ((finR r).1, 0) := by
  unfold finR
  simp only
  rw [if_neg h0, if_neg h0]
  split <;> rfl
theorem gemotref1_End.loop (s : ByteArray) (hs : s.size < 9223372036854770000) (d : Nat) (hd : d < 400) (x1 : Int) (h1 : 0 ≤ x1) (h1' : x1 < s.size) (pow : Bool) (hpow : pow = true ↔ bt s x1 = 101) (many : Int) (hm : 0 ≤ many ∧ many ≤ 1000)
    (hE : ∀ i : Int, 0 ≤ i → ∃ K, ∀ k, K ≤ k → gemotref1_End_p.f k s i d = some (refEnd s d i)) :
    ∀ (m : Nat) (i dep : Int) (last : ByteArray) (j : Int), 0 ≤ i → 0 ≤ dep → dep ≤ 400 → 0 ≤ j → j + m = many →
      ∃ K, ∀ k, K ≤ k → gemotref1_End_p.l0 k s x1 ((d : Int) + 1) many i dep last j = some (finR (partsF s (endF s d) pow m i dep last))
  | 0, i, dep, last, j, h0, h2, h3, h4, hj => by
    refine ⟨1, fun k hk => ?_⟩
    obtain ⟨k, rfl⟩ : ∃ m, k = m + 1 := ⟨k - 1, by omega⟩
    simp only [gemotref1_End_p.l0, partsF]
    rw [if_neg (by omega), show wrap64 (dep + 1) = dep + 1 by unfold wrap64; omega]
    rfl
  | m + 1, i, dep, last, j, h0, h2, h3, h4, hj => by
    obtain ⟨K1, hK1⟩ := hE i h0
    have hw : wrap64 ((d : Int) + 1 - 1) = d := by unfold wrap64; omega
    have hw2 : wrap64 (j + 1) = j + 1 := by unfold wrap64; omega
    by_cases c1 : (endF s d i).2.2 ≠ 0
    · refine ⟨K1 + 1, fun k hk => ?_⟩
      obtain ⟨k, rfl⟩ : ∃ m, k = m + 1 := ⟨k - 1, by omega⟩
      have hn := finR_neg c1
      simp only [gemotref1_End_p.l0]
      rw [if_pos (by omega), hw, hK1 k (by omega)]
      simp only [Option.bind_some, partsF]
      rw [if_pos c1]
      unfold refEnd
      rw [if_pos hn.1]
      congr 1
      exact (finR_code c1).symm
    · have c1' : (endF s d i).2.2 = 0 := by simpa using c1
      have ho := endF_ok d i h0 c1'
      have hr : refEnd s d i = ((endF s d i).1, (endF s d i).2.1) := by unfold refEnd finR; rw [if_pos c1']
      by_cases c2 : pow = true ∧ Op.bytesLess (s.extract i.toNat (endF s d i).1.toNat).toList last.toList = true
      · refine ⟨K1 + 1, fun k hk => ?_⟩
        obtain ⟨k, rfl⟩ : ∃ m, k = m + 1 := ⟨k - 1, by omega⟩
        simp only [gemotref1_End_p.l0]
        rw [if_pos (by omega), hw, hK1 k (by omega), hr]
        simp only [Option.bind_some, partsF]
        rw [if_neg c1, if_pos c2, if_neg (by omega), if_pos h1, if_pos h1', if_pos (hpow.mp c2.1), if_pos h0, if_pos (by omega), if_pos (by omega), if_pos c2.2]
        rfl
      · obtain ⟨K2, hK2⟩ := gemotref1_End.loop s hs d hd x1 h1 h1' pow hpow many hm hE m (endF s d i).1 (if dep < (endF s d i).2.1 then (endF s d i).2.1 else dep) (s.extract i.toNat (endF s d i).1.toNat) (j + 1) (by omega) (by split <;> omega) (by split <;> omega) (by omega) (by omega)
        refine ⟨K1 + K2 + 1, fun k hk => ?_⟩
        obtain ⟨k, rfl⟩ : ∃ m, k = m + 1 := ⟨k - 1, by omega⟩
        simp only [gemotref1_End_p.l0]
        rw [if_pos (by omega), hw, hK1 k (by omega), hr]
        simp only [Option.bind_some, partsF]
        rw [if_neg c1, if_neg c2, if_neg (by omega), if_pos h1, if_pos h1', hw2, ← hK2 k (by omega)]
        by_cases c3 : bt s x1 = 101
        · rw [if_pos c3, if_pos h0, if_pos (by omega), if_pos (by omega), if_neg (fun q => c2 ⟨hpow.mpr c3, q⟩)]
          rfl
        · rw [if_neg c3, if_pos h0, if_pos (by omega), if_pos (by omega)]
          rfl
theorem gemotref1_End.ev (s : ByteArray) (hs : s.size < 9223372036854770000) : ∀ (d : Nat) (i : Int), d ≤ 400 → 0 ≤ i → ∃ K, ∀ k, K ≤ k → gemotref1_End_p.f k s i d = some (refEnd s d i)
  | 0, i, hd, h0 => by
    refine ⟨1, fun k hk => ?_⟩
    obtain ⟨k, rfl⟩ : ∃ m, k = m + 1 := ⟨k - 1, by omega⟩
    simp only [gemotref1_End_p.f]
    rw [if_pos (by simp)]
    rfl
  | d + 1, i, hd, h0 => by
    have hc : ((d + 1 : Nat) : Int) = (d : Int) + 1 := by omega
    by_cases c1 : (s.size : Int) ≤ i
    · refine ⟨1, fun k hk => ?_⟩
      obtain ⟨k, rfl⟩ : ∃ m, k = m + 1 := ⟨k - 1, by omega⟩
      simp only [gemotref1_End_p.f]
      rw [if_neg (by omega), if_pos (by omega)]
      unfold refEnd
      rw [endF, if_pos c1]
      rfl
    have hz : (s.extract i.toNat s.size).size = s.size - i.toNat := by rw [ByteArray.size_extract]; omega
    have hlf : gemotref1_leaf.f (s.extract i.toNat s.size) = some (refLeaf (s.extract i.toNat s.size)) := by
      unfold gemotref1_leaf.f
      rw [if_pos (by omega)]
    by_cases c2 : leafF (s.extract i.toNat s.size) ≠ 0
    · refine ⟨1, fun k hk => ?_⟩
      obtain ⟨k, rfl⟩ : ∃ m, k = m + 1 := ⟨k - 1, by omega⟩
      have hl := leafF_ok (s := s.extract i.toNat s.size) (by omega) c2
      simp only [gemotref1_End_p.f]
      rw [if_neg (by omega), if_neg (by omega), if_pos h0, if_pos (by omega), hlf]
      simp only [Option.bind_some]
      unfold refLeaf
      rw [if_neg c2, if_pos (by omega), show wrap64 (i + leafF (s.extract i.toNat s.size)) = i + leafF (s.extract i.toNat s.size) by unfold wrap64; omega]
      unfold refEnd
      rw [endF, if_neg c1, if_pos c2]
      rfl
    have hrl : refLeaf (s.extract i.toNat s.size) = -1 := by unfold refLeaf; rw [if_pos (by simpa using c2)]
    have hw1 : wrap64 (i + 1) = i + 1 := by unfold wrap64; omega
    have hw2 : wrap64 (i + 1 + 1) = i + 2 := by unfold wrap64; omega
    have hend : endF s (d + 1) i = if (beginF s i).2.2.2.2.2.2 = true then partsF s (endF s d) (beginF s i).2.2.1 (beginF s i).1.toNat (beginF s i).2.2.2.2.2.1 0 ⟨#[]⟩ else (0, 0, 2) := by
      rw [endF, if_neg c1, if_neg c2]
    have hE := fun j (hj : 0 ≤ j) => gemotref1_End.ev s hs d j (by omega) hj
    have step : ∀ k, gemotref1_End_p.f (k + 1) s i ((d : Int) + 1) = if (bt s i) = 101 then (if i + 1 ≥ (s.size : Int) then (some ((-1), 0)) else (if 0 ≤ i + 1 then (if i + 1 < (s.size : Int) then (if (bt s (i + 1)) < 1 then (some ((-1), 0)) else (if (bt s (i + 1)) > 32 then (some ((-1), 0)) else (gemotref1_End_p.j0 k s i ((d : Int) + 1) (wrap64 (bt s (i + 1))) (i + 2)))) else (none)) else (none))) else (gemotref1_End_p.j0 k s i ((d : Int) + 1) (refParts (bt s i)) (i + 1)) := by
      intro k
      simp only [gemotref1_End_p.f]
      rw [if_neg (by omega), if_neg (by omega), if_pos h0, if_pos (by omega), hlf]
      simp only [Option.bind_some]
      rw [hrl, if_neg (by omega), if_pos (by omega)]
      unfold gemotref1_parts.f
      simp only [Option.bind_some]
      rw [hw1, hw2]
    rw [hc]
    by_cases k5 : bt s i = 101
    · by_cases c : i + 1 < (s.size : Int) ∧ 1 ≤ bt s (i + 1) ∧ bt s (i + 1) ≤ 32
      · have hb : beginF s i = (bt s (i + 1), 0, true, i + 2, ⟨#[]⟩, i + 2, true) := by
          unfold beginF; rw [k5]
          simp only [show ¬ ((101 : Int) = 107) from by decide, show ¬ ((101 : Int) = 104) from by decide, show ¬ ((101 : Int) = 112 ∨ (101 : Int) = 120) from by decide, show ¬ ((101 : Int) = 115) from by decide, if_false, if_true]
          rw [if_pos c]
        have hwb : wrap64 (bt s (i + 1)) = bt s (i + 1) := by unfold wrap64; omega
        obtain ⟨K, hK⟩ := gemotref1_End.loop s hs d (by omega) i h0 (by omega) true (by simp [k5]) (bt s (i + 1)) (by omega) hE (bt s (i + 1)).toNat (i + 2) 0 ⟨#[]⟩ 0 (by omega) (by omega) (by omega) (by omega) (by omega)
        refine ⟨K + 3, fun k hk => ?_⟩
        obtain ⟨k, rfl⟩ : ∃ m, k = m + 3 := ⟨k - 3, by omega⟩
        rw [step, if_pos k5, if_neg (by omega), if_pos (by omega), if_pos (by omega), if_neg (by omega), if_neg (by omega), hwb]
        simp only [gemotref1_End_p.j0, gemotref1_End_p.j1]
        rw [if_neg (by omega), if_pos h0, if_pos (by omega), if_neg (by omega)]
        simp only [Bool.false_eq_true, if_false]
        rw [hK k (by omega)]
        unfold refEnd
        rw [hend, hb]
        rfl
      · have hb : (beginF s i).2.2.2.2.2.2 = false := by
          unfold beginF; rw [k5]
          simp only [show ¬ ((101 : Int) = 107) from by decide, show ¬ ((101 : Int) = 104) from by decide, show ¬ ((101 : Int) = 112 ∨ (101 : Int) = 120) from by decide, show ¬ ((101 : Int) = 115) from by decide, if_false, if_true]
          rw [if_neg c]
        refine ⟨1, fun k hk => ?_⟩
        obtain ⟨k, rfl⟩ : ∃ m, k = m + 1 := ⟨k - 1, by omega⟩
        unfold refEnd
        rw [step, if_pos k5, hend, if_neg (show ¬ ((beginF s i).2.2.2.2.2.2 = true) by rw [hb]; simp)]
        by_cases q1 : i + 1 ≥ (s.size : Int)
        · rw [if_pos q1]; rfl
        rw [if_neg q1, if_pos (by omega), if_pos (by omega)]
        by_cases q2 : bt s (i + 1) < 1
        · rw [if_pos q2]; rfl
        rw [if_neg q2, if_pos (by omega)]; rfl
    · by_cases k1 : bt s i = 107
      · by_cases c : i + 1 < (s.size : Int) ∧ (bt s (i + 1) = 103 ∨ bt s (i + 1) = 101)
        · have hb : beginF s i = (1, 0, false, i + 1, ⟨#[]⟩, i + 1, true) := by unfold beginF; rw [if_pos k1, if_pos c]
          obtain ⟨K, hK⟩ := gemotref1_End.loop s hs d (by omega) i h0 (by omega) false (by simp [k5]) 1 (by omega) hE 1 (i + 1) 0 ⟨#[]⟩ 0 (by omega) (by omega) (by omega) (by omega) (by omega)
          refine ⟨K + 3, fun k hk => ?_⟩
          obtain ⟨k, rfl⟩ : ∃ m, k = m + 3 := ⟨k - 3, by omega⟩
          rw [step, if_neg k5, k1, show refParts 107 = 1 from rfl]
          simp only [gemotref1_End_p.j0, gemotref1_End_p.j1]
          rw [if_neg (by omega), if_pos h0, if_pos (by omega), if_pos k1, if_neg (by omega), if_pos (by omega), if_pos c.1]
          have hj : (if bt s (i + 1) = 103 then gemotref1_End_p.j1 (k + 1) s i ((d : Int) + 1) 1 (i + 1) false else gemotref1_End_p.j1 (k + 1) s i ((d : Int) + 1) 1 (i + 1) (bt s (i + 1) != 101)) = gemotref1_End_p.j1 (k + 1) s i ((d : Int) + 1) 1 (i + 1) false := by
            split
            · rfl
            · rw [show (bt s (i + 1) != 101) = false from bne_eq_false_iff_eq.mpr (by omega)]
          simp only [gemotref1_End_p.j1] at hj
          rw [hj]
          simp only [Bool.false_eq_true, if_false]
          rw [hK k (by omega)]
          unfold refEnd
          rw [hend, hb]
          rfl
        · have hb : (beginF s i).2.2.2.2.2.2 = false := by unfold beginF; rw [if_pos k1, if_neg c]
          refine ⟨3, fun k hk => ?_⟩
          obtain ⟨k, rfl⟩ : ∃ m, k = m + 3 := ⟨k - 3, by omega⟩
          unfold refEnd
          rw [step, if_neg k5, k1, show refParts 107 = 1 from rfl, hend, if_neg (show ¬ ((beginF s i).2.2.2.2.2.2 = true) by rw [hb]; simp)]
          simp only [gemotref1_End_p.j0]
          rw [if_neg (by omega), if_pos h0, if_pos (by omega), if_pos k1]
          by_cases q1 : i + 1 ≥ (s.size : Int)
          · rw [if_pos q1]; rfl
          rw [if_neg q1, if_pos (by omega), if_pos (by omega), if_neg (by omega), show (bt s (i + 1) != 101) = true from bne_iff_ne.mpr (by omega)]
          rfl
      · by_cases kk : bt s i = 104 ∨ bt s i = 112 ∨ bt s i = 120 ∨ bt s i = 115
        · have hb : beginF s i = (refParts (bt s i), 0, false, i + 1, ⟨#[]⟩, i + 1, true) ∧ 1 ≤ refParts (bt s i) ∧ refParts (bt s i) ≤ 3 := by
            rcases kk with q | q | q | q <;> (rw [q]; unfold beginF; rw [q]; exact ⟨rfl, by decide, by decide⟩)
          obtain ⟨hb, hp1, hp2⟩ := hb
          obtain ⟨K, hK⟩ := gemotref1_End.loop s hs d (by omega) i h0 (by omega) false (by simp [k5]) (refParts (bt s i)) (by omega) hE (refParts (bt s i)).toNat (i + 1) 0 ⟨#[]⟩ 0 (by omega) (by omega) (by omega) (by omega) (by omega)
          refine ⟨K + 3, fun k hk => ?_⟩
          obtain ⟨k, rfl⟩ : ∃ m, k = m + 3 := ⟨k - 3, by omega⟩
          rw [step, if_neg k5]
          simp only [gemotref1_End_p.j0, gemotref1_End_p.j1]
          rw [if_neg (by omega), if_pos h0, if_pos (by omega), if_neg k1]
          simp only [Bool.false_eq_true, if_false]
          rw [hK k (by omega)]
          unfold refEnd
          rw [hend, hb]
          rfl
        · have hb : (beginF s i).2.2.2.2.2.2 = false ∧ refParts (bt s i) = -1 := by
            unfold beginF refParts
            rw [if_neg k1, if_neg (by omega), if_neg (by omega), if_neg (by omega), if_neg k5, if_neg (by omega), if_neg (by omega), if_neg (by omega)]
            exact ⟨rfl, rfl⟩
          refine ⟨3, fun k hk => ?_⟩
          obtain ⟨k, rfl⟩ : ∃ m, k = m + 3 := ⟨k - 3, by omega⟩
          unfold refEnd
          rw [step, if_neg k5, hend, if_neg (show ¬ ((beginF s i).2.2.2.2.2.2 = true) by rw [hb.1]; simp), hb.2]
          rfl
theorem gemotref1_End.calls (a0 : ByteArray) (a1 : Int) (a2 : Int) (r1 : Int) (r2 : Int) (w : World) (h : gemotref1_End.f a0 a1 a2 = some (r1, r2)) :
    Calls Try.prog 126 #[.string a0, .int .i64 a1, .int .i64 a2] w fun e w' => e = .returned (.tuple #[.int .i64 r1, .int .i64 r2]) ∧ Below w.heap.size w w' := by
  unfold gemotref1_End.f at h
  split at h
  case isFalse => cases h
  rename_i hs
  obtain ⟨K, hK⟩ := gemotref1_End.ev a0 hs.1 a2.toNat a1 (by omega) hs.2.1
  have hK := hK K (Nat.le_refl _)
  rw [show ((a2.toNat : Nat) : Int) = a2 by omega] at hK
  exact gemotref1_End_p.calls K a0 a1 a2 r1 r2 w (hK.trans h)

end Go.Proofs.Ytpfpmjdifnoeoaa.F
