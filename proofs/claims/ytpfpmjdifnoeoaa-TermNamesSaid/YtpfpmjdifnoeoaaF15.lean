-- Laid by mk.py (a program of this session) over the seat's translation.
import Derived.Test.YtpfpmjdifnoeoaaF0
import Derived.Test.YtpfpmjdifnoeoaaF65
import Derived.Test.YtpfpmjdifnoeoaaF66
import Derived.Test.YtpfpmjdifnoeoaaF78
import Derived.Test.YtpfpmjdifnoeoaaF79
import Derived.Test.YtpfpmjdifnoeoaaF84
import Derived.Test.YtpfpmjdifnoeoaaF86
import Derived.Test.YtpfpmjdifnoeoaaF87
namespace Go.Proofs.Ytpfpmjdifnoeoaa.F
open Go.RowKit Go.Proofs.YtpfpmjdifnoeoaaW.PrintWords Go.Proofs.YtpfpmjdifnoeoaaW.PrintLast Go.Proofs.YtpfpmjdifnoeoaaW.PrintMore
attribute [local go_sem] max2_int min2_int max_two min_two max_three min_three max_four min_four
set_option linter.unusedVariables false
set_option linter.unusedSimpArgs false

/-! ### gemotlaw1_TermNames: function 15 -/
def gemotlaw1_TermNames.j0 : Nat → Int → Int → ByteArray → ByteArray → Bool → Bool → Option (Bool)
  | 0, _, _, _, _, _, _ => none
  | k + 1, x0, x1, x2, x3, x9, x26 => if x26 = true then (some x9) else ((term_Text.f x2).bind fun bt813 => ((term_Text.f x3).bind fun bt815 => (if bt813.2 = 0 then (if bt815.2 = 0 then (if ((bt813.1.toList == bt815.1.toList) == (x2.toList == x3.toList)) = true then ((term_Name.f x0).bind fun t817 => ((term_Name.f x1).bind fun t818 => (if ((t817.toList == t818.toList) == (x0 == x1)) = true then ((term_Number.f x0).bind fun t819 => ((term_Number.f x1).bind fun t820 => (if ((t819.toList == t820.toList) == (x0 == x1)) = true then ((term_Name.f x0).bind fun t821 => ((term_Number.f x1).bind fun t822 => (if t821.toList = t822.toList then (none) else ((term_Name.f x0).bind fun t823 => (if bt813.1.toList = t823.toList then (none) else ((term_Gen.f).bind fun t824 => (if bt813.1.toList = t824.toList then (none) else ((term_Right.f bt813.1).bind fun t825 => (if t825 = true then ((term_Name.f x0).bind fun t826 => ((term_Right.f t826).bind fun t827 => (if t827 = true then ((term_Depth.f bt813.1).bind fun t828 => (some (t828 == 1))) else (none)))) else (none)))))))))) else (none)))) else (none)))) else (none)) else (none)) else (none))))
def gemotlaw1_TermNames.f (k : Nat) (a0 : Int) (a1 : Int) (a2 : ByteArray) (a3 : ByteArray) : Option (Bool) := (gemotlaw1_shown.f).bind fun t812 => (if t812 = true then (if (a2.size : Int) > 100 then (gemotlaw1_TermNames.j0 k a0 a1 a2 a3 t812 true) else (gemotlaw1_TermNames.j0 k a0 a1 a2 a3 t812 (decide ((a3.size : Int) > 100)))) else (gemotlaw1_TermNames.j0 k a0 a1 a2 a3 t812 true))
theorem gemotlaw1_TermNames.mono_l : ∀ k, (∀ y0 y1 y2 y3 y4 y5, LeO (gemotlaw1_TermNames.j0 k y0 y1 y2 y3 y4 y5) (gemotlaw1_TermNames.j0 (k + 1) y0 y1 y2 y3 y4 y5))
  | 0 => fun _ _ _ _ _ _ r h => by simp [gemotlaw1_TermNames.j0] at h
  | k + 1 => by
    have ih0 := gemotlaw1_TermNames.mono_l k
    · intro y0 y1 y2 y3 y4 y5
      unfold gemotlaw1_TermNames.j0
      repeat' first
      | (with_reducible exact ih0 _ _ _ _ _ _)
      | (with_reducible exact LeO.refl _)
      | (with_reducible exact LeO.none _)
      | (with_reducible refine LeO.ite ?_ ?_)
      | (with_reducible refine LeO.bind ?_ (fun _ => ?_))
      | exact ih0 _ _ _ _ _ _
      | exact LeO.none _
      | refine LeO.ite ?_ ?_
      | refine LeO.bind ?_ (fun _ => ?_)
theorem gemotlaw1_TermNames.mono : ∀ a0 a1 a2 a3 k, LeO (gemotlaw1_TermNames.f k a0 a1 a2 a3) (gemotlaw1_TermNames.f (k + 1) a0 a1 a2 a3) := by
  intro a0 a1 a2 a3 k
  have ih0 := gemotlaw1_TermNames.mono_l k
  unfold gemotlaw1_TermNames.f
  repeat' first
      | (with_reducible exact ih0 _ _ _ _ _ _)
      | (with_reducible exact LeO.refl _)
      | (with_reducible exact LeO.none _)
      | (with_reducible refine LeO.ite ?_ ?_)
      | (with_reducible refine LeO.bind ?_ (fun _ => ?_))
      | exact ih0 _ _ _ _ _ _
      | exact LeO.none _
      | refine LeO.ite ?_ ?_
      | refine LeO.bind ?_ (fun _ => ?_)
set_option maxHeartbeats 8000000 in
set_option maxRecDepth 100000 in
theorem gemotlaw1_TermNames.calls (k : Nat) (a0 : Int) (a1 : Int) (a2 : ByteArray) (a3 : ByteArray) (r : Bool) (w : World) (h : gemotlaw1_TermNames.f k a0 a1 a2 a3 = some r) :
    Calls Try.prog 15 #[.int .u64 a0, .int .u64 a1, .string a2, .string a3] w fun e w' => e = .returned (.bool r) ∧ Below w.heap.size w w' := by
  have HB := Aside0.mk (Below.refl w.heap.size w)
  have H : ((gemotlaw1_shown.f).bind fun t812 => (if t812 = true then (if (a2.size : Int) > 100 then (gemotlaw1_TermNames.j0 k a0 a1 a2 a3 t812 true) else (gemotlaw1_TermNames.j0 k a0 a1 a2 a3 t812 (decide ((a3.size : Int) > 100)))) else (gemotlaw1_TermNames.j0 k a0 a1 a2 a3 t812 true))) = some r := h
  clear h
  replace H := Option.bind_eq_some_iff.mp H
  obtain ⟨t812, A50, H⟩ := H
  replace H : (if t812 = true then (if (a2.size : Int) > 100 then (gemotlaw1_TermNames.j0 k a0 a1 a2 a3 t812 true) else (gemotlaw1_TermNames.j0 k a0 a1 a2 a3 t812 (decide ((a3.size : Int) > 100)))) else (gemotlaw1_TermNames.j0 k a0 a1 a2 a3 t812 true)) = some r := H
  have A5 := Aside0.mk A50
  clear A50
  have HC6 := Aside0.mk H
  clear H
  go_enter Try.func15, Try.ntmps15
  go_upto_region 2 with (first | ((with_reducible refine gate_callee (f := 78) rfl ?_); refine goesL_ (some 14) rfl rfl Try.func78 (by kernel_rfl) rfl #[] rfl (by (try simp only [List.map_toArray, List.map_cons, List.map_nil]); first | done | rfl | (simp only [List.length_drop, List.length_take]; rfl)) ?_; (with_reducible refine (gemotlaw1_shown.calls  t812 _ A5.out).mono ?_); rintro e w7 ⟨rfl, hb⟩; refine ⟨_, rfl, ?_⟩; have n0_ := Aside0.mk (below_step (by repeat (first | (with_reducible first | exact HB.out | apply below_alloc | apply pw_below_drewN | apply below_drew1) | exact HB.out)) hb); clear HB; have HB := n0_; clear n0_; (try clear hb); (try clear hb2); (try clear hk); (try clear hi)))
  (try simp only [Act.put, List.setIfInBounds_toArray, List.set_cons_zero, List.set_cons_succ])
  go_cut [26] (fun v26 wc => ∃ (kq : Nat) (x26_5 : Bool), v26 = .bool x26_5 ∧ Aside0 (gemotlaw1_TermNames.j0 kq a0 a1 a2 a3 t812 x26_5 = some r) ∧ Aside0 (kq ≤ k) ∧ Aside0 (Below w.heap.size w wc))
  case first =>
    have H := HC6.out
    clear HC6
    by_cases c8 : t812 = true
    · subst c8
      have H1 : (if (a2.size : Int) > 100 then (gemotlaw1_TermNames.j0 k a0 a1 a2 a3 true true) else (gemotlaw1_TermNames.j0 k a0 a1 a2 a3 true (decide ((a3.size : Int) > 100)))) = some r := by rw [if_pos rfl] at H; exact H
      clear H
      have H := H1
      clear H1
      by_cases c9 : (a2.size : Int) > 100
      · rw [if_pos c9] at H
        have c9b0 : decide (100 < (a2.size : Int)) = true := decide_eq_true c9
        have c9b1 : decide (100 < a2.size) = true := decide_eq_true (by omega)
        clear c9
        (first | rw [c9b0] | (simp only [i64_w, i32_w]; rw [c9b0]) | skip)
        have H' := Aside0.mk H
        clear H
        go_wp2
        go_meet
        case rel => exact ⟨_, (true), (by first | rfl | (simp; done) | (simp [*]; done)), H', ⟨by first | omega | exact Nat.le_refl _⟩, ⟨by repeat (first | (with_reducible first | exact HB.out | apply below_alloc | apply pw_below_drewN | apply below_drew1) | exact HB.out)⟩⟩
      · rw [if_neg c9] at H
        have c9b0 : decide (100 < (a2.size : Int)) = false := decide_eq_false c9
        have c9b1 : decide (100 < a2.size) = false := decide_eq_false (by omega)
        clear c9
        (first | rw [c9b0] | (simp only [i64_w, i32_w]; rw [c9b0]) | skip)
        have H' := Aside0.mk H
        clear H
        go_wp2
        go_meet
        case rel => exact ⟨_, (decide ((a3.size : Int) > 100)), (by first | rfl | (simp; done) | (simp [*]; done)), H', ⟨by first | omega | exact Nat.le_refl _⟩, ⟨by repeat (first | (with_reducible first | exact HB.out | apply below_alloc | apply pw_below_drewN | apply below_drew1) | exact HB.out)⟩⟩
    · replace c8 := Bool.eq_false_iff.mpr c8
      subst c8
      have H1 : (gemotlaw1_TermNames.j0 k a0 a1 a2 a3 false true) = some r := by rw [if_neg (show ¬ (false = true) by decide)] at H; exact H
      clear H
      have H := H1
      clear H1
      have H' := Aside0.mk H
      clear H
      go_wp2
      go_meet
      case rel => exact ⟨_, (true), (by first | rfl | (simp; done) | (simp [*]; done)), H', ⟨by first | omega | exact Nat.le_refl _⟩, ⟨by repeat (first | (with_reducible first | exact HB.out | apply below_alloc | apply pw_below_drewN | apply below_drew1) | exact HB.out)⟩⟩
  case rest =>
    clear HC6
    try clear c1
    try clear p2
    try clear c7
    try clear c8
    try clear c9
    try clear c9b0
    try clear c9b1
    obtain ⟨kq, x26_5, rfl, HA, HJ5, HB⟩ := hcut
    cases kq with
    | zero => exact absurd HA.out (by simp [gemotlaw1_TermNames.j0])
    | succ kj5 =>
      have H := HA.out
      clear HA
      simp only [gemotlaw1_TermNames.j0] at H
      by_cases c10 : x26_5 = true
      · subst c10
        have H1 : (some t812) = some r := by rw [if_pos rfl] at H; exact H
        clear H
        have H := H1
        clear H1
        obtain rfl := Option.some.inj H
        go_wp2
        go_ret
        exact ⟨by first | rfl | (simp [errW_none, errW_some] <;> rfl) | (simp [*, errW_none, errW_some] <;> rfl), by repeat (first | (with_reducible first | exact HB.out | apply below_alloc | apply pw_below_drewN | apply below_drew1) | exact HB.out)⟩
      · replace c10 := Bool.eq_false_iff.mpr c10
        subst c10
        have H1 : ((term_Text.f a2).bind fun bt813 => ((term_Text.f a3).bind fun bt815 => (if bt813.2 = 0 then (if bt815.2 = 0 then (if ((bt813.1.toList == bt815.1.toList) == (a2.toList == a3.toList)) = true then ((term_Name.f a0).bind fun t817 => ((term_Name.f a1).bind fun t818 => (if ((t817.toList == t818.toList) == (a0 == a1)) = true then ((term_Number.f a0).bind fun t819 => ((term_Number.f a1).bind fun t820 => (if ((t819.toList == t820.toList) == (a0 == a1)) = true then ((term_Name.f a0).bind fun t821 => ((term_Number.f a1).bind fun t822 => (if t821.toList = t822.toList then (none) else ((term_Name.f a0).bind fun t823 => (if bt813.1.toList = t823.toList then (none) else ((term_Gen.f).bind fun t824 => (if bt813.1.toList = t824.toList then (none) else ((term_Right.f bt813.1).bind fun t825 => (if t825 = true then ((term_Name.f a0).bind fun t826 => ((term_Right.f t826).bind fun t827 => (if t827 = true then ((term_Depth.f bt813.1).bind fun t828 => (some (t828 == 1))) else (none)))) else (none)))))))))) else (none)))) else (none)))) else (none)) else (none)) else (none)))) = some r := by rw [if_neg (show ¬ (false = true) by decide)] at H; exact H
        clear H
        have H := H1
        clear H1
        replace H := Option.bind_eq_some_iff.mp H
        obtain ⟨⟨t813, t814⟩, A110, H⟩ := H
        replace H : ((term_Text.f a3).bind fun bt815 => (if t814 = 0 then (if bt815.2 = 0 then (if ((t813.toList == bt815.1.toList) == (a2.toList == a3.toList)) = true then ((term_Name.f a0).bind fun t817 => ((term_Name.f a1).bind fun t818 => (if ((t817.toList == t818.toList) == (a0 == a1)) = true then ((term_Number.f a0).bind fun t819 => ((term_Number.f a1).bind fun t820 => (if ((t819.toList == t820.toList) == (a0 == a1)) = true then ((term_Name.f a0).bind fun t821 => ((term_Number.f a1).bind fun t822 => (if t821.toList = t822.toList then (none) else ((term_Name.f a0).bind fun t823 => (if t813.toList = t823.toList then (none) else ((term_Gen.f).bind fun t824 => (if t813.toList = t824.toList then (none) else ((term_Right.f t813).bind fun t825 => (if t825 = true then ((term_Name.f a0).bind fun t826 => ((term_Right.f t826).bind fun t827 => (if t827 = true then ((term_Depth.f t813).bind fun t828 => (some (t828 == 1))) else (none)))) else (none)))))))))) else (none)))) else (none)))) else (none)) else (none)) else (none))) = some r := H
        have A11 := Aside0.mk A110
        clear A110
        replace H := Option.bind_eq_some_iff.mp H
        obtain ⟨⟨t815, t816⟩, A120, H⟩ := H
        replace H : (if t814 = 0 then (if t816 = 0 then (if ((t813.toList == t815.toList) == (a2.toList == a3.toList)) = true then ((term_Name.f a0).bind fun t817 => ((term_Name.f a1).bind fun t818 => (if ((t817.toList == t818.toList) == (a0 == a1)) = true then ((term_Number.f a0).bind fun t819 => ((term_Number.f a1).bind fun t820 => (if ((t819.toList == t820.toList) == (a0 == a1)) = true then ((term_Name.f a0).bind fun t821 => ((term_Number.f a1).bind fun t822 => (if t821.toList = t822.toList then (none) else ((term_Name.f a0).bind fun t823 => (if t813.toList = t823.toList then (none) else ((term_Gen.f).bind fun t824 => (if t813.toList = t824.toList then (none) else ((term_Right.f t813).bind fun t825 => (if t825 = true then ((term_Name.f a0).bind fun t826 => ((term_Right.f t826).bind fun t827 => (if t827 = true then ((term_Depth.f t813).bind fun t828 => (some (t828 == 1))) else (none)))) else (none)))))))))) else (none)))) else (none)))) else (none)) else (none)) else (none)) = some r := H
        have A12 := Aside0.mk A120
        clear A120
        by_cases c13 : t814 = 0
        · rw [if_pos c13] at H
          have c13b0 : (t814 == 0) = true := beq_iff_eq.mpr c13
          have c13b1 : (t814 != 0) = false := bne_eq_false_iff_eq.mpr c13
          clear c13
          by_cases c14 : t816 = 0
          · rw [if_pos c14] at H
            have c14b0 : (t816 == 0) = true := beq_iff_eq.mpr c14
            have c14b1 : (t816 != 0) = false := bne_eq_false_iff_eq.mpr c14
            clear c14
            by_cases c15 : ((t813.toList == t815.toList) == (a2.toList == a3.toList)) = true
            · rw [if_pos c15] at H
              have c15b0 : ((t813.toList == t815.toList) == (a2.toList == a3.toList)) = true := c15
              (try (have c15b1 : decide ((t813.toList == t815.toList) = (a2.toList == a3.toList)) = true := by simpa using c15))
              (try (have c15b2 : ((t813.toList == t815.toList) == (a2.toList == a3.toList)) = true := by simpa using c15))
              clear c15
              replace H := Option.bind_eq_some_iff.mp H
              obtain ⟨t817, A160, H⟩ := H
              replace H : ((term_Name.f a1).bind fun t818 => (if ((t817.toList == t818.toList) == (a0 == a1)) = true then ((term_Number.f a0).bind fun t819 => ((term_Number.f a1).bind fun t820 => (if ((t819.toList == t820.toList) == (a0 == a1)) = true then ((term_Name.f a0).bind fun t821 => ((term_Number.f a1).bind fun t822 => (if t821.toList = t822.toList then (none) else ((term_Name.f a0).bind fun t823 => (if t813.toList = t823.toList then (none) else ((term_Gen.f).bind fun t824 => (if t813.toList = t824.toList then (none) else ((term_Right.f t813).bind fun t825 => (if t825 = true then ((term_Name.f a0).bind fun t826 => ((term_Right.f t826).bind fun t827 => (if t827 = true then ((term_Depth.f t813).bind fun t828 => (some (t828 == 1))) else (none)))) else (none)))))))))) else (none)))) else (none))) = some r := H
              have A16 := Aside0.mk A160
              clear A160
              replace H := Option.bind_eq_some_iff.mp H
              obtain ⟨t818, A170, H⟩ := H
              replace H : (if ((t817.toList == t818.toList) == (a0 == a1)) = true then ((term_Number.f a0).bind fun t819 => ((term_Number.f a1).bind fun t820 => (if ((t819.toList == t820.toList) == (a0 == a1)) = true then ((term_Name.f a0).bind fun t821 => ((term_Number.f a1).bind fun t822 => (if t821.toList = t822.toList then (none) else ((term_Name.f a0).bind fun t823 => (if t813.toList = t823.toList then (none) else ((term_Gen.f).bind fun t824 => (if t813.toList = t824.toList then (none) else ((term_Right.f t813).bind fun t825 => (if t825 = true then ((term_Name.f a0).bind fun t826 => ((term_Right.f t826).bind fun t827 => (if t827 = true then ((term_Depth.f t813).bind fun t828 => (some (t828 == 1))) else (none)))) else (none)))))))))) else (none)))) else (none)) = some r := H
              have A17 := Aside0.mk A170
              clear A170
              by_cases c18 : ((t817.toList == t818.toList) == (a0 == a1)) = true
              · rw [if_pos c18] at H
                have c18b0 : ((t817.toList == t818.toList) == (a0 == a1)) = true := c18
                (try (have c18b1 : decide ((t817.toList == t818.toList) = (a0 == a1)) = true := by simpa using c18))
                (try (have c18b2 : ((t817.toList == t818.toList) == (a0 == a1)) = true := by simpa using c18))
                clear c18
                replace H := Option.bind_eq_some_iff.mp H
                obtain ⟨t819, A190, H⟩ := H
                replace H : ((term_Number.f a1).bind fun t820 => (if ((t819.toList == t820.toList) == (a0 == a1)) = true then ((term_Name.f a0).bind fun t821 => ((term_Number.f a1).bind fun t822 => (if t821.toList = t822.toList then (none) else ((term_Name.f a0).bind fun t823 => (if t813.toList = t823.toList then (none) else ((term_Gen.f).bind fun t824 => (if t813.toList = t824.toList then (none) else ((term_Right.f t813).bind fun t825 => (if t825 = true then ((term_Name.f a0).bind fun t826 => ((term_Right.f t826).bind fun t827 => (if t827 = true then ((term_Depth.f t813).bind fun t828 => (some (t828 == 1))) else (none)))) else (none)))))))))) else (none))) = some r := H
                have A19 := Aside0.mk A190
                clear A190
                replace H := Option.bind_eq_some_iff.mp H
                obtain ⟨t820, A200, H⟩ := H
                replace H : (if ((t819.toList == t820.toList) == (a0 == a1)) = true then ((term_Name.f a0).bind fun t821 => ((term_Number.f a1).bind fun t822 => (if t821.toList = t822.toList then (none) else ((term_Name.f a0).bind fun t823 => (if t813.toList = t823.toList then (none) else ((term_Gen.f).bind fun t824 => (if t813.toList = t824.toList then (none) else ((term_Right.f t813).bind fun t825 => (if t825 = true then ((term_Name.f a0).bind fun t826 => ((term_Right.f t826).bind fun t827 => (if t827 = true then ((term_Depth.f t813).bind fun t828 => (some (t828 == 1))) else (none)))) else (none)))))))))) else (none)) = some r := H
                have A20 := Aside0.mk A200
                clear A200
                by_cases c21 : ((t819.toList == t820.toList) == (a0 == a1)) = true
                · rw [if_pos c21] at H
                  have c21b0 : ((t819.toList == t820.toList) == (a0 == a1)) = true := c21
                  (try (have c21b1 : decide ((t819.toList == t820.toList) = (a0 == a1)) = true := by simpa using c21))
                  (try (have c21b2 : ((t819.toList == t820.toList) == (a0 == a1)) = true := by simpa using c21))
                  clear c21
                  replace H := Option.bind_eq_some_iff.mp H
                  obtain ⟨t821, A220, H⟩ := H
                  replace H : ((term_Number.f a1).bind fun t822 => (if t821.toList = t822.toList then (none) else ((term_Name.f a0).bind fun t823 => (if t813.toList = t823.toList then (none) else ((term_Gen.f).bind fun t824 => (if t813.toList = t824.toList then (none) else ((term_Right.f t813).bind fun t825 => (if t825 = true then ((term_Name.f a0).bind fun t826 => ((term_Right.f t826).bind fun t827 => (if t827 = true then ((term_Depth.f t813).bind fun t828 => (some (t828 == 1))) else (none)))) else (none))))))))) = some r := H
                  have A22 := Aside0.mk A220
                  clear A220
                  replace H := Option.bind_eq_some_iff.mp H
                  obtain ⟨t822, A230, H⟩ := H
                  replace H : (if t821.toList = t822.toList then (none) else ((term_Name.f a0).bind fun t823 => (if t813.toList = t823.toList then (none) else ((term_Gen.f).bind fun t824 => (if t813.toList = t824.toList then (none) else ((term_Right.f t813).bind fun t825 => (if t825 = true then ((term_Name.f a0).bind fun t826 => ((term_Right.f t826).bind fun t827 => (if t827 = true then ((term_Depth.f t813).bind fun t828 => (some (t828 == 1))) else (none)))) else (none)))))))) = some r := H
                  have A23 := Aside0.mk A230
                  clear A230
                  by_cases c24 : t821.toList = t822.toList
                  · rw [if_pos c24] at H
                    exact absurd H (by simp)
                  · rw [if_neg c24] at H
                    have c24b0 : (t821.toList == t822.toList) = false := beq_eq_false_iff_ne.mpr c24
                    have c24b1 : (t821.toList != t822.toList) = true := bne_iff_ne.mpr c24
                    replace H := Option.bind_eq_some_iff.mp H
                    obtain ⟨t823, A330, H⟩ := H
                    replace H : (if t813.toList = t823.toList then (none) else ((term_Gen.f).bind fun t824 => (if t813.toList = t824.toList then (none) else ((term_Right.f t813).bind fun t825 => (if t825 = true then ((term_Name.f a0).bind fun t826 => ((term_Right.f t826).bind fun t827 => (if t827 = true then ((term_Depth.f t813).bind fun t828 => (some (t828 == 1))) else (none)))) else (none)))))) = some r := H
                    have A33 := Aside0.mk A330
                    clear A330
                    by_cases c34 : t813.toList = t823.toList
                    · rw [if_pos c34] at H
                      exact absurd H (by simp)
                    · rw [if_neg c34] at H
                      have c34b0 : (t813.toList == t823.toList) = false := beq_eq_false_iff_ne.mpr c34
                      have c34b1 : (t813.toList != t823.toList) = true := bne_iff_ne.mpr c34
                      replace H := Option.bind_eq_some_iff.mp H
                      obtain ⟨t824, A440, H⟩ := H
                      replace H : (if t813.toList = t824.toList then (none) else ((term_Right.f t813).bind fun t825 => (if t825 = true then ((term_Name.f a0).bind fun t826 => ((term_Right.f t826).bind fun t827 => (if t827 = true then ((term_Depth.f t813).bind fun t828 => (some (t828 == 1))) else (none)))) else (none)))) = some r := H
                      have A44 := Aside0.mk A440
                      clear A440
                      by_cases c45 : t813.toList = t824.toList
                      · rw [if_pos c45] at H
                        exact absurd H (by simp)
                      · rw [if_neg c45] at H
                        have c45b0 : (t813.toList == t824.toList) = false := beq_eq_false_iff_ne.mpr c45
                        have c45b1 : (t813.toList != t824.toList) = true := bne_iff_ne.mpr c45
                        replace H := Option.bind_eq_some_iff.mp H
                        obtain ⟨t825, A550, H⟩ := H
                        replace H : (if t825 = true then ((term_Name.f a0).bind fun t826 => ((term_Right.f t826).bind fun t827 => (if t827 = true then ((term_Depth.f t813).bind fun t828 => (some (t828 == 1))) else (none)))) else (none)) = some r := H
                        have A55 := Aside0.mk A550
                        clear A550
                        by_cases c56 : t825 = true
                        · subst c56
                          have H1 : ((term_Name.f a0).bind fun t826 => ((term_Right.f t826).bind fun t827 => (if t827 = true then ((term_Depth.f t813).bind fun t828 => (some (t828 == 1))) else (none)))) = some r := by rw [if_pos rfl] at H; exact H
                          clear H
                          have H := H1
                          clear H1
                          replace H := Option.bind_eq_some_iff.mp H
                          obtain ⟨t826, A570, H⟩ := H
                          replace H : ((term_Right.f t826).bind fun t827 => (if t827 = true then ((term_Depth.f t813).bind fun t828 => (some (t828 == 1))) else (none))) = some r := H
                          have A57 := Aside0.mk A570
                          clear A570
                          replace H := Option.bind_eq_some_iff.mp H
                          obtain ⟨t827, A580, H⟩ := H
                          replace H : (if t827 = true then ((term_Depth.f t813).bind fun t828 => (some (t828 == 1))) else (none)) = some r := H
                          have A58 := Aside0.mk A580
                          clear A580
                          by_cases c59 : t827 = true
                          · subst c59
                            have H1 : ((term_Depth.f t813).bind fun t828 => (some (t828 == 1))) = some r := by rw [if_pos rfl] at H; exact H
                            clear H
                            have H := H1
                            clear H1
                            replace H := Option.bind_eq_some_iff.mp H
                            obtain ⟨t828, A600, H⟩ := H
                            replace H : (some (t828 == 1)) = some r := H
                            have A60 := Aside0.mk A600
                            clear A600
                            obtain rfl := Option.some.inj H
                            obtain rfl : t817 = t821 := Option.some.inj (A16.out.symm.trans A22.out)
                            obtain rfl : t820 = t822 := Option.some.inj (A20.out.symm.trans A23.out)
                            obtain rfl : t817 = t823 := Option.some.inj (A16.out.symm.trans A33.out)
                            obtain rfl : t817 = t826 := Option.some.inj (A16.out.symm.trans A57.out)
                            go_wp2_with (first | ((with_reducible refine gate_callee (f := 79) rfl ?_); refine goesL_ (some 30) rfl rfl Try.func79 (by kernel_rfl) rfl #[.string a2] rfl (by (try simp only [List.map_toArray, List.map_cons, List.map_nil]); first | done | rfl | (simp only [List.length_drop, List.length_take]; rfl)) ?_; (with_reducible refine (term_Text.calls a2 t813 t814 _ A11.out).mono ?_); rintro e w61 ⟨rfl, hb⟩; refine ⟨_, rfl, ?_⟩; have n0_ := Aside0.mk (below_step (by repeat (first | (with_reducible first | exact HB.out | apply below_alloc | apply pw_below_drewN | apply below_drew1) | exact HB.out)) hb); clear HB; have HB := n0_; clear n0_; (try clear hb); (try clear hb2); (try clear hk); (try clear hi)) | ((with_reducible refine gate_callee (f := 79) rfl ?_); refine goesL_ (some 35) rfl rfl Try.func79 (by kernel_rfl) rfl #[.string a3] rfl (by (try simp only [List.map_toArray, List.map_cons, List.map_nil]); first | done | rfl | (simp only [List.length_drop, List.length_take]; rfl)) ?_; (with_reducible refine (term_Text.calls a3 t815 t816 _ A12.out).mono ?_); rintro e w62 ⟨rfl, hb⟩; refine ⟨_, rfl, ?_⟩; have n0_ := Aside0.mk (below_step (by repeat (first | (with_reducible first | exact HB.out | apply below_alloc | apply pw_below_drewN | apply below_drew1) | exact HB.out)) hb); clear HB; have HB := n0_; clear n0_; (try clear hb); (try clear hb2); (try clear hk); (try clear hi)) | (go_at_call 65; (with_reducible refine (term_Name.calls a0 t817 _ A16.out).mono ?_); rintro e w63 ⟨rfl, hb⟩; have n0_ := Aside0.mk (below_step (by repeat (first | (with_reducible first | exact HB.out | apply below_alloc | apply pw_below_drewN | apply below_drew1) | exact HB.out)) hb); clear HB; have HB := n0_; clear n0_; (try clear hb); (try clear hb2); (try clear hk); (try clear hi)) | (go_at_call 65; (with_reducible refine (term_Name.calls a1 t818 _ A17.out).mono ?_); rintro e w64 ⟨rfl, hb⟩; have n0_ := Aside0.mk (below_step (by repeat (first | (with_reducible first | exact HB.out | apply below_alloc | apply pw_below_drewN | apply below_drew1) | exact HB.out)) hb); clear HB; have HB := n0_; clear n0_; (try clear hb); (try clear hb2); (try clear hk); (try clear hi)) | (go_at_call 84; (with_reducible refine (term_Number.calls a0 t819 _ A19.out).mono ?_); rintro e w65 ⟨rfl, hb⟩; have n0_ := Aside0.mk (below_step (by repeat (first | (with_reducible first | exact HB.out | apply below_alloc | apply pw_below_drewN | apply below_drew1) | exact HB.out)) hb); clear HB; have HB := n0_; clear n0_; (try clear hb); (try clear hb2); (try clear hk); (try clear hi)) | (go_at_call 84; (with_reducible refine (term_Number.calls a1 t820 _ A20.out).mono ?_); rintro e w66 ⟨rfl, hb⟩; have n0_ := Aside0.mk (below_step (by repeat (first | (with_reducible first | exact HB.out | apply below_alloc | apply pw_below_drewN | apply below_drew1) | exact HB.out)) hb); clear HB; have HB := n0_; clear n0_; (try clear hb); (try clear hb2); (try clear hk); (try clear hi)) | (go_at_call 65; (with_reducible refine (term_Name.calls a0 t817 _ A22.out).mono ?_); rintro e w67 ⟨rfl, hb⟩; have n0_ := Aside0.mk (below_step (by repeat (first | (with_reducible first | exact HB.out | apply below_alloc | apply pw_below_drewN | apply below_drew1) | exact HB.out)) hb); clear HB; have HB := n0_; clear n0_; (try clear hb); (try clear hb2); (try clear hk); (try clear hi)) | (go_at_call 84; (with_reducible refine (term_Number.calls a1 t820 _ A23.out).mono ?_); rintro e w68 ⟨rfl, hb⟩; have n0_ := Aside0.mk (below_step (by repeat (first | (with_reducible first | exact HB.out | apply below_alloc | apply pw_below_drewN | apply below_drew1) | exact HB.out)) hb); clear HB; have HB := n0_; clear n0_; (try clear hb); (try clear hb2); (try clear hk); (try clear hi)) | (go_at_call 65; (with_reducible refine (term_Name.calls a0 t817 _ A33.out).mono ?_); rintro e w69 ⟨rfl, hb⟩; have n0_ := Aside0.mk (below_step (by repeat (first | (with_reducible first | exact HB.out | apply below_alloc | apply pw_below_drewN | apply below_drew1) | exact HB.out)) hb); clear HB; have HB := n0_; clear n0_; (try clear hb); (try clear hb2); (try clear hk); (try clear hi)) | (go_at_call 86; (with_reducible refine (term_Gen.calls  t824 _ A44.out).mono ?_); rintro e w' ⟨rfl, ⟨nd, rfl⟩⟩) | (go_at_call 66; (with_reducible refine (term_Right.calls t813 true _ A55.out).mono ?_); rintro e w70 ⟨rfl, hb⟩; have n0_ := Aside0.mk (below_step (by repeat (first | (with_reducible first | exact HB.out | apply below_alloc | apply pw_below_drewN | apply below_drew1) | exact HB.out)) hb); clear HB; have HB := n0_; clear n0_; (try clear hb); (try clear hb2); (try clear hk); (try clear hi)) | (go_at_call 65; (with_reducible refine (term_Name.calls a0 t817 _ A57.out).mono ?_); rintro e w71 ⟨rfl, hb⟩; have n0_ := Aside0.mk (below_step (by repeat (first | (with_reducible first | exact HB.out | apply below_alloc | apply pw_below_drewN | apply below_drew1) | exact HB.out)) hb); clear HB; have HB := n0_; clear n0_; (try clear hb); (try clear hb2); (try clear hk); (try clear hi)) | (go_at_call 66; (with_reducible refine (term_Right.calls t817 true _ A58.out).mono ?_); rintro e w72 ⟨rfl, hb⟩; have n0_ := Aside0.mk (below_step (by repeat (first | (with_reducible first | exact HB.out | apply below_alloc | apply pw_below_drewN | apply below_drew1) | exact HB.out)) hb); clear HB; have HB := n0_; clear n0_; (try clear hb); (try clear hb2); (try clear hk); (try clear hi)) | (go_at_call 87; (with_reducible refine (term_Depth.calls t813 t828 _ A60.out).mono ?_); rintro e w73 ⟨rfl, hb⟩; have n0_ := Aside0.mk (below_step (by repeat (first | (with_reducible first | exact HB.out | apply below_alloc | apply pw_below_drewN | apply below_drew1) | exact HB.out)) hb); clear HB; have HB := n0_; clear n0_; (try clear hb); (try clear hb2); (try clear hk); (try clear hi)))
                            go_ret
                            exact ⟨by first | rfl | (simp [errW_none, errW_some] <;> rfl) | (simp [*, errW_none, errW_some] <;> rfl), by repeat (first | (with_reducible first | exact HB.out | apply below_alloc | apply pw_below_drewN | apply below_drew1) | exact HB.out)⟩
                          · replace c59 := Bool.eq_false_iff.mpr c59
                            subst c59
                            have H1 : (none) = some r := by rw [if_neg (show ¬ (false = true) by decide)] at H; exact H
                            exact absurd H1 (by simp)
                        · replace c56 := Bool.eq_false_iff.mpr c56
                          subst c56
                          have H1 : (none) = some r := by rw [if_neg (show ¬ (false = true) by decide)] at H; exact H
                          exact absurd H1 (by simp)
                · rw [if_neg c21] at H
                  exact absurd H (by simp)
              · rw [if_neg c18] at H
                exact absurd H (by simp)
            · rw [if_neg c15] at H
              exact absurd H (by simp)
          · rw [if_neg c14] at H
            exact absurd H (by simp)
        · rw [if_neg c13] at H
          exact absurd H (by simp)

/-- THE ONE PURE STATEMENT of gemotlaw1_TermNames: yours. -/
def gemotlaw1_TermNames.Pure : Prop := ∀ (a0 : Int) (a1 : Int) (a2 : ByteArray) (a3 : ByteArray), (Lit.int .u64 a0).wf = true → (Lit.int .u64 a1).wf = true → a2.size ≤ 140737488351232 → a3.size ≤ 140737488351232 → ∃ k, gemotlaw1_TermNames.f k a0 a1 a2 a3 = some true
theorem gemotlaw1_TermNames.walk (P : gemotlaw1_TermNames.Pure) (a0 : Int) (a1 : Int) (a2 : ByteArray) (a3 : ByteArray) (w : World) (w0 : (Lit.int .u64 a0).wf = true) (w1 : (Lit.int .u64 a1).wf = true) (w2 : a2.size ≤ 140737488351232) (w3 : a3.size ≤ 140737488351232) :
    Calls Try.prog 15 #[.int .u64 a0, .int .u64 a1, .string a2, .string a3] w fun e w' => e = .returned (.bool true) ∧ Below w.heap.size w w' := by
  obtain ⟨k, h⟩ := P a0 a1 a2 a3 w0 w1 w2 w3
  refine (gemotlaw1_TermNames.calls k a0 a1 a2 a3 true w h).mono ?_
  rintro e w' ⟨rfl, hd⟩
  exact ⟨rfl, hd⟩

end Go.Proofs.Ytpfpmjdifnoeoaa.F
