-- Laid by mk.py (a program of this session) over the seat's translation.
import Derived.Test.YtpfpmjdifnoeoaaF0
import Derived.Test.YtpfpmjdifnoeoaaF36
import Derived.Test.YtpfpmjdifnoeoaaB3
import Derived.Test.YtpfpmjdifnoeoaaB5
import Derived.Test.YtpfpmjdifnoeoaaF73
import Derived.Test.YtpfpmjdifnoeoaaF76
import Derived.Test.YtpfpmjdifnoeoaaF77
namespace Go.Proofs.Ytpfpmjdifnoeoaa.F
open Go.RowKit Go.Proofs.YtpfpmjdifnoeoaaW.PrintWords Go.Proofs.YtpfpmjdifnoeoaaW.PrintLast Go.Proofs.YtpfpmjdifnoeoaaW.PrintMore
attribute [local go_sem] max2_int min2_int max_two min_two max_three min_three max_four min_four
set_option linter.unusedVariables false
set_option linter.unusedSimpArgs false

/-! ### gemotlaw2_PartsTaken: function 13 -/
def gemotlaw2_PartsTaken.j0 : Nat → ByteArray → Bool → Bool → Option (Bool)
  | 0, _, _, _ => none
  | k + 1, x0, x3, x20 => if x20 = true then (some x3) else ((parts_Value.f x0).bind fun bt1002 => ((gemotref2_Value.f x0).bind fun bt1004 => ((parts_Said.f x0).bind fun bt1006 => ((gemotref2_Said.f x0).bind fun bt1008 => ((parts_Kind.f x0).bind fun t1010 => ((gemotref2_Kind.f x0).bind fun t1011 => (if t1010 = t1011 then ((parts_Of.f x0).bind fun t1012 => ((gemotref2_Of.f x0).bind fun t1015 => ((gemotlaw2_same.f t1012 t1015).bind fun t1018 => (if t1018 = true then ((parts_All.f x0).bind fun t1019 => ((gemotref2_All.f k x0).bind fun t1022 => ((gemotlaw2_same.f t1019 t1022).bind fun t1025 => (if t1025 = true then (if bt1002.1 = bt1004.1 then (if (bt1002.2 == bt1004.2) = true then (if bt1006.1.toList = bt1008.1.toList then (some (bt1006.2 == bt1008.2)) else (none)) else (none)) else (none)) else (none))))) else (none))))) else (none))))))))
def gemotlaw2_PartsTaken.f (k : Nat) (a0 : ByteArray) : Option (Bool) := (gemotlaw2_shown.f).bind fun t1001 => (if t1001 = true then (gemotlaw2_PartsTaken.j0 k a0 t1001 (decide ((a0.size : Int) > 1500))) else (gemotlaw2_PartsTaken.j0 k a0 t1001 true))
theorem gemotlaw2_PartsTaken.mono_l : ∀ k, (∀ y0 y1 y2, LeO (gemotlaw2_PartsTaken.j0 k y0 y1 y2) (gemotlaw2_PartsTaken.j0 (k + 1) y0 y1 y2))
  | 0 => fun _ _ _ r h => by simp [gemotlaw2_PartsTaken.j0] at h
  | k + 1 => by
    have ih0 := gemotlaw2_PartsTaken.mono_l k
    · intro y0 y1 y2; unfold gemotlaw2_PartsTaken.j0
      repeat' first
      | (with_reducible exact ih0 _ _ _)
      | (with_reducible exact gemotref2_All.mono _ _)
      | (with_reducible exact LeO.refl _)
      | (with_reducible exact LeO.none _)
      | (with_reducible refine LeO.ite ?_ ?_)
      | (with_reducible refine LeO.bind ?_ (fun _ => ?_))
      | exact ih0 _ _ _
      | exact gemotref2_All.mono _ _
      | exact LeO.none _
      | refine LeO.ite ?_ ?_
      | refine LeO.bind ?_ (fun _ => ?_)
theorem gemotlaw2_PartsTaken.mono : ∀ a0 k, LeO (gemotlaw2_PartsTaken.f k a0) (gemotlaw2_PartsTaken.f (k + 1) a0) := by
  intro a0 k; have ih0 := gemotlaw2_PartsTaken.mono_l k
  unfold gemotlaw2_PartsTaken.f
  repeat' first
      | (with_reducible exact ih0 _ _ _)
      | (with_reducible exact gemotref2_All.mono _ _)
      | (with_reducible exact LeO.refl _)
      | (with_reducible exact LeO.none _)
      | (with_reducible refine LeO.ite ?_ ?_)
      | (with_reducible refine LeO.bind ?_ (fun _ => ?_))
      | exact ih0 _ _ _
      | exact gemotref2_All.mono _ _
      | exact LeO.none _
      | refine LeO.ite ?_ ?_
      | refine LeO.bind ?_ (fun _ => ?_)
set_option maxHeartbeats 8000000 in
set_option maxRecDepth 100000 in
theorem gemotlaw2_PartsTaken.calls (k : Nat) (a0 : ByteArray) (r : Bool) (w : World) (h : gemotlaw2_PartsTaken.f k a0 = some r) :
    Calls Try.prog 13 #[.string a0] w fun e w' => e = .returned (.bool r) ∧ Below w.heap.size w w' := by
  have HB := Aside0.mk (Below.refl w.heap.size w)
  have H : ((gemotlaw2_shown.f).bind fun t1001 => (if t1001 = true then (gemotlaw2_PartsTaken.j0 k a0 t1001 (decide ((a0.size : Int) > 1500))) else (gemotlaw2_PartsTaken.j0 k a0 t1001 true))) = some r := h
  clear h; replace H := Option.bind_eq_some_iff.mp H
  obtain ⟨t1001, A20, H⟩ := H; replace H : (if t1001 = true then (gemotlaw2_PartsTaken.j0 k a0 t1001 (decide ((a0.size : Int) > 1500))) else (gemotlaw2_PartsTaken.j0 k a0 t1001 true)) = some r := H
  have A2 := Aside0.mk A20
  clear A20; have HC3 := Aside0.mk H
  clear H; go_enter Try.func13, Try.ntmps13
  go_upto_region 2 with (first | ((with_reducible refine gate_callee (f := 36) rfl ?_); refine goesL_ (some 13) rfl rfl Try.func36 (by kernel_rfl) rfl #[] rfl (by simp only [List.map_toArray, List.map_cons, List.map_nil] <;> rfl) ?_; (with_reducible refine (gemotlaw2_shown.calls  t1001 _ A2.out).mono ?_); rintro e w4 ⟨rfl, hb⟩; refine ⟨_, rfl, ?_⟩; have n0_ := Aside0.mk (below_step (by repeat with_reducible first | exact HB.out | apply below_alloc | apply pw_below_drewN | apply below_drew1) hb); clear HB; have HB := n0_; clear n0_; (try clear hb)))
  (try simp only [Act.put, List.setIfInBounds_toArray, List.set_cons_zero, List.set_cons_succ]); go_cut [20] (fun v20 wc => ∃ (kq : Nat) (x20_2 : Bool), v20 = .bool x20_2 ∧ Aside0 (gemotlaw2_PartsTaken.j0 kq a0 t1001 x20_2 = some r) ∧ Aside0 (kq ≤ k) ∧ Aside0 (Below w.heap.size w wc))
  case first =>
    have H := HC3.out; clear HC3; by_cases c5 : t1001 = true
    · subst c5; have H1 : (gemotlaw2_PartsTaken.j0 k a0 true (decide ((a0.size : Int) > 1500))) = some r := by rw [if_pos rfl] at H; exact H
      clear H; have H := H1; clear H1; have H' := Aside0.mk H
      clear H; go_wp2; go_meet
      case rel => exact ⟨_, (decide ((a0.size : Int) > 1500)), (by first | rfl | (simp; done) | (simp [*]; done)), H', ⟨by first | omega | exact Nat.le_refl _⟩, ⟨by repeat (first | (with_reducible first | exact HB.out | apply below_alloc | apply pw_below_drewN | apply below_drew1) | exact HB.out)⟩⟩
    · replace c5 := Bool.eq_false_iff.mpr c5
      subst c5; have H1 : (gemotlaw2_PartsTaken.j0 k a0 false true) = some r := by rw [if_neg (show ¬ (false = true) by decide)] at H; exact H
      clear H; have H := H1; clear H1; have H' := Aside0.mk H
      clear H; go_wp2; go_meet
      case rel => exact ⟨_, (true), (by first | rfl | (simp; done) | (simp [*]; done)), H', ⟨by first | omega | exact Nat.le_refl _⟩, ⟨by repeat (first | (with_reducible first | exact HB.out | apply below_alloc | apply pw_below_drewN | apply below_drew1) | exact HB.out)⟩⟩
  case rest =>
    clear HC3; try clear c1
    try clear p2
    try clear c3
    try clear c5
    obtain ⟨kq, x20_2, rfl, HA, HJ2, HB⟩ := hcut; cases kq with
    | zero => exact absurd HA.out (by simp [gemotlaw2_PartsTaken.j0])
    | succ kj2 =>
      have H := HA.out; clear HA; simp only [gemotlaw2_PartsTaken.j0] at H; by_cases c6 : x20_2 = true
      · subst c6; have H1 : (some t1001) = some r := by rw [if_pos rfl] at H; exact H
        clear H; have H := H1; clear H1; obtain rfl := Option.some.inj H
        go_wp2; go_ret
        exact ⟨by first | rfl | (simp [errW_none, errW_some] <;> rfl) | (simp [*, errW_none, errW_some] <;> rfl), by repeat (first | (with_reducible first | exact HB.out | apply below_alloc | apply pw_below_drewN | apply below_drew1) | exact HB.out)⟩
      · replace c6 := Bool.eq_false_iff.mpr c6
        subst c6; have H1 : ((parts_Value.f a0).bind fun bt1002 => ((gemotref2_Value.f a0).bind fun bt1004 => ((parts_Said.f a0).bind fun bt1006 => ((gemotref2_Said.f a0).bind fun bt1008 => ((parts_Kind.f a0).bind fun t1010 => ((gemotref2_Kind.f a0).bind fun t1011 => (if t1010 = t1011 then ((parts_Of.f a0).bind fun t1012 => ((gemotref2_Of.f a0).bind fun t1015 => ((gemotlaw2_same.f t1012 t1015).bind fun t1018 => (if t1018 = true then ((parts_All.f a0).bind fun t1019 => ((gemotref2_All.f kj2 a0).bind fun t1022 => ((gemotlaw2_same.f t1019 t1022).bind fun t1025 => (if t1025 = true then (if bt1002.1 = bt1004.1 then (if (bt1002.2 == bt1004.2) = true then (if bt1006.1.toList = bt1008.1.toList then (some (bt1006.2 == bt1008.2)) else (none)) else (none)) else (none)) else (none))))) else (none))))) else (none)))))))) = some r := by rw [if_neg (show ¬ (false = true) by decide)] at H; exact H
        clear H; have H := H1; clear H1; replace H := Option.bind_eq_some_iff.mp H
        obtain ⟨⟨t1002, t1003⟩, A70, H⟩ := H
        replace H : ((gemotref2_Value.f a0).bind fun bt1004 => ((parts_Said.f a0).bind fun bt1006 => ((gemotref2_Said.f a0).bind fun bt1008 => ((parts_Kind.f a0).bind fun t1010 => ((gemotref2_Kind.f a0).bind fun t1011 => (if t1010 = t1011 then ((parts_Of.f a0).bind fun t1012 => ((gemotref2_Of.f a0).bind fun t1015 => ((gemotlaw2_same.f t1012 t1015).bind fun t1018 => (if t1018 = true then ((parts_All.f a0).bind fun t1019 => ((gemotref2_All.f kj2 a0).bind fun t1022 => ((gemotlaw2_same.f t1019 t1022).bind fun t1025 => (if t1025 = true then (if t1002 = bt1004.1 then (if (t1003 == bt1004.2) = true then (if bt1006.1.toList = bt1008.1.toList then (some (bt1006.2 == bt1008.2)) else (none)) else (none)) else (none)) else (none))))) else (none))))) else (none))))))) = some r := H
        have A7 := Aside0.mk A70
        clear A70; replace H := Option.bind_eq_some_iff.mp H
        obtain ⟨⟨t1004, t1005⟩, A80, H⟩ := H
        replace H : ((parts_Said.f a0).bind fun bt1006 => ((gemotref2_Said.f a0).bind fun bt1008 => ((parts_Kind.f a0).bind fun t1010 => ((gemotref2_Kind.f a0).bind fun t1011 => (if t1010 = t1011 then ((parts_Of.f a0).bind fun t1012 => ((gemotref2_Of.f a0).bind fun t1015 => ((gemotlaw2_same.f t1012 t1015).bind fun t1018 => (if t1018 = true then ((parts_All.f a0).bind fun t1019 => ((gemotref2_All.f kj2 a0).bind fun t1022 => ((gemotlaw2_same.f t1019 t1022).bind fun t1025 => (if t1025 = true then (if t1002 = t1004 then (if (t1003 == t1005) = true then (if bt1006.1.toList = bt1008.1.toList then (some (bt1006.2 == bt1008.2)) else (none)) else (none)) else (none)) else (none))))) else (none))))) else (none)))))) = some r := H
        have A8 := Aside0.mk A80
        clear A80; replace H := Option.bind_eq_some_iff.mp H
        obtain ⟨⟨t1006, t1007⟩, A90, H⟩ := H
        replace H : ((gemotref2_Said.f a0).bind fun bt1008 => ((parts_Kind.f a0).bind fun t1010 => ((gemotref2_Kind.f a0).bind fun t1011 => (if t1010 = t1011 then ((parts_Of.f a0).bind fun t1012 => ((gemotref2_Of.f a0).bind fun t1015 => ((gemotlaw2_same.f t1012 t1015).bind fun t1018 => (if t1018 = true then ((parts_All.f a0).bind fun t1019 => ((gemotref2_All.f kj2 a0).bind fun t1022 => ((gemotlaw2_same.f t1019 t1022).bind fun t1025 => (if t1025 = true then (if t1002 = t1004 then (if (t1003 == t1005) = true then (if t1006.toList = bt1008.1.toList then (some (t1007 == bt1008.2)) else (none)) else (none)) else (none)) else (none))))) else (none))))) else (none))))) = some r := H
        have A9 := Aside0.mk A90
        clear A90; replace H := Option.bind_eq_some_iff.mp H
        obtain ⟨⟨t1008, t1009⟩, A100, H⟩ := H
        replace H : ((parts_Kind.f a0).bind fun t1010 => ((gemotref2_Kind.f a0).bind fun t1011 => (if t1010 = t1011 then ((parts_Of.f a0).bind fun t1012 => ((gemotref2_Of.f a0).bind fun t1015 => ((gemotlaw2_same.f t1012 t1015).bind fun t1018 => (if t1018 = true then ((parts_All.f a0).bind fun t1019 => ((gemotref2_All.f kj2 a0).bind fun t1022 => ((gemotlaw2_same.f t1019 t1022).bind fun t1025 => (if t1025 = true then (if t1002 = t1004 then (if (t1003 == t1005) = true then (if t1006.toList = t1008.toList then (some (t1007 == t1009)) else (none)) else (none)) else (none)) else (none))))) else (none))))) else (none)))) = some r := H
        have A10 := Aside0.mk A100
        clear A100; replace H := Option.bind_eq_some_iff.mp H
        obtain ⟨t1010, A110, H⟩ := H; replace H : ((gemotref2_Kind.f a0).bind fun t1011 => (if t1010 = t1011 then ((parts_Of.f a0).bind fun t1012 => ((gemotref2_Of.f a0).bind fun t1015 => ((gemotlaw2_same.f t1012 t1015).bind fun t1018 => (if t1018 = true then ((parts_All.f a0).bind fun t1019 => ((gemotref2_All.f kj2 a0).bind fun t1022 => ((gemotlaw2_same.f t1019 t1022).bind fun t1025 => (if t1025 = true then (if t1002 = t1004 then (if (t1003 == t1005) = true then (if t1006.toList = t1008.toList then (some (t1007 == t1009)) else (none)) else (none)) else (none)) else (none))))) else (none))))) else (none))) = some r := H
        have A11 := Aside0.mk A110
        clear A110; replace H := Option.bind_eq_some_iff.mp H
        obtain ⟨t1011, A120, H⟩ := H; replace H : (if t1010 = t1011 then ((parts_Of.f a0).bind fun t1012 => ((gemotref2_Of.f a0).bind fun t1015 => ((gemotlaw2_same.f t1012 t1015).bind fun t1018 => (if t1018 = true then ((parts_All.f a0).bind fun t1019 => ((gemotref2_All.f kj2 a0).bind fun t1022 => ((gemotlaw2_same.f t1019 t1022).bind fun t1025 => (if t1025 = true then (if t1002 = t1004 then (if (t1003 == t1005) = true then (if t1006.toList = t1008.toList then (some (t1007 == t1009)) else (none)) else (none)) else (none)) else (none))))) else (none))))) else (none)) = some r := H
        have A12 := Aside0.mk A120
        clear A120; by_cases c13 : t1010 = t1011
        · rw [if_pos c13] at H
          have c13b0 : (t1010 == t1011) = true := beq_iff_eq.mpr c13
          have c13b1 : (t1010 != t1011) = false := bne_eq_false_iff_eq.mpr c13
          clear c13; replace H := Option.bind_eq_some_iff.mp H
          obtain ⟨t1012, A140, H⟩ := H; replace H : ((gemotref2_Of.f a0).bind fun t1015 => ((gemotlaw2_same.f t1012 t1015).bind fun t1018 => (if t1018 = true then ((parts_All.f a0).bind fun t1019 => ((gemotref2_All.f kj2 a0).bind fun t1022 => ((gemotlaw2_same.f t1019 t1022).bind fun t1025 => (if t1025 = true then (if t1002 = t1004 then (if (t1003 == t1005) = true then (if t1006.toList = t1008.toList then (some (t1007 == t1009)) else (none)) else (none)) else (none)) else (none))))) else (none)))) = some r := H
          have A14 := Aside0.mk A140
          clear A140; replace H := Option.bind_eq_some_iff.mp H
          obtain ⟨t1015, A150, H⟩ := H; replace H : ((gemotlaw2_same.f t1012 t1015).bind fun t1018 => (if t1018 = true then ((parts_All.f a0).bind fun t1019 => ((gemotref2_All.f kj2 a0).bind fun t1022 => ((gemotlaw2_same.f t1019 t1022).bind fun t1025 => (if t1025 = true then (if t1002 = t1004 then (if (t1003 == t1005) = true then (if t1006.toList = t1008.toList then (some (t1007 == t1009)) else (none)) else (none)) else (none)) else (none))))) else (none))) = some r := H
          have A15 := Aside0.mk A150
          clear A150; replace H := Option.bind_eq_some_iff.mp H
          obtain ⟨t1018, A160, H⟩ := H; replace H : (if t1018 = true then ((parts_All.f a0).bind fun t1019 => ((gemotref2_All.f kj2 a0).bind fun t1022 => ((gemotlaw2_same.f t1019 t1022).bind fun t1025 => (if t1025 = true then (if t1002 = t1004 then (if (t1003 == t1005) = true then (if t1006.toList = t1008.toList then (some (t1007 == t1009)) else (none)) else (none)) else (none)) else (none))))) else (none)) = some r := H
          have A16 := Aside0.mk A160
          clear A160; by_cases c17 : t1018 = true
          · subst c17; have H1 : ((parts_All.f a0).bind fun t1019 => ((gemotref2_All.f kj2 a0).bind fun t1022 => ((gemotlaw2_same.f t1019 t1022).bind fun t1025 => (if t1025 = true then (if t1002 = t1004 then (if (t1003 == t1005) = true then (if t1006.toList = t1008.toList then (some (t1007 == t1009)) else (none)) else (none)) else (none)) else (none))))) = some r := by rw [if_pos rfl] at H; exact H
            clear H; have H := H1; clear H1; replace H := Option.bind_eq_some_iff.mp H
            obtain ⟨t1019, A180, H⟩ := H; replace H : ((gemotref2_All.f kj2 a0).bind fun t1022 => ((gemotlaw2_same.f t1019 t1022).bind fun t1025 => (if t1025 = true then (if t1002 = t1004 then (if (t1003 == t1005) = true then (if t1006.toList = t1008.toList then (some (t1007 == t1009)) else (none)) else (none)) else (none)) else (none)))) = some r := H
            have A18 := Aside0.mk A180
            clear A180; replace H := Option.bind_eq_some_iff.mp H
            obtain ⟨t1022, A190, H⟩ := H; replace H : ((gemotlaw2_same.f t1019 t1022).bind fun t1025 => (if t1025 = true then (if t1002 = t1004 then (if (t1003 == t1005) = true then (if t1006.toList = t1008.toList then (some (t1007 == t1009)) else (none)) else (none)) else (none)) else (none))) = some r := H
            have A19 := Aside0.mk A190
            clear A190; replace H := Option.bind_eq_some_iff.mp H
            obtain ⟨t1025, A200, H⟩ := H; replace H : (if t1025 = true then (if t1002 = t1004 then (if (t1003 == t1005) = true then (if t1006.toList = t1008.toList then (some (t1007 == t1009)) else (none)) else (none)) else (none)) else (none)) = some r := H
            have A20 := Aside0.mk A200
            clear A200; by_cases c21 : t1025 = true
            · subst c21; have H1 : (if t1002 = t1004 then (if (t1003 == t1005) = true then (if t1006.toList = t1008.toList then (some (t1007 == t1009)) else (none)) else (none)) else (none)) = some r := by rw [if_pos rfl] at H; exact H
              clear H; have H := H1; clear H1; by_cases c22 : t1002 = t1004
              · rw [if_pos c22] at H
                have c22b0 : (t1002 == t1004) = true := beq_iff_eq.mpr c22
                have c22b1 : (t1002 != t1004) = false := bne_eq_false_iff_eq.mpr c22
                clear c22; by_cases c23 : (t1003 == t1005) = true
                · rw [if_pos c23] at H
                  have c23b0 : (t1003 == t1005) = true := c23
                  (try (have c23b1 : decide (t1003 = t1005) = true := by simpa using c23)); (try (have c23b2 : (t1003 == t1005) = true := by simpa using c23)); clear c23; by_cases c24 : t1006.toList = t1008.toList
                  · rw [if_pos c24] at H
                    have c24b0 : (t1006.toList == t1008.toList) = true := beq_iff_eq.mpr c24
                    have c24b1 : (t1006.toList != t1008.toList) = false := bne_eq_false_iff_eq.mpr c24
                    clear c24; obtain rfl := Option.some.inj H
                    go_wp2_with (first | ((with_reducible refine gate_callee (f := 67) rfl ?_); refine goesL_ (some 25) rfl rfl Try.func67 (by kernel_rfl) rfl #[.string a0] rfl (by simp only [List.map_toArray, List.map_cons, List.map_nil] <;> rfl) ?_; (with_reducible refine (parts_Value.calls a0 t1002 t1003 _ A7.out).mono ?_); rintro e w25 ⟨rfl, hb⟩; refine ⟨_, rfl, ?_⟩; have n0_ := Aside0.mk (below_step (by repeat with_reducible first | exact HB.out | apply below_alloc | apply pw_below_drewN | apply below_drew1) hb); clear HB; have HB := n0_; clear n0_; (try clear hb)) | ((with_reducible refine gate_callee (f := 68) rfl ?_); refine goesL_ (some 30) rfl rfl Try.func68 (by kernel_rfl) rfl #[.string a0] rfl (by simp only [List.map_toArray, List.map_cons, List.map_nil] <;> rfl) ?_; (with_reducible refine (gemotref2_Value.calls a0 t1004 t1005 _ A8.out).mono ?_); rintro e w26 ⟨rfl, hb⟩; refine ⟨_, rfl, ?_⟩; have n0_ := Aside0.mk (below_step (by repeat with_reducible first | exact HB.out | apply below_alloc | apply pw_below_drewN | apply below_drew1) hb); clear HB; have HB := n0_; clear n0_; (try clear hb)) | ((with_reducible refine gate_callee (f := 69) rfl ?_); refine goesL_ (some 35) rfl rfl Try.func69 (by kernel_rfl) rfl #[.string a0] rfl (by simp only [List.map_toArray, List.map_cons, List.map_nil] <;> rfl) ?_; (with_reducible refine (parts_Said.calls a0 t1006 t1007 _ A9.out).mono ?_); rintro e w27 ⟨rfl, hb⟩; refine ⟨_, rfl, ?_⟩; have n0_ := Aside0.mk (below_step (by repeat with_reducible first | exact HB.out | apply below_alloc | apply pw_below_drewN | apply below_drew1) hb); clear HB; have HB := n0_; clear n0_; (try clear hb)) | ((with_reducible refine gate_callee (f := 70) rfl ?_); refine goesL_ (some 40) rfl rfl Try.func70 (by kernel_rfl) rfl #[.string a0] rfl (by simp only [List.map_toArray, List.map_cons, List.map_nil] <;> rfl) ?_; (with_reducible refine (gemotref2_Said.calls a0 t1008 t1009 _ A10.out).mono ?_); rintro e w28 ⟨rfl, hb⟩; refine ⟨_, rfl, ?_⟩; have n0_ := Aside0.mk (below_step (by repeat with_reducible first | exact HB.out | apply below_alloc | apply pw_below_drewN | apply below_drew1) hb); clear HB; have HB := n0_; clear n0_; (try clear hb)) | ((with_reducible refine gate_callee (f := 71) rfl ?_); refine goesL_ (some 44) rfl rfl Try.func71 (by kernel_rfl) rfl #[.string a0] rfl (by simp only [List.map_toArray, List.map_cons, List.map_nil] <;> rfl) ?_; (with_reducible refine (parts_Kind.calls a0 t1010 _ A11.out).mono ?_); rintro e w29 ⟨rfl, hb⟩; refine ⟨_, rfl, ?_⟩; have n0_ := Aside0.mk (below_step (by repeat with_reducible first | exact HB.out | apply below_alloc | apply pw_below_drewN | apply below_drew1) hb); clear HB; have HB := n0_; clear n0_; (try clear hb)) | ((with_reducible refine gate_callee (f := 72) rfl ?_); refine goesL_ (some 46) rfl rfl Try.func72 (by kernel_rfl) rfl #[.string a0] rfl (by simp only [List.map_toArray, List.map_cons, List.map_nil] <;> rfl) ?_; (with_reducible refine (gemotref2_Kind.calls a0 t1011 _ A12.out).mono ?_); rintro e w30 ⟨rfl, hb⟩; refine ⟨_, rfl, ?_⟩; have n0_ := Aside0.mk (below_step (by repeat with_reducible first | exact HB.out | apply below_alloc | apply pw_below_drewN | apply below_drew1) hb); clear HB; have HB := n0_; clear n0_; (try clear hb)) | (go_at_call 74; (with_reducible refine (parts_Of.calls a0 t1012 _ A14.out).mono ?_); rintro e w31 ⟨v1013, rfl, ho0, hb⟩; have n0_ := Aside0.mk (Kd.R_lower ho0 (below_size (by repeat with_reducible first | exact HB.out | apply below_alloc | apply pw_below_drewN | apply below_drew1))); have n1_ := Aside0.mk (below_step (by repeat with_reducible first | exact HB.out | apply below_alloc | apply pw_below_drewN | apply below_drew1) hb); clear HB; have HO1014 := n0_; have HB := n1_; clear n0_ n1_; (try clear hb); (try clear ho0)) | (go_at_call 75; (with_reducible refine (gemotref2_Of.calls a0 t1015 _ A15.out).mono ?_); rintro e w32 ⟨v1016, rfl, ho0, hb⟩; have n0_ := Aside0.mk (Kd.R_below (by (with_reducible repeat (first | apply Kd.R_alloc | apply Kd.R_drewN | apply Kd.R_drew)); exact HO1014.out) hb); have n1_ := Aside0.mk (Kd.R_lower ho0 (below_size (by repeat with_reducible first | exact HB.out | apply below_alloc | apply pw_below_drewN | apply below_drew1))); have n2_ := Aside0.mk (below_step (by repeat with_reducible first | exact HB.out | apply below_alloc | apply pw_below_drewN | apply below_drew1) hb); clear HO1014; clear HB; have HO1014 := n0_; have HO1017 := n1_; have HB := n2_; clear n0_ n1_ n2_; (try clear hb); (try clear ho0); obtain ⟨Ao33, co33, eo33⟩ := Kd.R_slice HO1014.out; subst eo33; obtain ⟨Ao34, co34, eo34⟩ := Kd.R_slice HO1017.out; subst eo34) | (go_at_call 73; (with_reducible refine (gemotlaw2_same.calls _ _ t1012 _ _ t1015 true _ ?side1 ?side2 ?side3 ?side4 A16.out).mono ?_); (case side1 => repeat (first | exact (Kd.R_reads' HO1014.out).2.2 | (with_reducible refine Kd.C_alloc ?_ _) | (with_reducible refine Kd.C_drewN ?_ _) | (with_reducible refine Kd.C_drew ?_))); (case side2 => exact (Kd.R_reads' HO1014.out).2.1); (case side3 => repeat (first | exact (Kd.R_reads' HO1017.out).2.2 | (with_reducible refine Kd.C_alloc ?_ _) | (with_reducible refine Kd.C_drewN ?_ _) | (with_reducible refine Kd.C_drew ?_))); (case side4 => exact (Kd.R_reads' HO1017.out).2.1); rintro e w' ⟨rfl, ⟨nd, rfl⟩⟩) | (go_at_call 76; (with_reducible refine (parts_All.calls a0 t1019 _ A18.out).mono ?_); rintro e w35 ⟨v1020, rfl, ho0, hb⟩; have n0_ := Aside0.mk (Kd.R_elder' (by (with_reducible repeat (first | apply Kd.R_alloc | apply Kd.R_drewN | apply Kd.R_drew)); exact HO1014.out) (Kd.R_base ho0) hb); have n1_ := Aside0.mk (Kd.R_below (by (with_reducible repeat (first | apply Kd.R_alloc | apply Kd.R_drewN | apply Kd.R_drew)); exact HO1017.out) hb); have n2_ := Aside0.mk (Kd.R_lower (Kd.R_new' ho0 (Kd.R_lt (by (with_reducible repeat (first | apply Kd.R_alloc | apply Kd.R_drewN | apply Kd.R_drew)); exact HO1014.out))) (below_size (by repeat with_reducible first | exact HB.out | apply below_alloc | apply pw_below_drewN | apply below_drew1))); have n3_ := Aside0.mk (below_step (by repeat with_reducible first | exact HB.out | apply below_alloc | apply pw_below_drewN | apply below_drew1) hb); clear HO1014; clear HO1017; clear HB; have HO1014 := n0_; have HO1017 := n1_; have HO1021 := n2_; have HB := n3_; clear n0_ n1_ n2_ n3_; (try clear hb); (try clear ho0)) | (go_at_call 77; (with_reducible refine (gemotref2_All.calls kj2 a0 t1022 _ A19.out).mono ?_); rintro e w36 ⟨v1023, rfl, ho0, hb⟩; have n0_ := Aside0.mk (Kd.R_below (by (with_reducible repeat (first | apply Kd.R_alloc | apply Kd.R_drewN | apply Kd.R_drew)); exact HO1014.out) hb); have n1_ := Aside0.mk (Kd.R_elder' (by (with_reducible repeat (first | apply Kd.R_alloc | apply Kd.R_drewN | apply Kd.R_drew)); exact HO1017.out) (Kd.R_base ho0) hb); have n2_ := Aside0.mk (Kd.R_below (by (with_reducible repeat (first | apply Kd.R_alloc | apply Kd.R_drewN | apply Kd.R_drew)); exact HO1021.out) hb); have n3_ := Aside0.mk (Kd.R_lower (Kd.R_new' ho0 (Kd.R_lt (by (with_reducible repeat (first | apply Kd.R_alloc | apply Kd.R_drewN | apply Kd.R_drew)); exact HO1017.out))) (below_size (by repeat with_reducible first | exact HB.out | apply below_alloc | apply pw_below_drewN | apply below_drew1))); have n4_ := Aside0.mk (below_step (by repeat with_reducible first | exact HB.out | apply below_alloc | apply pw_below_drewN | apply below_drew1) hb); clear HO1014; clear HO1017; clear HO1021; clear HB; have HO1014 := n0_; have HO1017 := n1_; have HO1021 := n2_; have HO1024 := n3_; have HB := n4_; clear n0_ n1_ n2_ n3_ n4_; (try clear hb); (try clear ho0); obtain ⟨Ao37, co37, eo37⟩ := Kd.R_slice HO1021.out; subst eo37; obtain ⟨Ao38, co38, eo38⟩ := Kd.R_slice HO1024.out; subst eo38) | (go_at_call 73; (with_reducible refine (gemotlaw2_same.calls _ _ t1019 _ _ t1022 true _ ?side1 ?side2 ?side3 ?side4 A20.out).mono ?_); (case side1 => repeat (first | exact (Kd.R_reads' HO1021.out).2.2 | (with_reducible refine Kd.C_alloc ?_ _) | (with_reducible refine Kd.C_drewN ?_ _) | (with_reducible refine Kd.C_drew ?_))); (case side2 => exact (Kd.R_reads' HO1021.out).2.1); (case side3 => repeat (first | exact (Kd.R_reads' HO1024.out).2.2 | (with_reducible refine Kd.C_alloc ?_ _) | (with_reducible refine Kd.C_drewN ?_ _) | (with_reducible refine Kd.C_drew ?_))); (case side4 => exact (Kd.R_reads' HO1024.out).2.1); rintro e w' ⟨rfl, ⟨nd, rfl⟩⟩))
                    go_ret
                    exact ⟨by first | rfl | (simp [errW_none, errW_some] <;> rfl) | (simp [*, errW_none, errW_some] <;> rfl), by repeat (first | (with_reducible first | exact HB.out | apply below_alloc | apply pw_below_drewN | apply below_drew1) | exact HB.out)⟩
                  · rw [if_neg c24] at H
                    exact absurd H (by simp)
                · rw [if_neg c23] at H
                  exact absurd H (by simp)
              · rw [if_neg c22] at H
                exact absurd H (by simp)
            · replace c21 := Bool.eq_false_iff.mpr c21
              subst c21; have H1 : (none) = some r := by rw [if_neg (show ¬ (false = true) by decide)] at H; exact H
              exact absurd H1 (by simp)
          · replace c17 := Bool.eq_false_iff.mpr c17
            subst c17; have H1 : (none) = some r := by rw [if_neg (show ¬ (false = true) by decide)] at H; exact H
            exact absurd H1 (by simp)
        · rw [if_neg c13] at H
          exact absurd H (by simp)

/-- THE ONE PURE STATEMENT of gemotlaw2_PartsTaken: yours. -/
def gemotlaw2_PartsTaken.Pure : Prop := ∀ (a0 : ByteArray), a0.size ≤ 140737488351232 → ∃ k, gemotlaw2_PartsTaken.f k a0 = some true
theorem gemotlaw2_PartsTaken.walk (P : gemotlaw2_PartsTaken.Pure) (a0 : ByteArray) (w : World) (w0 : a0.size ≤ 140737488351232) :
    Calls Try.prog 13 #[.string a0] w fun e w' => e = .returned (.bool true) ∧ Below w.heap.size w w' := by
  obtain ⟨k, h⟩ := P a0 w0
  refine (gemotlaw2_PartsTaken.calls k a0 true w h).mono ?_
  rintro e w' ⟨rfl, hd⟩; exact ⟨rfl, hd⟩

end Go.Proofs.Ytpfpmjdifnoeoaa.F
