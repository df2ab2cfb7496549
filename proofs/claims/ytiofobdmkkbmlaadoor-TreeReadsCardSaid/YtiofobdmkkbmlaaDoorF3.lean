-- Laid by mk.py (a program of this session) over the seat's translation.
import Derived.Test.YtiofobdmkkbmlaaDoorF0
import Derived.Test.YtiofobdmkkbmlaaDoorF10
import Derived.Test.YtiofobdmkkbmlaaDoorB7
import Derived.Test.YtiofobdmkkbmlaaDoorF12
import Derived.Test.YtiofobdmkkbmlaaDoorF14
import Derived.Test.YtiofobdmkkbmlaaDoorF16
import Derived.Test.YtiofobdmkkbmlaaDoorF18
import Derived.Test.YtiofobdmkkbmlaaDoorF19
import Derived.Test.YtiofobdmkkbmlaaDoorF21
import Derived.Test.YtiofobdmkkbmlaaDoorF9
namespace Go.Proofs.YtiofobdmkkbmlaaDoor.F
open Go.RowKit Go.Proofs.YtiofobdmkkbmlaaDoorW.PrintWords Go.Proofs.YtiofobdmkkbmlaaDoorW.PrintLast Go.Proofs.YtiofobdmkkbmlaaDoorW.PrintMore
attribute [local go_sem] max2_int min2_int max_two min_two max_three min_three max_four min_four
set_option linter.unusedVariables false
set_option linter.unusedSimpArgs false

/-! ### gemotlaw13_TreeReads: function 3 -/
def gemotlaw13_TreeReads.j0 : Nat → ByteArray → Int → Bool → Bool → Option (Bool)
  | 0, _, _, _, _ => none
  | k + 1, x0, x1, x5, x26 => if x26 = true then (some x5) else ((tree_Join.f x0 x1).bind fun bt1002 => ((gemotref13_Join.f k x0 x1).bind fun bt1004 => ((tree_Leave.f x0 x1).bind fun bt1006 => ((gemotref13_Leave.f k x0 x1).bind fun bt1008 => ((tree_Leaf.f x1).bind fun bt1010 => ((gemotref13_Leaf.f x1).bind fun bt1012 => ((tree_Right.f x0).bind fun t1014 => ((gemotref13_Right.f k x0).bind fun t1015 => (if (t1014 == t1015) = true then ((tree_Members.f x0).bind fun t1016 => ((gemotref13_Members.f k x0).bind fun t1019 => ((gemotref10_Same.f t1016 t1019).bind fun t1022 => (if t1022 = true then ((tree_Depth.f x0).bind fun t1023 => ((gemotref13_Depth.f k x0).bind fun t1024 => (if t1023 = t1024 then (if bt1002.1.toList = bt1004.1.toList then (if bt1002.2 = bt1004.2 then (if bt1006.1.toList = bt1008.1.toList then (if bt1006.2 = bt1008.2 then (if bt1010.1.toList = bt1012.1.toList then (some (bt1010.2 == bt1012.2)) else (none)) else (none)) else (none)) else (none)) else (none)) else (none)))) else (none))))) else (none))))))))))
def gemotlaw13_TreeReads.f (k : Nat) (a0 : ByteArray) (a1 : Int) : Option (Bool) := (gemotlaw13_shown.f k).bind fun t1001 => (if t1001 = true then (gemotlaw13_TreeReads.j0 k a0 a1 t1001 (decide ((a0.size : Int) > 90))) else (gemotlaw13_TreeReads.j0 k a0 a1 t1001 true))
theorem gemotlaw13_TreeReads.mono_l : ∀ k, (∀ y0 y1 y2 y3, LeO (gemotlaw13_TreeReads.j0 k y0 y1 y2 y3) (gemotlaw13_TreeReads.j0 (k + 1) y0 y1 y2 y3))
  | 0 => fun _ _ _ _ r h => by simp [gemotlaw13_TreeReads.j0] at h
  | k + 1 => by
    have ih0 := gemotlaw13_TreeReads.mono_l k
    · intro y0 y1 y2 y3; unfold gemotlaw13_TreeReads.j0
      repeat' first
      | (with_reducible exact ih0 _ _ _ _)
      | (with_reducible exact gemotlaw13_shown.mono _)
      | (with_reducible exact gemotref13_Depth.mono _ _)
      | (with_reducible exact gemotref13_Join.mono _ _ _)
      | (with_reducible exact gemotref13_Leave.mono _ _ _)
      | (with_reducible exact gemotref13_Members.mono _ _)
      | (with_reducible exact gemotref13_Right.mono _ _)
      | (with_reducible exact LeO.refl _)
      | (with_reducible exact LeO.none _)
      | (with_reducible refine LeO.ite ?_ ?_)
      | (with_reducible refine LeO.bind ?_ (fun _ => ?_))
      | exact ih0 _ _ _ _
      | exact gemotlaw13_shown.mono _
      | exact gemotref13_Depth.mono _ _
      | exact gemotref13_Join.mono _ _ _
      | exact gemotref13_Leave.mono _ _ _
      | exact gemotref13_Members.mono _ _
      | exact gemotref13_Right.mono _ _
      | exact LeO.none _
      | refine LeO.ite ?_ ?_
      | refine LeO.bind ?_ (fun _ => ?_)
theorem gemotlaw13_TreeReads.mono : ∀ a0 a1 k, LeO (gemotlaw13_TreeReads.f k a0 a1) (gemotlaw13_TreeReads.f (k + 1) a0 a1) := by
  intro a0 a1 k; have ih0 := gemotlaw13_TreeReads.mono_l k
  unfold gemotlaw13_TreeReads.f
  repeat' first
      | (with_reducible exact ih0 _ _ _ _)
      | (with_reducible exact gemotlaw13_shown.mono _)
      | (with_reducible exact gemotref13_Depth.mono _ _)
      | (with_reducible exact gemotref13_Join.mono _ _ _)
      | (with_reducible exact gemotref13_Leave.mono _ _ _)
      | (with_reducible exact gemotref13_Members.mono _ _)
      | (with_reducible exact gemotref13_Right.mono _ _)
      | (with_reducible exact LeO.refl _)
      | (with_reducible exact LeO.none _)
      | (with_reducible refine LeO.ite ?_ ?_)
      | (with_reducible refine LeO.bind ?_ (fun _ => ?_))
      | exact ih0 _ _ _ _
      | exact gemotlaw13_shown.mono _
      | exact gemotref13_Depth.mono _ _
      | exact gemotref13_Join.mono _ _ _
      | exact gemotref13_Leave.mono _ _ _
      | exact gemotref13_Members.mono _ _
      | exact gemotref13_Right.mono _ _
      | exact LeO.none _
      | refine LeO.ite ?_ ?_
      | refine LeO.bind ?_ (fun _ => ?_)
set_option maxHeartbeats 8000000 in
set_option maxRecDepth 100000 in
theorem gemotlaw13_TreeReads.calls (k : Nat) (a0 : ByteArray) (a1 : Int) (r : Bool) (w : World) (h : gemotlaw13_TreeReads.f k a0 a1 = some r) :
    Calls Tryd.prog 3 #[.string a0, .int .i64 a1] w fun e w' => e = .returned (.bool r) ∧ Below w.heap.size w w' := by
  have HB := Aside0.mk (Below.refl w.heap.size w)
  have H : ((gemotlaw13_shown.f k).bind fun t1001 => (if t1001 = true then (gemotlaw13_TreeReads.j0 k a0 a1 t1001 (decide ((a0.size : Int) > 90))) else (gemotlaw13_TreeReads.j0 k a0 a1 t1001 true))) = some r := h
  clear h; replace H := Option.bind_eq_some_iff.mp H
  obtain ⟨t1001, A30, H⟩ := H; replace H : (if t1001 = true then (gemotlaw13_TreeReads.j0 k a0 a1 t1001 (decide ((a0.size : Int) > 90))) else (gemotlaw13_TreeReads.j0 k a0 a1 t1001 true)) = some r := H
  have A3 := Aside0.mk A30
  clear A30; have HC4 := Aside0.mk H
  clear H; go_enter Tryd.func3, Tryd.ntmps3
  go_upto_region 2 with (first | ((with_reducible refine gate_callee (f := 9) rfl ?_); refine goesL_ (some 19) rfl rfl Tryd.func9 (by kernel_rfl) rfl #[] rfl (by simp only [List.map_toArray, List.map_cons, List.map_nil] <;> rfl) ?_; (with_reducible refine (gemotlaw13_shown.calls k  t1001 _ A3.out).mono ?_); rintro e w5 ⟨rfl, hb⟩; refine ⟨_, rfl, ?_⟩; have n0_ := Aside0.mk (below_step (by repeat with_reducible first | exact HB.out | apply below_alloc | apply pw_below_drewN | apply below_drew1) hb); clear HB; have HB := n0_; clear n0_; (try clear hb)))
  (try simp only [Act.put, List.setIfInBounds_toArray, List.set_cons_zero, List.set_cons_succ]); go_cut [26] (fun v26 wc => ∃ (kq : Nat) (x26_3 : Bool), v26 = .bool x26_3 ∧ Aside0 (gemotlaw13_TreeReads.j0 kq a0 a1 t1001 x26_3 = some r) ∧ Aside0 (kq ≤ k) ∧ Aside0 (Below w.heap.size w wc))
  case first =>
    have H := HC4.out; clear HC4; by_cases c6 : t1001 = true
    · subst c6; have H1 : (gemotlaw13_TreeReads.j0 k a0 a1 true (decide ((a0.size : Int) > 90))) = some r := by rw [if_pos rfl] at H; exact H
      clear H; have H := H1; clear H1; have H' := Aside0.mk H
      clear H; go_wp2; go_meet
      case rel => exact ⟨_, (decide ((a0.size : Int) > 90)), (by first | rfl | (simp; done) | (simp [*]; done)), H', ⟨by first | omega | exact Nat.le_refl _⟩, ⟨by repeat (first | (with_reducible first | exact HB.out | apply below_alloc | apply pw_below_drewN | apply below_drew1) | exact HB.out)⟩⟩
    · replace c6 := Bool.eq_false_iff.mpr c6
      subst c6; have H1 : (gemotlaw13_TreeReads.j0 k a0 a1 false true) = some r := by rw [if_neg (show ¬ (false = true) by decide)] at H; exact H
      clear H; have H := H1; clear H1; have H' := Aside0.mk H
      clear H; go_wp2; go_meet
      case rel => exact ⟨_, (true), (by first | rfl | (simp; done) | (simp [*]; done)), H', ⟨by first | omega | exact Nat.le_refl _⟩, ⟨by repeat (first | (with_reducible first | exact HB.out | apply below_alloc | apply pw_below_drewN | apply below_drew1) | exact HB.out)⟩⟩
  case rest =>
    clear HC4; try clear p2
    try clear c3
    try clear c6
    obtain ⟨kq, x26_3, rfl, HA, HJ3, HB⟩ := hcut; cases kq with
    | zero => exact absurd HA.out (by simp [gemotlaw13_TreeReads.j0])
    | succ kj3 =>
      have H := HA.out; clear HA; simp only [gemotlaw13_TreeReads.j0] at H; by_cases c7 : x26_3 = true
      · subst c7; have H1 : (some t1001) = some r := by rw [if_pos rfl] at H; exact H
        clear H; have H := H1; clear H1; obtain rfl := Option.some.inj H
        go_wp2; go_ret
        exact ⟨by first | rfl | (simp [errW_none, errW_some] <;> rfl) | (simp [*, errW_none, errW_some] <;> rfl), by repeat (first | (with_reducible first | exact HB.out | apply below_alloc | apply pw_below_drewN | apply below_drew1) | exact HB.out)⟩
      · replace c7 := Bool.eq_false_iff.mpr c7
        subst c7; have H1 : ((tree_Join.f a0 a1).bind fun bt1002 => ((gemotref13_Join.f kj3 a0 a1).bind fun bt1004 => ((tree_Leave.f a0 a1).bind fun bt1006 => ((gemotref13_Leave.f kj3 a0 a1).bind fun bt1008 => ((tree_Leaf.f a1).bind fun bt1010 => ((gemotref13_Leaf.f a1).bind fun bt1012 => ((tree_Right.f a0).bind fun t1014 => ((gemotref13_Right.f kj3 a0).bind fun t1015 => (if (t1014 == t1015) = true then ((tree_Members.f a0).bind fun t1016 => ((gemotref13_Members.f kj3 a0).bind fun t1019 => ((gemotref10_Same.f t1016 t1019).bind fun t1022 => (if t1022 = true then ((tree_Depth.f a0).bind fun t1023 => ((gemotref13_Depth.f kj3 a0).bind fun t1024 => (if t1023 = t1024 then (if bt1002.1.toList = bt1004.1.toList then (if bt1002.2 = bt1004.2 then (if bt1006.1.toList = bt1008.1.toList then (if bt1006.2 = bt1008.2 then (if bt1010.1.toList = bt1012.1.toList then (some (bt1010.2 == bt1012.2)) else (none)) else (none)) else (none)) else (none)) else (none)) else (none)))) else (none))))) else (none)))))))))) = some r := by rw [if_neg (show ¬ (false = true) by decide)] at H; exact H
        clear H; have H := H1; clear H1; replace H := Option.bind_eq_some_iff.mp H
        obtain ⟨⟨t1002, t1003⟩, A80, H⟩ := H
        replace H : ((gemotref13_Join.f kj3 a0 a1).bind fun bt1004 => ((tree_Leave.f a0 a1).bind fun bt1006 => ((gemotref13_Leave.f kj3 a0 a1).bind fun bt1008 => ((tree_Leaf.f a1).bind fun bt1010 => ((gemotref13_Leaf.f a1).bind fun bt1012 => ((tree_Right.f a0).bind fun t1014 => ((gemotref13_Right.f kj3 a0).bind fun t1015 => (if (t1014 == t1015) = true then ((tree_Members.f a0).bind fun t1016 => ((gemotref13_Members.f kj3 a0).bind fun t1019 => ((gemotref10_Same.f t1016 t1019).bind fun t1022 => (if t1022 = true then ((tree_Depth.f a0).bind fun t1023 => ((gemotref13_Depth.f kj3 a0).bind fun t1024 => (if t1023 = t1024 then (if t1002.toList = bt1004.1.toList then (if t1003 = bt1004.2 then (if bt1006.1.toList = bt1008.1.toList then (if bt1006.2 = bt1008.2 then (if bt1010.1.toList = bt1012.1.toList then (some (bt1010.2 == bt1012.2)) else (none)) else (none)) else (none)) else (none)) else (none)) else (none)))) else (none))))) else (none))))))))) = some r := H
        have A8 := Aside0.mk A80
        clear A80; replace H := Option.bind_eq_some_iff.mp H
        obtain ⟨⟨t1004, t1005⟩, A90, H⟩ := H
        replace H : ((tree_Leave.f a0 a1).bind fun bt1006 => ((gemotref13_Leave.f kj3 a0 a1).bind fun bt1008 => ((tree_Leaf.f a1).bind fun bt1010 => ((gemotref13_Leaf.f a1).bind fun bt1012 => ((tree_Right.f a0).bind fun t1014 => ((gemotref13_Right.f kj3 a0).bind fun t1015 => (if (t1014 == t1015) = true then ((tree_Members.f a0).bind fun t1016 => ((gemotref13_Members.f kj3 a0).bind fun t1019 => ((gemotref10_Same.f t1016 t1019).bind fun t1022 => (if t1022 = true then ((tree_Depth.f a0).bind fun t1023 => ((gemotref13_Depth.f kj3 a0).bind fun t1024 => (if t1023 = t1024 then (if t1002.toList = t1004.toList then (if t1003 = t1005 then (if bt1006.1.toList = bt1008.1.toList then (if bt1006.2 = bt1008.2 then (if bt1010.1.toList = bt1012.1.toList then (some (bt1010.2 == bt1012.2)) else (none)) else (none)) else (none)) else (none)) else (none)) else (none)))) else (none))))) else (none)))))))) = some r := H
        have A9 := Aside0.mk A90
        clear A90; replace H := Option.bind_eq_some_iff.mp H
        obtain ⟨⟨t1006, t1007⟩, A100, H⟩ := H
        replace H : ((gemotref13_Leave.f kj3 a0 a1).bind fun bt1008 => ((tree_Leaf.f a1).bind fun bt1010 => ((gemotref13_Leaf.f a1).bind fun bt1012 => ((tree_Right.f a0).bind fun t1014 => ((gemotref13_Right.f kj3 a0).bind fun t1015 => (if (t1014 == t1015) = true then ((tree_Members.f a0).bind fun t1016 => ((gemotref13_Members.f kj3 a0).bind fun t1019 => ((gemotref10_Same.f t1016 t1019).bind fun t1022 => (if t1022 = true then ((tree_Depth.f a0).bind fun t1023 => ((gemotref13_Depth.f kj3 a0).bind fun t1024 => (if t1023 = t1024 then (if t1002.toList = t1004.toList then (if t1003 = t1005 then (if t1006.toList = bt1008.1.toList then (if t1007 = bt1008.2 then (if bt1010.1.toList = bt1012.1.toList then (some (bt1010.2 == bt1012.2)) else (none)) else (none)) else (none)) else (none)) else (none)) else (none)))) else (none))))) else (none))))))) = some r := H
        have A10 := Aside0.mk A100
        clear A100; replace H := Option.bind_eq_some_iff.mp H
        obtain ⟨⟨t1008, t1009⟩, A110, H⟩ := H
        replace H : ((tree_Leaf.f a1).bind fun bt1010 => ((gemotref13_Leaf.f a1).bind fun bt1012 => ((tree_Right.f a0).bind fun t1014 => ((gemotref13_Right.f kj3 a0).bind fun t1015 => (if (t1014 == t1015) = true then ((tree_Members.f a0).bind fun t1016 => ((gemotref13_Members.f kj3 a0).bind fun t1019 => ((gemotref10_Same.f t1016 t1019).bind fun t1022 => (if t1022 = true then ((tree_Depth.f a0).bind fun t1023 => ((gemotref13_Depth.f kj3 a0).bind fun t1024 => (if t1023 = t1024 then (if t1002.toList = t1004.toList then (if t1003 = t1005 then (if t1006.toList = t1008.toList then (if t1007 = t1009 then (if bt1010.1.toList = bt1012.1.toList then (some (bt1010.2 == bt1012.2)) else (none)) else (none)) else (none)) else (none)) else (none)) else (none)))) else (none))))) else (none)))))) = some r := H
        have A11 := Aside0.mk A110
        clear A110; replace H := Option.bind_eq_some_iff.mp H
        obtain ⟨⟨t1010, t1011⟩, A120, H⟩ := H
        replace H : ((gemotref13_Leaf.f a1).bind fun bt1012 => ((tree_Right.f a0).bind fun t1014 => ((gemotref13_Right.f kj3 a0).bind fun t1015 => (if (t1014 == t1015) = true then ((tree_Members.f a0).bind fun t1016 => ((gemotref13_Members.f kj3 a0).bind fun t1019 => ((gemotref10_Same.f t1016 t1019).bind fun t1022 => (if t1022 = true then ((tree_Depth.f a0).bind fun t1023 => ((gemotref13_Depth.f kj3 a0).bind fun t1024 => (if t1023 = t1024 then (if t1002.toList = t1004.toList then (if t1003 = t1005 then (if t1006.toList = t1008.toList then (if t1007 = t1009 then (if t1010.toList = bt1012.1.toList then (some (t1011 == bt1012.2)) else (none)) else (none)) else (none)) else (none)) else (none)) else (none)))) else (none))))) else (none))))) = some r := H
        have A12 := Aside0.mk A120
        clear A120; replace H := Option.bind_eq_some_iff.mp H
        obtain ⟨⟨t1012, t1013⟩, A130, H⟩ := H
        replace H : ((tree_Right.f a0).bind fun t1014 => ((gemotref13_Right.f kj3 a0).bind fun t1015 => (if (t1014 == t1015) = true then ((tree_Members.f a0).bind fun t1016 => ((gemotref13_Members.f kj3 a0).bind fun t1019 => ((gemotref10_Same.f t1016 t1019).bind fun t1022 => (if t1022 = true then ((tree_Depth.f a0).bind fun t1023 => ((gemotref13_Depth.f kj3 a0).bind fun t1024 => (if t1023 = t1024 then (if t1002.toList = t1004.toList then (if t1003 = t1005 then (if t1006.toList = t1008.toList then (if t1007 = t1009 then (if t1010.toList = t1012.toList then (some (t1011 == t1013)) else (none)) else (none)) else (none)) else (none)) else (none)) else (none)))) else (none))))) else (none)))) = some r := H
        have A13 := Aside0.mk A130
        clear A130; replace H := Option.bind_eq_some_iff.mp H
        obtain ⟨t1014, A140, H⟩ := H; replace H : ((gemotref13_Right.f kj3 a0).bind fun t1015 => (if (t1014 == t1015) = true then ((tree_Members.f a0).bind fun t1016 => ((gemotref13_Members.f kj3 a0).bind fun t1019 => ((gemotref10_Same.f t1016 t1019).bind fun t1022 => (if t1022 = true then ((tree_Depth.f a0).bind fun t1023 => ((gemotref13_Depth.f kj3 a0).bind fun t1024 => (if t1023 = t1024 then (if t1002.toList = t1004.toList then (if t1003 = t1005 then (if t1006.toList = t1008.toList then (if t1007 = t1009 then (if t1010.toList = t1012.toList then (some (t1011 == t1013)) else (none)) else (none)) else (none)) else (none)) else (none)) else (none)))) else (none))))) else (none))) = some r := H
        have A14 := Aside0.mk A140
        clear A140; replace H := Option.bind_eq_some_iff.mp H
        obtain ⟨t1015, A150, H⟩ := H; replace H : (if (t1014 == t1015) = true then ((tree_Members.f a0).bind fun t1016 => ((gemotref13_Members.f kj3 a0).bind fun t1019 => ((gemotref10_Same.f t1016 t1019).bind fun t1022 => (if t1022 = true then ((tree_Depth.f a0).bind fun t1023 => ((gemotref13_Depth.f kj3 a0).bind fun t1024 => (if t1023 = t1024 then (if t1002.toList = t1004.toList then (if t1003 = t1005 then (if t1006.toList = t1008.toList then (if t1007 = t1009 then (if t1010.toList = t1012.toList then (some (t1011 == t1013)) else (none)) else (none)) else (none)) else (none)) else (none)) else (none)))) else (none))))) else (none)) = some r := H
        have A15 := Aside0.mk A150
        clear A150; by_cases c16 : (t1014 == t1015) = true
        · rw [if_pos c16] at H
          have c16b0 : (t1014 == t1015) = true := c16
          (try (have c16b1 : decide (t1014 = t1015) = true := by simpa using c16)); (try (have c16b2 : (t1014 == t1015) = true := by simpa using c16)); clear c16; replace H := Option.bind_eq_some_iff.mp H
          obtain ⟨t1016, A170, H⟩ := H; replace H : ((gemotref13_Members.f kj3 a0).bind fun t1019 => ((gemotref10_Same.f t1016 t1019).bind fun t1022 => (if t1022 = true then ((tree_Depth.f a0).bind fun t1023 => ((gemotref13_Depth.f kj3 a0).bind fun t1024 => (if t1023 = t1024 then (if t1002.toList = t1004.toList then (if t1003 = t1005 then (if t1006.toList = t1008.toList then (if t1007 = t1009 then (if t1010.toList = t1012.toList then (some (t1011 == t1013)) else (none)) else (none)) else (none)) else (none)) else (none)) else (none)))) else (none)))) = some r := H
          have A17 := Aside0.mk A170
          clear A170; replace H := Option.bind_eq_some_iff.mp H
          obtain ⟨t1019, A180, H⟩ := H; replace H : ((gemotref10_Same.f t1016 t1019).bind fun t1022 => (if t1022 = true then ((tree_Depth.f a0).bind fun t1023 => ((gemotref13_Depth.f kj3 a0).bind fun t1024 => (if t1023 = t1024 then (if t1002.toList = t1004.toList then (if t1003 = t1005 then (if t1006.toList = t1008.toList then (if t1007 = t1009 then (if t1010.toList = t1012.toList then (some (t1011 == t1013)) else (none)) else (none)) else (none)) else (none)) else (none)) else (none)))) else (none))) = some r := H
          have A18 := Aside0.mk A180
          clear A180; replace H := Option.bind_eq_some_iff.mp H
          obtain ⟨t1022, A190, H⟩ := H; replace H : (if t1022 = true then ((tree_Depth.f a0).bind fun t1023 => ((gemotref13_Depth.f kj3 a0).bind fun t1024 => (if t1023 = t1024 then (if t1002.toList = t1004.toList then (if t1003 = t1005 then (if t1006.toList = t1008.toList then (if t1007 = t1009 then (if t1010.toList = t1012.toList then (some (t1011 == t1013)) else (none)) else (none)) else (none)) else (none)) else (none)) else (none)))) else (none)) = some r := H
          have A19 := Aside0.mk A190
          clear A190; by_cases c20 : t1022 = true
          · subst c20; have H1 : ((tree_Depth.f a0).bind fun t1023 => ((gemotref13_Depth.f kj3 a0).bind fun t1024 => (if t1023 = t1024 then (if t1002.toList = t1004.toList then (if t1003 = t1005 then (if t1006.toList = t1008.toList then (if t1007 = t1009 then (if t1010.toList = t1012.toList then (some (t1011 == t1013)) else (none)) else (none)) else (none)) else (none)) else (none)) else (none)))) = some r := by rw [if_pos rfl] at H; exact H
            clear H; have H := H1; clear H1; replace H := Option.bind_eq_some_iff.mp H
            obtain ⟨t1023, A210, H⟩ := H; replace H : ((gemotref13_Depth.f kj3 a0).bind fun t1024 => (if t1023 = t1024 then (if t1002.toList = t1004.toList then (if t1003 = t1005 then (if t1006.toList = t1008.toList then (if t1007 = t1009 then (if t1010.toList = t1012.toList then (some (t1011 == t1013)) else (none)) else (none)) else (none)) else (none)) else (none)) else (none))) = some r := H
            have A21 := Aside0.mk A210
            clear A210; replace H := Option.bind_eq_some_iff.mp H
            obtain ⟨t1024, A220, H⟩ := H; replace H : (if t1023 = t1024 then (if t1002.toList = t1004.toList then (if t1003 = t1005 then (if t1006.toList = t1008.toList then (if t1007 = t1009 then (if t1010.toList = t1012.toList then (some (t1011 == t1013)) else (none)) else (none)) else (none)) else (none)) else (none)) else (none)) = some r := H
            have A22 := Aside0.mk A220
            clear A220; by_cases c23 : t1023 = t1024
            · rw [if_pos c23] at H
              have c23b0 : (t1023 == t1024) = true := beq_iff_eq.mpr c23
              have c23b1 : (t1023 != t1024) = false := bne_eq_false_iff_eq.mpr c23
              clear c23; by_cases c24 : t1002.toList = t1004.toList
              · rw [if_pos c24] at H
                have c24b0 : (t1002.toList == t1004.toList) = true := beq_iff_eq.mpr c24
                have c24b1 : (t1002.toList != t1004.toList) = false := bne_eq_false_iff_eq.mpr c24
                clear c24; by_cases c25 : t1003 = t1005
                · rw [if_pos c25] at H
                  have c25b0 : (t1003 == t1005) = true := beq_iff_eq.mpr c25
                  have c25b1 : (t1003 != t1005) = false := bne_eq_false_iff_eq.mpr c25
                  clear c25; by_cases c26 : t1006.toList = t1008.toList
                  · rw [if_pos c26] at H
                    have c26b0 : (t1006.toList == t1008.toList) = true := beq_iff_eq.mpr c26
                    have c26b1 : (t1006.toList != t1008.toList) = false := bne_eq_false_iff_eq.mpr c26
                    clear c26; by_cases c27 : t1007 = t1009
                    · rw [if_pos c27] at H
                      have c27b0 : (t1007 == t1009) = true := beq_iff_eq.mpr c27
                      have c27b1 : (t1007 != t1009) = false := bne_eq_false_iff_eq.mpr c27
                      clear c27; by_cases c28 : t1010.toList = t1012.toList
                      · rw [if_pos c28] at H
                        have c28b0 : (t1010.toList == t1012.toList) = true := beq_iff_eq.mpr c28
                        have c28b1 : (t1010.toList != t1012.toList) = false := bne_eq_false_iff_eq.mpr c28
                        clear c28; obtain rfl := Option.some.inj H
                        go_wp2_with (first | ((with_reducible refine gate_callee (f := 10) rfl ?_); refine goesL_ (some 32) rfl rfl Tryd.func10 (by kernel_rfl) rfl #[.string a0, .int .i64 a1] rfl (by simp only [List.map_toArray, List.map_cons, List.map_nil] <;> rfl) ?_; (with_reducible refine (tree_Join.calls a0 a1 t1002 t1003 _ A8.out).mono ?_); rintro e w29 ⟨rfl, hb⟩; refine ⟨_, rfl, ?_⟩; have n0_ := Aside0.mk (below_step (by repeat with_reducible first | exact HB.out | apply below_alloc | apply pw_below_drewN | apply below_drew1) hb); clear HB; have HB := n0_; clear n0_; (try clear hb)) | ((with_reducible refine gate_callee (f := 11) rfl ?_); refine goesL_ (some 38) rfl rfl Tryd.func11 (by kernel_rfl) rfl #[.string a0, .int .i64 a1] rfl (by simp only [List.map_toArray, List.map_cons, List.map_nil] <;> rfl) ?_; (with_reducible refine (gemotref13_Join.calls kj3 a0 a1 t1004 t1005 _ A9.out).mono ?_); rintro e w30 ⟨rfl, hb⟩; refine ⟨_, rfl, ?_⟩; have n0_ := Aside0.mk (below_step (by repeat with_reducible first | exact HB.out | apply below_alloc | apply pw_below_drewN | apply below_drew1) hb); clear HB; have HB := n0_; clear n0_; (try clear hb)) | ((with_reducible refine gate_callee (f := 12) rfl ?_); refine goesL_ (some 44) rfl rfl Tryd.func12 (by kernel_rfl) rfl #[.string a0, .int .i64 a1] rfl (by simp only [List.map_toArray, List.map_cons, List.map_nil] <;> rfl) ?_; (with_reducible refine (tree_Leave.calls a0 a1 t1006 t1007 _ A10.out).mono ?_); rintro e w31 ⟨rfl, hb⟩; refine ⟨_, rfl, ?_⟩; have n0_ := Aside0.mk (below_step (by repeat with_reducible first | exact HB.out | apply below_alloc | apply pw_below_drewN | apply below_drew1) hb); clear HB; have HB := n0_; clear n0_; (try clear hb)) | ((with_reducible refine gate_callee (f := 13) rfl ?_); refine goesL_ (some 50) rfl rfl Tryd.func13 (by kernel_rfl) rfl #[.string a0, .int .i64 a1] rfl (by simp only [List.map_toArray, List.map_cons, List.map_nil] <;> rfl) ?_; (with_reducible refine (gemotref13_Leave.calls kj3 a0 a1 t1008 t1009 _ A11.out).mono ?_); rintro e w32 ⟨rfl, hb⟩; refine ⟨_, rfl, ?_⟩; have n0_ := Aside0.mk (below_step (by repeat with_reducible first | exact HB.out | apply below_alloc | apply pw_below_drewN | apply below_drew1) hb); clear HB; have HB := n0_; clear n0_; (try clear hb)) | ((with_reducible refine gate_callee (f := 14) rfl ?_); refine goesL_ (some 55) rfl rfl Tryd.func14 (by kernel_rfl) rfl #[.int .i64 a1] rfl (by simp only [List.map_toArray, List.map_cons, List.map_nil] <;> rfl) ?_; (with_reducible refine (tree_Leaf.calls a1 t1010 t1011 _ A12.out).mono ?_); rintro e w' ⟨rfl, ⟨nd, rfl⟩⟩; refine ⟨_, rfl, ?_⟩) | ((with_reducible refine gate_callee (f := 15) rfl ?_); refine goesL_ (some 60) rfl rfl Tryd.func15 (by kernel_rfl) rfl #[.int .i64 a1] rfl (by simp only [List.map_toArray, List.map_cons, List.map_nil] <;> rfl) ?_; (with_reducible refine (gemotref13_Leaf.calls a1 t1012 t1013 _ A13.out).mono ?_); rintro e w' ⟨rfl, ⟨nd, rfl⟩⟩; refine ⟨_, rfl, ?_⟩) | ((with_reducible refine gate_callee (f := 16) rfl ?_); refine goesL_ (some 64) rfl rfl Tryd.func16 (by kernel_rfl) rfl #[.string a0] rfl (by simp only [List.map_toArray, List.map_cons, List.map_nil] <;> rfl) ?_; (with_reducible refine (tree_Right.calls a0 t1014 _ A14.out).mono ?_); rintro e w33 ⟨rfl, hb⟩; refine ⟨_, rfl, ?_⟩; have n0_ := Aside0.mk (below_step (by repeat with_reducible first | exact HB.out | apply below_alloc | apply pw_below_drewN | apply below_drew1) hb); clear HB; have HB := n0_; clear n0_; (try clear hb)) | ((with_reducible refine gate_callee (f := 17) rfl ?_); refine goesL_ (some 66) rfl rfl Tryd.func17 (by kernel_rfl) rfl #[.string a0] rfl (by simp only [List.map_toArray, List.map_cons, List.map_nil] <;> rfl) ?_; (with_reducible refine (gemotref13_Right.calls kj3 a0 t1015 _ A15.out).mono ?_); rintro e w34 ⟨rfl, hb⟩; refine ⟨_, rfl, ?_⟩; have n0_ := Aside0.mk (below_step (by repeat with_reducible first | exact HB.out | apply below_alloc | apply pw_below_drewN | apply below_drew1) hb); clear HB; have HB := n0_; clear n0_; (try clear hb)) | (go_at_call 19; (with_reducible refine (tree_Members.calls a0 t1016 _ A17.out).mono ?_); rintro e w35 ⟨v1017, rfl, ho0, hb⟩; have n0_ := Aside0.mk (Kd.R_lower ho0 (below_size (by repeat with_reducible first | exact HB.out | apply below_alloc | apply pw_below_drewN | apply below_drew1))); have n1_ := Aside0.mk (below_step (by repeat with_reducible first | exact HB.out | apply below_alloc | apply pw_below_drewN | apply below_drew1) hb); clear HB; have HO1018 := n0_; have HB := n1_; clear n0_ n1_; (try clear hb); (try clear ho0)) | (go_at_call 20; (with_reducible refine (gemotref13_Members.calls kj3 a0 t1019 _ A18.out).mono ?_); rintro e w36 ⟨v1020, rfl, ho0, hb⟩; have n0_ := Aside0.mk (Kd.R_elder' (by (with_reducible repeat (first | apply Kd.R_alloc | apply Kd.R_drewN | apply Kd.R_drew)); exact HO1018.out) (Kd.R_base ho0) hb); have n1_ := Aside0.mk (Kd.R_lower (Kd.R_new' ho0 (Kd.R_lt (by (with_reducible repeat (first | apply Kd.R_alloc | apply Kd.R_drewN | apply Kd.R_drew)); exact HO1018.out))) (below_size (by repeat with_reducible first | exact HB.out | apply below_alloc | apply pw_below_drewN | apply below_drew1))); have n2_ := Aside0.mk (below_step (by repeat with_reducible first | exact HB.out | apply below_alloc | apply pw_below_drewN | apply below_drew1) hb); clear HO1018; clear HB; have HO1018 := n0_; have HO1021 := n1_; have HB := n2_; clear n0_ n1_ n2_; (try clear hb); (try clear ho0); obtain ⟨Ao37, co37, eo37⟩ := Kd.R_slice HO1018.out; subst eo37; obtain ⟨Ao38, co38, eo38⟩ := Kd.R_slice HO1021.out; subst eo38) | (go_at_call 18; (with_reducible refine (gemotref10_Same.calls _ _ t1016 _ _ t1019 true _ ?side1 ?side2 ?side3 ?side4 A19.out).mono ?_); (case side1 => repeat (first | exact (Kd.R_reads' HO1018.out).2.2 | (with_reducible refine Kd.C_alloc ?_ _) | (with_reducible refine Kd.C_drewN ?_ _) | (with_reducible refine Kd.C_drew ?_))); (case side2 => exact (Kd.R_reads' HO1018.out).2.1); (case side3 => repeat (first | exact (Kd.R_reads' HO1021.out).2.2 | (with_reducible refine Kd.C_alloc ?_ _) | (with_reducible refine Kd.C_drewN ?_ _) | (with_reducible refine Kd.C_drew ?_))); (case side4 => exact (Kd.R_reads' HO1021.out).2.1); rintro e w' ⟨rfl, ⟨nd, rfl⟩⟩) | (go_at_call 21; (with_reducible refine (tree_Depth.calls a0 t1023 _ A21.out).mono ?_); rintro e w39 ⟨rfl, hb⟩; have n0_ := Aside0.mk (Kd.R_below (by (with_reducible repeat (first | apply Kd.R_alloc | apply Kd.R_drewN | apply Kd.R_drew)); exact HO1018.out) hb); have n1_ := Aside0.mk (Kd.R_below (by (with_reducible repeat (first | apply Kd.R_alloc | apply Kd.R_drewN | apply Kd.R_drew)); exact HO1021.out) hb); have n2_ := Aside0.mk (below_step (by repeat with_reducible first | exact HB.out | apply below_alloc | apply pw_below_drewN | apply below_drew1) hb); clear HO1018; clear HO1021; clear HB; have HO1018 := n0_; have HO1021 := n1_; have HB := n2_; clear n0_ n1_ n2_; (try clear hb)) | (go_at_call 22; (with_reducible refine (gemotref13_Depth.calls kj3 a0 t1024 _ A22.out).mono ?_); rintro e w40 ⟨rfl, hb⟩; have n0_ := Aside0.mk (Kd.R_below (by (with_reducible repeat (first | apply Kd.R_alloc | apply Kd.R_drewN | apply Kd.R_drew)); exact HO1018.out) hb); have n1_ := Aside0.mk (Kd.R_below (by (with_reducible repeat (first | apply Kd.R_alloc | apply Kd.R_drewN | apply Kd.R_drew)); exact HO1021.out) hb); have n2_ := Aside0.mk (below_step (by repeat with_reducible first | exact HB.out | apply below_alloc | apply pw_below_drewN | apply below_drew1) hb); clear HO1018; clear HO1021; clear HB; have HO1018 := n0_; have HO1021 := n1_; have HB := n2_; clear n0_ n1_ n2_; (try clear hb)))
                        go_ret
                        exact ⟨by first | rfl | (simp [errW_none, errW_some] <;> rfl) | (simp [*, errW_none, errW_some] <;> rfl), by repeat (first | (with_reducible first | exact HB.out | apply below_alloc | apply pw_below_drewN | apply below_drew1) | exact HB.out)⟩
                      · rw [if_neg c28] at H
                        exact absurd H (by simp)
                    · rw [if_neg c27] at H
                      exact absurd H (by simp)
                  · rw [if_neg c26] at H
                    exact absurd H (by simp)
                · rw [if_neg c25] at H
                  exact absurd H (by simp)
              · rw [if_neg c24] at H
                exact absurd H (by simp)
            · rw [if_neg c23] at H
              exact absurd H (by simp)
          · replace c20 := Bool.eq_false_iff.mpr c20
            subst c20; have H1 : (none) = some r := by rw [if_neg (show ¬ (false = true) by decide)] at H; exact H
            exact absurd H1 (by simp)
        · rw [if_neg c16] at H
          exact absurd H (by simp)

/-- THE ONE PURE STATEMENT of gemotlaw13_TreeReads: yours. -/
def gemotlaw13_TreeReads.Pure : Prop := ∀ (a0 : ByteArray) (a1 : Int), a0.size ≤ 140737488351232 → (Lit.int .i64 a1).wf = true → ∃ k, gemotlaw13_TreeReads.f k a0 a1 = some true
theorem gemotlaw13_TreeReads.walk (P : gemotlaw13_TreeReads.Pure) (a0 : ByteArray) (a1 : Int) (w : World) (w0 : a0.size ≤ 140737488351232) (w1 : (Lit.int .i64 a1).wf = true) :
    Calls Tryd.prog 3 #[.string a0, .int .i64 a1] w fun e w' => e = .returned (.bool true) ∧ Below w.heap.size w w' := by
  obtain ⟨k, h⟩ := P a0 a1 w0 w1
  refine (gemotlaw13_TreeReads.calls k a0 a1 true w h).mono ?_
  rintro e w' ⟨rfl, hd⟩; exact ⟨rfl, hd⟩

end Go.Proofs.YtiofobdmkkbmlaaDoor.F
