-- Laid by mk.py (a program of this session) over the seat's translation.
import Derived.Test.YtpfpmjdifnoeoaaDoorF0
import Derived.Test.YtpfpmjdifnoeoaaDoorF10
import Derived.Test.YtpfpmjdifnoeoaaDoorF13
import Derived.Test.YtpfpmjdifnoeoaaDoorF15
import Derived.Test.YtpfpmjdifnoeoaaDoorF20
import Derived.Test.YtpfpmjdifnoeoaaDoorF22
import Derived.Test.YtpfpmjdifnoeoaaDoorF28
import Derived.Test.YtpfpmjdifnoeoaaDoorF29
namespace Go.Proofs.YtpfpmjdifnoeoaaDoor.F
open Go.RowKit Go.Proofs.YtpfpmjdifnoeoaaDoorW.PrintWords Go.Proofs.YtpfpmjdifnoeoaaDoorW.PrintLast Go.Proofs.YtpfpmjdifnoeoaaDoorW.PrintMore
attribute [local go_sem] max2_int min2_int max_two min_two max_three min_three max_four min_four
set_option linter.unusedVariables false
set_option linter.unusedSimpArgs false

/-! ### gemotlaw13_TreeLeaves: function 8 -/
mutual
def gemotlaw13_TreeLeaves.j0 : Nat → List Int → List Int → Bool → Bool → Option (Bool)
  | 0, _, _, _, _ => none
  | k + 1, x0, x1, x5, x21 => if x21 = true then (some x5) else ((gemotlaw13_made.f k x0).bind fun t1002 => (gemotlaw13_TreeLeaves.l0 k x1 t1002 0))
def gemotlaw13_TreeLeaves.l0 : Nat → List Int → ByteArray → Int → Option (Bool)
  | 0, _, _, _ => none
  | k + 1, x1, x6, x7 => if x7 < 8 then ((tree_Members.f x6).bind fun t1003 => (if (t1003.length : Int) = 1 then (if 0 < (t1003.length : Int) then ((tree_Leaf.f (rd t1003 0)).bind fun bt1007 => (if x6.toList = bt1007.1.toList then ((tree_Depth.f x6).bind fun t1009 => (some (t1009 == 0))) else (none))) else (none)) else (if (x1.length : Int) > 0 then (if (x1.length : Int) = 0 then (none) else (if 0 ≤ (Int.tmod x7 (x1.length : Int)) then (if (Int.tmod x7 (x1.length : Int)) < (x1.length : Int) then ((gemotlaw13_pick.f (rd x1 (Int.tmod x7 (x1.length : Int))) (t1003.length : Int)).bind fun t1011 => (gemotlaw13_TreeLeaves.j2 k x1 x6 x7 t1003 t1011)) else (none)) else (none))) else (gemotlaw13_TreeLeaves.j2 k x1 x6 x7 t1003 0)))) else (none)
def gemotlaw13_TreeLeaves.j2 : Nat → List Int → ByteArray → Int → List Int → Int → Option (Bool)
  | 0, _, _, _, _, _ => none
  | k + 1, x1, x6, x7, x8, x11 => if 0 ≤ x11 then (if x11 < (x8.length : Int) then ((tree_Leave.f x6 (rd x8 x11)).bind fun bt1013 => (if bt1013.2 = 0 then ((tree_Members.f bt1013.1).bind fun t1015 => (if (t1015.length : Int) = (wrap64 ((x8.length : Int) - 1)) then (gemotlaw13_TreeLeaves.l0 k x1 bt1013.1 (wrap64 (x7 + 1))) else (none))) else (none))) else (none)) else (none)
end
def gemotlaw13_TreeLeaves.f (k : Nat) (l0 : List Int) (l1 : List Int) : Option (Bool) := (gemotlaw13_shown.f k).bind fun t1001 => (if t1001 = true then (gemotlaw13_TreeLeaves.j0 k l0 l1 t1001 (decide ((l1.length : Int) > 20))) else (gemotlaw13_TreeLeaves.j0 k l0 l1 t1001 true))
theorem gemotlaw13_TreeLeaves.mono_l : ∀ k, (∀ y0 y1 y2 y3, LeO (gemotlaw13_TreeLeaves.j0 k y0 y1 y2 y3) (gemotlaw13_TreeLeaves.j0 (k + 1) y0 y1 y2 y3)) ∧ (∀ y0 y1 y2, LeO (gemotlaw13_TreeLeaves.l0 k y0 y1 y2) (gemotlaw13_TreeLeaves.l0 (k + 1) y0 y1 y2)) ∧ (∀ y0 y1 y2 y3 y4, LeO (gemotlaw13_TreeLeaves.j2 k y0 y1 y2 y3 y4) (gemotlaw13_TreeLeaves.j2 (k + 1) y0 y1 y2 y3 y4))
  | 0 => ⟨fun _ _ _ _ r h => by simp [gemotlaw13_TreeLeaves.j0] at h, fun _ _ _ r h => by simp [gemotlaw13_TreeLeaves.l0] at h, fun _ _ _ _ _ r h => by simp [gemotlaw13_TreeLeaves.j2] at h⟩
  | k + 1 => by
    obtain ⟨ih0, ih1, ih2⟩ := gemotlaw13_TreeLeaves.mono_l k; refine ⟨?_, ?_, ?_⟩
    · intro y0 y1 y2 y3; unfold gemotlaw13_TreeLeaves.j0
      repeat' first
      | (with_reducible exact ih0 _ _ _ _)
      | (with_reducible exact ih1 _ _ _)
      | (with_reducible exact ih2 _ _ _ _ _)
      | (with_reducible exact gemotlaw13_made.mono _ _)
      | (with_reducible exact gemotlaw13_shown.mono _)
      | (with_reducible exact LeO.refl _)
      | (with_reducible exact LeO.none _)
      | (with_reducible refine LeO.ite ?_ ?_)
      | (with_reducible refine LeO.bind ?_ (fun _ => ?_))
      | exact ih0 _ _ _ _
      | exact ih1 _ _ _
      | exact ih2 _ _ _ _ _
      | exact gemotlaw13_made.mono _ _
      | exact gemotlaw13_shown.mono _
      | exact LeO.none _
      | refine LeO.ite ?_ ?_
      | refine LeO.bind ?_ (fun _ => ?_)
    · intro y0 y1 y2; unfold gemotlaw13_TreeLeaves.l0
      repeat' first
      | (with_reducible exact ih0 _ _ _ _)
      | (with_reducible exact ih1 _ _ _)
      | (with_reducible exact ih2 _ _ _ _ _)
      | (with_reducible exact gemotlaw13_made.mono _ _)
      | (with_reducible exact gemotlaw13_shown.mono _)
      | (with_reducible exact LeO.refl _)
      | (with_reducible exact LeO.none _)
      | (with_reducible refine LeO.ite ?_ ?_)
      | (with_reducible refine LeO.bind ?_ (fun _ => ?_))
      | exact ih0 _ _ _ _
      | exact ih1 _ _ _
      | exact ih2 _ _ _ _ _
      | exact gemotlaw13_made.mono _ _
      | exact gemotlaw13_shown.mono _
      | exact LeO.none _
      | refine LeO.ite ?_ ?_
      | refine LeO.bind ?_ (fun _ => ?_)
    · intro y0 y1 y2 y3 y4; unfold gemotlaw13_TreeLeaves.j2
      repeat' first
      | (with_reducible exact ih0 _ _ _ _)
      | (with_reducible exact ih1 _ _ _)
      | (with_reducible exact ih2 _ _ _ _ _)
      | (with_reducible exact gemotlaw13_made.mono _ _)
      | (with_reducible exact gemotlaw13_shown.mono _)
      | (with_reducible exact LeO.refl _)
      | (with_reducible exact LeO.none _)
      | (with_reducible refine LeO.ite ?_ ?_)
      | (with_reducible refine LeO.bind ?_ (fun _ => ?_))
      | exact ih0 _ _ _ _
      | exact ih1 _ _ _
      | exact ih2 _ _ _ _ _
      | exact gemotlaw13_made.mono _ _
      | exact gemotlaw13_shown.mono _
      | exact LeO.none _
      | refine LeO.ite ?_ ?_
      | refine LeO.bind ?_ (fun _ => ?_)
theorem gemotlaw13_TreeLeaves.mono : ∀ a0 a1 k, LeO (gemotlaw13_TreeLeaves.f k a0 a1) (gemotlaw13_TreeLeaves.f (k + 1) a0 a1) := by
  intro a0 a1 k; obtain ⟨ih0, ih1, ih2⟩ := gemotlaw13_TreeLeaves.mono_l k; unfold gemotlaw13_TreeLeaves.f
  repeat' first
      | (with_reducible exact ih0 _ _ _ _)
      | (with_reducible exact ih1 _ _ _)
      | (with_reducible exact ih2 _ _ _ _ _)
      | (with_reducible exact gemotlaw13_made.mono _ _)
      | (with_reducible exact gemotlaw13_shown.mono _)
      | (with_reducible exact LeO.refl _)
      | (with_reducible exact LeO.none _)
      | (with_reducible refine LeO.ite ?_ ?_)
      | (with_reducible refine LeO.bind ?_ (fun _ => ?_))
      | exact ih0 _ _ _ _
      | exact ih1 _ _ _
      | exact ih2 _ _ _ _ _
      | exact gemotlaw13_made.mono _ _
      | exact gemotlaw13_shown.mono _
      | exact LeO.none _
      | refine LeO.ite ?_ ?_
      | refine LeO.bind ?_ (fun _ => ?_)
set_option maxHeartbeats 8000000 in
set_option maxRecDepth 100000 in
theorem gemotlaw13_TreeLeaves.calls (k : Nat) (A0 : Option Addr) (c0 : Nat) (l0 : List Int) (A1 : Option Addr) (c1 : Nat) (l1 : List Int) (r : Bool) (w : World) (hr0 : Kd.C (Kd.int .i64) w A0 l0.length l0) (hc0 : l0.length ≤ c0) (hr1 : Kd.C (Kd.int .i64) w A1 l1.length l1) (hc1 : l1.length ≤ c1) (h : gemotlaw13_TreeLeaves.f k l0 l1 = some r) :
    Calls Tryd.prog 8 #[.slice A0 l0.length c0, .slice A1 l1.length c1] w fun e w' => e = .returned (.bool r) ∧ Below w.heap.size w w' := by
  have HR0 := Aside0.mk hr0
  have HC0 := Aside0.mk hc0
  clear hr0 hc0; have HR1 := Aside0.mk hr1
  have HC1 := Aside0.mk hc1
  clear hr1 hc1; have HB := Aside0.mk (Below.refl w.heap.size w)
  have H : ((gemotlaw13_shown.f k).bind fun t1001 => (if t1001 = true then (gemotlaw13_TreeLeaves.j0 k l0 l1 t1001 (decide ((l1.length : Int) > 20))) else (gemotlaw13_TreeLeaves.j0 k l0 l1 t1001 true))) = some r := h
  clear h; replace H := Option.bind_eq_some_iff.mp H
  obtain ⟨t1001, A30, H⟩ := H; replace H : (if t1001 = true then (gemotlaw13_TreeLeaves.j0 k l0 l1 t1001 (decide ((l1.length : Int) > 20))) else (gemotlaw13_TreeLeaves.j0 k l0 l1 t1001 true)) = some r := H
  have A3 := Aside0.mk A30
  clear A30; have HC4 := Aside0.mk H
  clear H; go_enter Tryd.func8, Tryd.ntmps8
  go_upto_region 2 with (first | ((with_reducible refine gate_callee (f := 10) rfl ?_); refine goesL_ (some 14) rfl rfl Tryd.func10 (by kernel_rfl) rfl #[] rfl (by simp only [List.map_toArray, List.map_cons, List.map_nil] <;> rfl) ?_; (with_reducible refine (gemotlaw13_shown.calls k  t1001 _ A3.out).mono ?_); rintro e w5 ⟨rfl, hb⟩; refine ⟨_, rfl, ?_⟩; have n0_ := Aside0.mk (below_step (by repeat with_reducible first | exact HB.out | apply below_alloc | apply pw_below_drewN | apply below_drew1) hb); clear HB; have HB := n0_; clear n0_; (try clear hb)))
  (try simp only [Act.put, List.setIfInBounds_toArray, List.set_cons_zero, List.set_cons_succ]); go_cut [21] (fun v21 wc => ∃ (kq : Nat) (x21_3 : Bool), v21 = .bool x21_3 ∧ Aside0 (gemotlaw13_TreeLeaves.j0 kq l0 l1 t1001 x21_3 = some r) ∧ Aside0 (kq ≤ k) ∧ Aside0 (Below w.heap.size w wc))
  case first =>
    have H := HC4.out; clear HC4; by_cases c6 : t1001 = true
    · subst c6; have H1 : (gemotlaw13_TreeLeaves.j0 k l0 l1 true (decide ((l1.length : Int) > 20))) = some r := by rw [if_pos rfl] at H; exact H
      clear H; have H := H1; clear H1; have H' := Aside0.mk H
      clear H; go_wp2; go_meet
      case rel => exact ⟨_, (decide ((l1.length : Int) > 20)), (by first | rfl | (simp; done) | (simp [*]; done)), H', ⟨by first | omega | exact Nat.le_refl _⟩, ⟨by repeat (first | (with_reducible first | exact HB.out | apply below_alloc | apply pw_below_drewN | apply below_drew1) | exact HB.out)⟩⟩
    · replace c6 := Bool.eq_false_iff.mpr c6
      subst c6; have H1 : (gemotlaw13_TreeLeaves.j0 k l0 l1 false true) = some r := by rw [if_neg (show ¬ (false = true) by decide)] at H; exact H
      clear H; have H := H1; clear H1; have H' := Aside0.mk H
      clear H; go_wp2; go_meet
      case rel => exact ⟨_, (true), (by first | rfl | (simp; done) | (simp [*]; done)), H', ⟨by first | omega | exact Nat.le_refl _⟩, ⟨by repeat (first | (with_reducible first | exact HB.out | apply below_alloc | apply pw_below_drewN | apply below_drew1) | exact HB.out)⟩⟩
  case rest =>
    clear HC4; try clear c1
    try clear p2
    try clear c6
    obtain ⟨kq, x21_3, rfl, HA, HJ3, HB⟩ := hcut; cases kq with
    | zero => exact absurd HA.out (by simp [gemotlaw13_TreeLeaves.j0])
    | succ kj3 =>
      have H := HA.out; clear HA; simp only [gemotlaw13_TreeLeaves.j0] at H; by_cases c7 : x21_3 = true
      · subst c7; have H1 : (some t1001) = some r := by rw [if_pos rfl] at H; exact H
        clear H; have H := H1; clear H1; obtain rfl := Option.some.inj H
        go_wp2; go_ret
        exact ⟨by first | rfl | (simp [errW_none, errW_some] <;> rfl) | (simp [*, errW_none, errW_some] <;> rfl), by repeat (first | (with_reducible first | exact HB.out | apply below_alloc | apply pw_below_drewN | apply below_drew1) | exact HB.out)⟩
      · replace c7 := Bool.eq_false_iff.mpr c7
        subst c7; have H1 : ((gemotlaw13_made.f kj3 l0).bind fun t1002 => (gemotlaw13_TreeLeaves.l0 kj3 l1 t1002 0)) = some r := by rw [if_neg (show ¬ (false = true) by decide)] at H; exact H
        clear H; have H := H1; clear H1; replace H := Option.bind_eq_some_iff.mp H
        obtain ⟨t1002, A80, H⟩ := H; replace H : (gemotlaw13_TreeLeaves.l0 kj3 l1 t1002 0) = some r := H
        have A8 := Aside0.mk A80
        clear A80; have H' := Aside0.mk H
        clear H; go_wp2_with (first | ((with_reducible refine gate_callee (f := 28) rfl ?_); refine goesL_ (some 24) rfl rfl Tryd.func28 (by kernel_rfl) rfl #[.slice A0 l0.length c0] rfl (by simp only [List.map_toArray, List.map_cons, List.map_nil] <;> rfl) ?_; (with_reducible refine (gemotlaw13_made.calls kj3 _ _ l0 t1002 _ ?side1 ?side2 A8.out).mono ?_); (case side1 => repeat (first | exact (Kd.C_below HR0.out HB.out) | (with_reducible refine Kd.C_alloc ?_ _) | (with_reducible refine Kd.C_drewN ?_ _) | (with_reducible refine Kd.C_drew ?_))); (case side2 => exact HC0.out); rintro e w9 ⟨rfl, hb⟩; refine ⟨_, rfl, ?_⟩; have n0_ := Aside0.mk (below_step (by repeat with_reducible first | exact HB.out | apply below_alloc | apply pw_below_drewN | apply below_drew1) hb); clear HB; have HB := n0_; clear n0_; (try clear hb)))
        go_loopg [6, 7] kj3 (fun kq v6 v7 w' => ∃ (x6_2 : ByteArray) (x7_2 : Int), v6 = .string x6_2 ∧ v7 = .int .i64 x7_2 ∧ Aside0 (gemotlaw13_TreeLeaves.l0 kq l1 x6_2 x7_2 = some r) ∧ Aside0 (kq ≤ kj3) ∧ Aside0 (Below w.heap.size w w'))
        case atStart => exact ⟨(t1002), (0), (by first | rfl | (simp; done) | (simp [*]; done)), (by first | rfl | (simp; done) | (simp [*]; done)), H', ⟨Nat.le_refl _⟩, ⟨by repeat (first | (with_reducible first | exact HB.out | apply below_alloc | apply pw_below_drewN | apply below_drew1) | exact HB.out)⟩⟩
        case round =>
          clear H'; try clear c1
          try clear c2
          try clear p2
          try clear c6
          try clear c7
          try clear c8
          try clear p2
          obtain ⟨x6_2, x7_2, rfl, rfl, HA, HK2, HB⟩ := hrel; cases gk with
          | zero => exact absurd HA.out (by simp [gemotlaw13_TreeLeaves.l0])
          | succ k2 =>
            have H := HA.out; clear HA; simp only [gemotlaw13_TreeLeaves.l0] at H; by_cases c10 : x7_2 < 8
            · rw [if_pos c10] at H
              have c10b0 : decide (x7_2 < 8) = true := decide_eq_true c10
              clear c10; replace H := Option.bind_eq_some_iff.mp H
              obtain ⟨t1003, A110, H⟩ := H; replace H : (if (t1003.length : Int) = 1 then (if 0 < (t1003.length : Int) then ((tree_Leaf.f (rd t1003 0)).bind fun bt1007 => (if x6_2.toList = bt1007.1.toList then ((tree_Depth.f x6_2).bind fun t1009 => (some (t1009 == 0))) else (none))) else (none)) else (if (l1.length : Int) > 0 then (if (l1.length : Int) = 0 then (none) else (if 0 ≤ (Int.tmod x7_2 (l1.length : Int)) then (if (Int.tmod x7_2 (l1.length : Int)) < (l1.length : Int) then ((gemotlaw13_pick.f (rd l1 (Int.tmod x7_2 (l1.length : Int))) (t1003.length : Int)).bind fun t1011 => (gemotlaw13_TreeLeaves.j2 k2 l1 x6_2 x7_2 t1003 t1011)) else (none)) else (none))) else (gemotlaw13_TreeLeaves.j2 k2 l1 x6_2 x7_2 t1003 0))) = some r := H
              have A11 := Aside0.mk A110
              clear A110; by_cases c12 : (t1003.length : Int) = 1
              · rw [if_pos c12] at H
                have c12b0 : ((t1003.length : Int) == 1) = true := beq_iff_eq.mpr c12
                have c12b1 : ((t1003.length : Int) != 1) = false := bne_eq_false_iff_eq.mpr c12
                clear c12; by_cases c13 : 0 < (t1003.length : Int)
                · rw [if_pos c13] at H
                  have c13b0 : decide (0 < (t1003.length : Int)) = true := decide_eq_true c13
                  have c13b1 : decide (0 < t1003.length) = true := decide_eq_true (by omega)
                  clear c13; replace H := Option.bind_eq_some_iff.mp H
                  obtain ⟨⟨t1007, t1008⟩, A140, H⟩ := H
                  replace H : (if x6_2.toList = t1007.toList then ((tree_Depth.f x6_2).bind fun t1009 => (some (t1009 == 0))) else (none)) = some r := H
                  have A14 := Aside0.mk A140
                  clear A140; by_cases c15 : x6_2.toList = t1007.toList
                  · rw [if_pos c15] at H
                    have c15b0 : (x6_2.toList == t1007.toList) = true := beq_iff_eq.mpr c15
                    have c15b1 : (x6_2.toList != t1007.toList) = false := bne_eq_false_iff_eq.mpr c15
                    clear c15; replace H := Option.bind_eq_some_iff.mp H
                    obtain ⟨t1009, A160, H⟩ := H; replace H : (some (t1009 == 0)) = some r := H
                    have A16 := Aside0.mk A160
                    clear A160; obtain rfl := Option.some.inj H
                    go_wp2_with (first | ((with_reducible refine gate_callee (f := 20) rfl ?_); refine goesL_ (some 30) rfl rfl Tryd.func20 (by kernel_rfl) rfl #[.string x6_2] rfl (by simp only [List.map_toArray, List.map_cons, List.map_nil] <;> rfl) ?_; (with_reducible refine (tree_Members.calls x6_2 t1003 _ A11.out).mono ?_); rintro e w17 ⟨v1004, rfl, ho0, hb⟩; refine ⟨_, rfl, ?_⟩; have n0_ := Aside0.mk (Kd.R_lower ho0 (below_size (by repeat with_reducible first | exact HB.out | apply below_alloc | apply pw_below_drewN | apply below_drew1))); have n1_ := Aside0.mk (below_step (by repeat with_reducible first | exact HB.out | apply below_alloc | apply pw_below_drewN | apply below_drew1) hb); clear HB; have HO1005 := n0_; have HB := n1_; clear n0_ n1_; (try clear hb); (try clear ho0); obtain ⟨Ao18, co18, eo18⟩ := Kd.R_slice HO1005.out; subst eo18; have p1006 : 0 ≤ (0 : Int) := (by omega); have q1006 : 0 < (t1003.length : Int) := of_decide_eq_true (by assumption); obtain ⟨ad1006, e1006, hx1006_0⟩ := Kd.at_int (Kd.R_reads' HO1005.out).2.2 0 p1006 q1006; cases e1006; have qi1006 : (0 < t1003.length) = True := eq_true (by omega); (try rw [show ((0 : Int)).toNat = 0 from rfl] at hx1006_0); (try rw [Addr.add_zero'] at hx1006_0); replace p1006 := eq_true p1006; replace q1006 := eq_true q1006) | ((with_reducible refine gate_callee (f := 15) rfl ?_); refine goesL_ (some 38) rfl rfl Tryd.func15 (by kernel_rfl) rfl #[.int .i64 (rd t1003 0)] rfl (by simp only [List.map_toArray, List.map_cons, List.map_nil] <;> rfl) ?_; (with_reducible refine (tree_Leaf.calls (rd t1003 0) t1007 t1008 _ A14.out).mono ?_); rintro e w' ⟨rfl, ⟨nd, rfl⟩⟩; refine ⟨_, rfl, ?_⟩) | (go_at_call 22; (with_reducible refine (tree_Depth.calls x6_2 t1009 _ A16.out).mono ?_); rintro e w19 ⟨rfl, hb⟩; have n0_ := Aside0.mk (Kd.R_below (by (with_reducible repeat (first | apply Kd.R_alloc | apply Kd.R_drewN | apply Kd.R_drew)); exact HO1005.out) hb); have n1_ := Aside0.mk (below_step (by repeat with_reducible first | exact HB.out | apply below_alloc | apply pw_below_drewN | apply below_drew1) hb); clear HO1005; clear HB; have HO1005 := n0_; have HB := n1_; clear n0_ n1_; (try clear hb)))
                    go_ret
                    exact ⟨by first | rfl | (simp [errW_none, errW_some] <;> rfl) | (simp [*, errW_none, errW_some] <;> rfl), by repeat (first | (with_reducible first | exact HB.out | apply below_alloc | apply pw_below_drewN | apply below_drew1) | exact HB.out)⟩
                  · rw [if_neg c15] at H
                    exact absurd H (by simp)
                · rw [if_neg c13] at H
                  exact absurd H (by simp)
              · rw [if_neg c12] at H
                have c12b0 : ((t1003.length : Int) == 1) = false := beq_eq_false_iff_ne.mpr c12
                have c12b1 : ((t1003.length : Int) != 1) = true := bne_iff_ne.mpr c12
                have HC22 := Aside0.mk H
                clear H; go_upto_if 51 with (first | ((with_reducible refine gate_callee (f := 20) rfl ?_); refine goesL_ (some 30) rfl rfl Tryd.func20 (by kernel_rfl) rfl #[.string x6_2] rfl (by simp only [List.map_toArray, List.map_cons, List.map_nil] <;> rfl) ?_; (with_reducible refine (tree_Members.calls x6_2 t1003 _ A11.out).mono ?_); rintro e w23 ⟨v1004, rfl, ho0, hb⟩; refine ⟨_, rfl, ?_⟩; have n0_ := Aside0.mk (Kd.R_lower ho0 (below_size (by repeat with_reducible first | exact HB.out | apply below_alloc | apply pw_below_drewN | apply below_drew1))); have n1_ := Aside0.mk (below_step (by repeat with_reducible first | exact HB.out | apply below_alloc | apply pw_below_drewN | apply below_drew1) hb); clear HB; have HO1005 := n0_; have HB := n1_; clear n0_ n1_; (try clear hb); (try clear ho0); obtain ⟨Ao24, co24, eo24⟩ := Kd.R_slice HO1005.out; subst eo24))
                (try simp only [Act.put, List.setIfInBounds_toArray, List.set_cons_zero, List.set_cons_succ]); go_cut [11] (fun v11 wc => ∃ (kq : Nat) (x11_21 : Int), v11 = .int .i64 x11_21 ∧ Aside0 (gemotlaw13_TreeLeaves.j2 kq l1 x6_2 x7_2 t1003 x11_21 = some r) ∧ Aside0 (kq ≤ k2) ∧ Aside0 (Kd.R (Kd.int .i64) 3 wc w.heap.size (fun _ => True) (.slice Ao24 t1003.length co24) t1003) ∧ Aside0 (Below w.heap.size w wc))
                case first =>
                  have H := HC22.out; clear HC22; by_cases c25 : (l1.length : Int) > 0
                  · rw [if_pos c25] at H
                    have c25b0 : decide (0 < (l1.length : Int)) = true := decide_eq_true c25
                    have c25b1 : decide (0 < l1.length) = true := decide_eq_true (by omega)
                    clear c25; (first | rw [c25b0] | (simp only [i64_w, i32_w]; rw [c25b0]) | rw [c25b1] | skip); by_cases c26 : (l1.length : Int) = 0
                    · rw [if_pos c26] at H
                      exact absurd H (by simp)
                    · rw [if_neg c26] at H
                      have c26b0 : ((l1.length : Int) == 0) = false := beq_eq_false_iff_ne.mpr c26
                      have c26b1 : ((l1.length : Int) != 0) = true := bne_iff_ne.mpr c26
                      have c26b2 : ¬ (l1 = []) := fun h_ => c26 (by rw [h_]; rfl)
                      obtain ⟨ji27, hji27⟩ : ∃ j_ : Int, (Int.tmod x7_2 (l1.length : Int)) = j_ := ⟨_, rfl⟩
                      replace H : (if 0 ≤ (ji27) then (if (ji27) < (l1.length : Int) then ((gemotlaw13_pick.f (rd l1 (ji27)) (t1003.length : Int)).bind fun t1011 => (gemotlaw13_TreeLeaves.j2 k2 l1 x6_2 x7_2 t1003 t1011)) else (none)) else (none)) = some r := by first | (rw [hji27] at H; exact H) | (simp only [hji27] at H ⊢; exact H)
                      by_cases c28 : 0 ≤ (ji27)
                      · rw [if_pos c28] at H
                        have c28b0 : decide (0 ≤ (ji27)) = true := decide_eq_true c28
                        clear c28; by_cases c29 : (ji27) < (l1.length : Int)
                        · rw [if_pos c29] at H
                          have c29b0 : decide ((ji27) < (l1.length : Int)) = true := decide_eq_true c29
                          clear c29; replace H := Option.bind_eq_some_iff.mp H
                          obtain ⟨t1011, A300, H⟩ := H; replace H : (gemotlaw13_TreeLeaves.j2 k2 l1 x6_2 x7_2 t1003 t1011) = some r := H
                          have A30 := Aside0.mk A300
                          clear A300; have H' := Aside0.mk H
                          clear H; have p1010 : 0 ≤ ((ji27) : Int) := of_decide_eq_true (by first | (with_reducible assumption) | assumption)
                          have q1010 : (ji27) < (l1.length : Int) := of_decide_eq_true (by first | (with_reducible assumption) | assumption)
                          obtain ⟨ad1010, e1010, hx1010_0⟩ := Kd.at_int HR1.out (ji27) p1010 q1010
                          cases e1010
                          replace hx1010_0 := (HB.out.cell (World.block_lt_of_cell? w _ hx1010_0)).trans hx1010_0
                          replace p1010 := eq_true p1010
                          replace q1010 := eq_true q1010
                          go_wp2_with (first | ((with_reducible refine gate_callee (f := 29) rfl ?_); refine goesL_ (some 61) rfl rfl Tryd.func29 (by kernel_rfl) rfl #[.int .i64 (rd l1 (ji27)), .int .i64 (t1003.length : Int)] rfl (by (try simp only [List.map_toArray, List.map_cons, List.map_nil]); first | done | (simp only [hji27]; rfl) | rfl | (simp only [List.length_drop, List.length_take]; rfl)) ?_; (with_reducible refine (gemotlaw13_pick.calls (rd l1 (ji27)) (t1003.length : Int) t1011 _ A30.out).mono ?_); rintro e w' ⟨rfl, ⟨nd, rfl⟩⟩; refine ⟨_, rfl, ?_⟩))
                          go_meet
                          case rel => exact ⟨_, (t1011), (by first | rfl | (simp; done) | (simp [*]; done)), H', ⟨by have := HJ3.out; have := HK2.out; first | omega | exact Nat.le_refl _⟩, ⟨by (with_reducible repeat (first | apply Kd.R_alloc | apply Kd.R_drewN | apply Kd.R_drew)); exact HO1005.out⟩, ⟨by repeat (first | (with_reducible first | exact HB.out | apply below_alloc | apply pw_below_drewN | apply below_drew1) | exact HB.out)⟩⟩
                        · rw [if_neg c29] at H
                          exact absurd H (by simp)
                      · rw [if_neg c28] at H
                        exact absurd H (by simp)
                  · rw [if_neg c25] at H
                    have c25b0 : decide (0 < (l1.length : Int)) = false := decide_eq_false c25
                    have c25b1 : decide (0 < l1.length) = false := decide_eq_false (by omega)
                    clear c25; (first | rw [c25b0] | (simp only [i64_w, i32_w]; rw [c25b0]) | rw [c25b1] | skip); have H' := Aside0.mk H
                    clear H; go_wp2; go_meet
                    case rel => exact ⟨_, (0), (by first | rfl | (simp; done) | (simp [*]; done)), H', ⟨by have := HJ3.out; have := HK2.out; first | omega | exact Nat.le_refl _⟩, ⟨by (with_reducible repeat (first | apply Kd.R_alloc | apply Kd.R_drewN | apply Kd.R_drew)); exact HO1005.out⟩, ⟨by repeat (first | (with_reducible first | exact HB.out | apply below_alloc | apply pw_below_drewN | apply below_drew1) | exact HB.out)⟩⟩
                case rest =>
                  clear HC22; try clear c1
                  try clear p1
                  try clear q1
                  try clear hx1
                  try clear qi1
                  try clear c2
                  try clear p2
                  try clear c6
                  try clear c7
                  try clear c8
                  try clear c10
                  try clear c10b0
                  try clear p10
                  try clear q10
                  try clear hx10
                  try clear qi10
                  try clear c12
                  try clear c12b0
                  try clear c12b1
                  try clear c13
                  try clear c13b0
                  try clear c13b1
                  try clear c15
                  try clear c15b0
                  try clear c15b1
                  try clear c20
                  try clear c25
                  try clear c25b0
                  try clear c25b1
                  try clear c26
                  try clear c26b0
                  try clear c26b1
                  try clear c26b2
                  try clear c28
                  try clear c28b0
                  try clear c29
                  try clear c29b0
                  try clear hx1006_0
                  try clear hx1010_0
                  try clear p1006
                  try clear p1010
                  try clear p2
                  try clear q1006
                  try clear q1010
                  obtain ⟨kq, x11_21, rfl, HA, HJ21, HO_8, HB⟩ := hcut; cases kq with
                  | zero => exact absurd HA.out (by simp [gemotlaw13_TreeLeaves.j2])
                  | succ kj21 =>
                    have H := HA.out; clear HA; simp only [gemotlaw13_TreeLeaves.j2] at H; by_cases c31 : 0 ≤ x11_21
                    · rw [if_pos c31] at H
                      have c31b0 : decide (0 ≤ x11_21) = true := decide_eq_true c31
                      clear c31; by_cases c32 : x11_21 < (t1003.length : Int)
                      · rw [if_pos c32] at H
                        have c32b0 : decide (x11_21 < (t1003.length : Int)) = true := decide_eq_true c32
                        clear c32; replace H := Option.bind_eq_some_iff.mp H
                        obtain ⟨⟨t1013, t1014⟩, A330, H⟩ := H
                        replace H : (if t1014 = 0 then ((tree_Members.f t1013).bind fun t1015 => (if (t1015.length : Int) = (wrap64 ((t1003.length : Int) - 1)) then (gemotlaw13_TreeLeaves.l0 kj21 l1 t1013 (wrap64 (x7_2 + 1))) else (none))) else (none)) = some r := H
                        have A33 := Aside0.mk A330
                        clear A330; by_cases c34 : t1014 = 0
                        · rw [if_pos c34] at H
                          have c34b0 : (t1014 == 0) = true := beq_iff_eq.mpr c34
                          have c34b1 : (t1014 != 0) = false := bne_eq_false_iff_eq.mpr c34
                          clear c34; replace H := Option.bind_eq_some_iff.mp H
                          obtain ⟨t1015, A350, H⟩ := H; replace H : (if (t1015.length : Int) = (wrap64 ((t1003.length : Int) - 1)) then (gemotlaw13_TreeLeaves.l0 kj21 l1 t1013 (wrap64 (x7_2 + 1))) else (none)) = some r := H
                          have A35 := Aside0.mk A350
                          clear A350; by_cases c36 : (t1015.length : Int) = (wrap64 ((t1003.length : Int) - 1))
                          · rw [if_pos c36] at H
                            have c36b0 : ((t1015.length : Int) == (wrap64 ((t1003.length : Int) - 1))) = true := beq_iff_eq.mpr c36
                            have c36b1 : ((t1015.length : Int) != (wrap64 ((t1003.length : Int) - 1))) = false := bne_eq_false_iff_eq.mpr c36
                            clear c36; have H' := Aside0.mk H
                            clear H; have p1012 : 0 ≤ (x11_21 : Int) := of_decide_eq_true (by first | (with_reducible assumption) | assumption)
                            have q1012 : x11_21 < (t1003.length : Int) := of_decide_eq_true (by first | (with_reducible assumption) | assumption)
                            obtain ⟨ad1012, e1012, hx1012_0⟩ := Kd.at_int (Kd.R_reads' HO_8.out).2.2 x11_21 p1012 q1012
                            cases e1012
                            replace p1012 := eq_true p1012
                            replace q1012 := eq_true q1012
                            go_wp2_with (first | ((with_reducible refine gate_callee (f := 13) rfl ?_); refine goesL_ (some 68) rfl rfl Tryd.func13 (by kernel_rfl) rfl #[.string x6_2, .int .i64 (rd t1003 x11_21)] rfl (by simp only [List.map_toArray, List.map_cons, List.map_nil] <;> rfl) ?_; (with_reducible refine (tree_Leave.calls x6_2 (rd t1003 x11_21) t1013 t1014 _ A33.out).mono ?_); rintro e w37 ⟨rfl, hb⟩; refine ⟨_, rfl, ?_⟩; have n0_ := Aside0.mk (Kd.R_below (by (with_reducible repeat (first | apply Kd.R_alloc | apply Kd.R_drewN | apply Kd.R_drew)); exact HO_8.out) hb); have n1_ := Aside0.mk (below_step (by repeat with_reducible first | exact HB.out | apply below_alloc | apply pw_below_drewN | apply below_drew1) hb); clear HO_8; clear HB; have HO_8 := n0_; have HB := n1_; clear n0_ n1_; (try clear hb)) | (go_at_call 20; (with_reducible refine (tree_Members.calls t1013 t1015 _ A35.out).mono ?_); rintro e w38 ⟨v1016, rfl, ho0, hb⟩; have n0_ := Aside0.mk (Kd.R_elder' (by (with_reducible repeat (first | apply Kd.R_alloc | apply Kd.R_drewN | apply Kd.R_drew)); exact HO_8.out) (Kd.R_base ho0) hb); have n1_ := Aside0.mk (Kd.R_lower (Kd.R_new' ho0 (Kd.R_lt (by (with_reducible repeat (first | apply Kd.R_alloc | apply Kd.R_drewN | apply Kd.R_drew)); exact HO_8.out))) (below_size (by repeat with_reducible first | exact HB.out | apply below_alloc | apply pw_below_drewN | apply below_drew1))); have n2_ := Aside0.mk (below_step (by repeat with_reducible first | exact HB.out | apply below_alloc | apply pw_below_drewN | apply below_drew1) hb); clear HO_8; clear HB; have HO_8 := n0_; have HO1017 := n1_; have HB := n2_; clear n0_ n1_ n2_; (try clear hb); (try clear ho0); obtain ⟨Ao39, co39, eo39⟩ := Kd.R_slice HO1017.out; subst eo39))
                            go_roundg kj21
                            case measure => have := HJ3.out; have := HK2.out; have := HJ21.out; omega
                            case rel => exact ⟨(t1013), (wrap64 (x7_2 + 1)), (by first | rfl | (simp; done) | (simp [*]; done)), (by first | rfl | (simp; done) | (simp [*]; done)), H', ⟨by have := HJ3.out; have := HK2.out; have := HJ21.out; omega⟩, ⟨by repeat (first | (with_reducible first | exact HB.out | apply below_alloc | apply pw_below_drewN | apply below_drew1) | exact HB.out)⟩⟩
                          · rw [if_neg c36] at H
                            exact absurd H (by simp)
                        · rw [if_neg c34] at H
                          exact absurd H (by simp)
                      · rw [if_neg c32] at H
                        exact absurd H (by simp)
                    · rw [if_neg c31] at H
                      exact absurd H (by simp)
            · rw [if_neg c10] at H
              exact absurd H (by simp)

/-- THE ONE PURE STATEMENT of gemotlaw13_TreeLeaves: yours. -/
def gemotlaw13_TreeLeaves.Pure : Prop := ∀ (l0 : List Int) (l1 : List Int), l0.length ≤ maxLen → l0.length * 8 ≤ 140737488351232 → (∀ x ∈ l0, (Lit.int .i64 x).wf = true) → l1.length ≤ maxLen → l1.length * 8 ≤ 140737488351232 → (∀ x ∈ l1, (Lit.int .i64 x).wf = true) → ∃ k, gemotlaw13_TreeLeaves.f k l0 l1 = some true
theorem gemotlaw13_TreeLeaves.walk (P : gemotlaw13_TreeLeaves.Pure) (a0 : Option Addr) (len0 cap0 : Nat) (z0 : List Int) (a1 : Option Addr) (len1 cap1 : Nat) (z1 : List Int) (w : World) (w0 : (a0 = none ∧ len0 = 0 ∧ cap0 = 0 ∧ z0 = []) ∨ ∃ x, a0 = some x ∧ len0 ≤ cap0 ∧ cap0 ≤ maxLen ∧ z0.length = cap0 ∧ (∀ i, i < z0.length → w.cell? (x.add i) = some (.int .i64 (z0.getD i 0))) ∧ ∀ n ∈ z0, (Lit.int .i64 n).wf = true) (y0 : len0 * 8 ≤ 140737488351232) (w1 : (a1 = none ∧ len1 = 0 ∧ cap1 = 0 ∧ z1 = []) ∨ ∃ x, a1 = some x ∧ len1 ≤ cap1 ∧ cap1 ≤ maxLen ∧ z1.length = cap1 ∧ (∀ i, i < z1.length → w.cell? (x.add i) = some (.int .i64 (z1.getD i 0))) ∧ ∀ n ∈ z1, (Lit.int .i64 n).wf = true) (y1 : len1 * 8 ≤ 140737488351232) :
    Calls Tryd.prog 8 #[.slice a0 len0 cap0, .slice a1 len1 cap1] w fun e w' => e = .returned (.bool true) ∧ Below w.heap.size w w' := by
  obtain ⟨l0, rfl, hr0, hm0, hw0, hc0⟩ := ReadsInt.ofRowC w0; obtain ⟨l1, rfl, hr1, hm1, hw1, hc1⟩ := ReadsInt.ofRowC w1; obtain ⟨k, h⟩ := P l0 l1 hm0 y0 hw0 hm1 y1 hw1
  refine (gemotlaw13_TreeLeaves.calls k _ _ l0 _ _ l1 true w (Kd.C_of_reads (d := (0 : Int)) (h1 := fun _ => rfl) hr0) hc0 (Kd.C_of_reads (d := (0 : Int)) (h1 := fun _ => rfl) hr1) hc1 h).mono ?_
  rintro e w' ⟨rfl, hd⟩; exact ⟨rfl, hd⟩

end Go.Proofs.YtpfpmjdifnoeoaaDoor.F
