-- Laid by mk.py (a program of this session) over the seat's translation.
import Derived.Test.YtiofobdmkkbmlaaDoorF0
import Derived.Test.YtiofobdmkkbmlaaDoorF10
import Derived.Test.YtiofobdmkkbmlaaDoorF12
import Derived.Test.YtiofobdmkkbmlaaDoorF14
import Derived.Test.YtiofobdmkkbmlaaDoorF23
import Derived.Test.YtiofobdmkkbmlaaDoorF28
namespace Go.Proofs.YtiofobdmkkbmlaaDoor.F
open Go.RowKit Go.Proofs.YtiofobdmkkbmlaaDoorW.PrintWords Go.Proofs.YtiofobdmkkbmlaaDoorW.PrintLast Go.Proofs.YtiofobdmkkbmlaaDoorW.PrintMore
attribute [local go_sem] max2_int min2_int max_two min_two max_three min_three max_four min_four
set_option linter.unusedVariables false
set_option linter.unusedSimpArgs false

/-! ### gemotlaw13_made: function 27 -/
mutual
def gemotlaw13_made.l0 : Nat → List Int → ByteArray → Int → Option (ByteArray)
  | 0, _, _, _ => none
  | k + 1, x0, x3, x4 => if x4 < (x0.length : Int) then (gemotlaw13_made.j1 k x0 x3 x4 (decide (x4 < 40))) else (gemotlaw13_made.j1 k x0 x3 x4 false)
def gemotlaw13_made.j1 : Nat → List Int → ByteArray → Int → Bool → Option (ByteArray)
  | 0, _, _, _, _ => none
  | k + 1, x0, x3, x4, x17 => if x17 = true then (if 0 ≤ x4 then (if x4 < (x0.length : Int) then ((gemotlaw13_pick.f (wrap64 (Int.tdiv (rd x0 x4) 3)) 8).bind fun t1002 => ((tree_Leaf.f (wrap64 (1 + t1002))).bind fun bt1003 => ((tree_Join.f x3 (wrap64 (1 + t1002))).bind fun bt1005 => ((gemotlaw13_pick.f (rd x0 x4) 3).bind fun t1008 => (if t1008 = 1 then ((tree_Leave.f x3 (wrap64 (1 + t1002))).bind fun bt1009 => (gemotlaw13_made.j2 k x0 x3 x4 bt1003.1 bt1009.1 bt1009.2)) else (gemotlaw13_made.j2 k x0 x3 x4 bt1003.1 bt1005.1 bt1005.2)))))) else (none)) else (none)) else (some x3)
def gemotlaw13_made.j2 : Nat → List Int → ByteArray → Int → ByteArray → ByteArray → Int → Option (ByteArray)
  | 0, _, _, _, _, _, _ => none
  | k + 1, x0, x3, x4, x6, x8, x9 => if 0 ≤ x4 then (if x4 < (x0.length : Int) then ((gemotlaw13_pick.f (rd x0 x4) 3).bind fun t1012 => (if t1012 = 2 then ((tree_Merge.f x3 x6).bind fun bt1013 => (if bt1013.2 = 0 then (gemotlaw13_made.l0 k x0 bt1013.1 (wrap64 (x4 + 1))) else (gemotlaw13_made.l0 k x0 x3 (wrap64 (x4 + 1))))) else (if x9 = 0 then (gemotlaw13_made.l0 k x0 x8 (wrap64 (x4 + 1))) else (gemotlaw13_made.l0 k x0 x3 (wrap64 (x4 + 1)))))) else (none)) else (none)
end
def gemotlaw13_made.f (k : Nat) (l0 : List Int) : Option (ByteArray) := gemotlaw13_made.l0 k l0 (⟨#[49]⟩ : ByteArray) 0
theorem gemotlaw13_made.mono_l : ∀ k, (∀ y0 y1 y2, LeO (gemotlaw13_made.l0 k y0 y1 y2) (gemotlaw13_made.l0 (k + 1) y0 y1 y2)) ∧ (∀ y0 y1 y2 y3, LeO (gemotlaw13_made.j1 k y0 y1 y2 y3) (gemotlaw13_made.j1 (k + 1) y0 y1 y2 y3)) ∧ (∀ y0 y1 y2 y3 y4 y5, LeO (gemotlaw13_made.j2 k y0 y1 y2 y3 y4 y5) (gemotlaw13_made.j2 (k + 1) y0 y1 y2 y3 y4 y5))
  | 0 => ⟨fun _ _ _ r h => by simp [gemotlaw13_made.l0] at h, fun _ _ _ _ r h => by simp [gemotlaw13_made.j1] at h, fun _ _ _ _ _ _ r h => by simp [gemotlaw13_made.j2] at h⟩
  | k + 1 => by
    obtain ⟨ih0, ih1, ih2⟩ := gemotlaw13_made.mono_l k; refine ⟨?_, ?_, ?_⟩
    · intro y0 y1 y2; unfold gemotlaw13_made.l0
      repeat' first
      | (with_reducible exact ih0 _ _ _)
      | (with_reducible exact ih1 _ _ _ _)
      | (with_reducible exact ih2 _ _ _ _ _ _)
      | (with_reducible exact LeO.refl _)
      | (with_reducible exact LeO.none _)
      | (with_reducible refine LeO.ite ?_ ?_)
      | (with_reducible refine LeO.bind ?_ (fun _ => ?_))
      | exact ih0 _ _ _
      | exact ih1 _ _ _ _
      | exact ih2 _ _ _ _ _ _
      | exact LeO.none _
      | refine LeO.ite ?_ ?_
      | refine LeO.bind ?_ (fun _ => ?_)
    · intro y0 y1 y2 y3; unfold gemotlaw13_made.j1
      repeat' first
      | (with_reducible exact ih0 _ _ _)
      | (with_reducible exact ih1 _ _ _ _)
      | (with_reducible exact ih2 _ _ _ _ _ _)
      | (with_reducible exact LeO.refl _)
      | (with_reducible exact LeO.none _)
      | (with_reducible refine LeO.ite ?_ ?_)
      | (with_reducible refine LeO.bind ?_ (fun _ => ?_))
      | exact ih0 _ _ _
      | exact ih1 _ _ _ _
      | exact ih2 _ _ _ _ _ _
      | exact LeO.none _
      | refine LeO.ite ?_ ?_
      | refine LeO.bind ?_ (fun _ => ?_)
    · intro y0 y1 y2 y3 y4 y5; unfold gemotlaw13_made.j2
      repeat' first
      | (with_reducible exact ih0 _ _ _)
      | (with_reducible exact ih1 _ _ _ _)
      | (with_reducible exact ih2 _ _ _ _ _ _)
      | (with_reducible exact LeO.refl _)
      | (with_reducible exact LeO.none _)
      | (with_reducible refine LeO.ite ?_ ?_)
      | (with_reducible refine LeO.bind ?_ (fun _ => ?_))
      | exact ih0 _ _ _
      | exact ih1 _ _ _ _
      | exact ih2 _ _ _ _ _ _
      | exact LeO.none _
      | refine LeO.ite ?_ ?_
      | refine LeO.bind ?_ (fun _ => ?_)
theorem gemotlaw13_made.mono : ∀ a0 k, LeO (gemotlaw13_made.f k a0) (gemotlaw13_made.f (k + 1) a0) := by
  intro a0 k; obtain ⟨ih0, ih1, ih2⟩ := gemotlaw13_made.mono_l k; unfold gemotlaw13_made.f
  repeat' first
      | (with_reducible exact ih0 _ _ _)
      | (with_reducible exact ih1 _ _ _ _)
      | (with_reducible exact ih2 _ _ _ _ _ _)
      | (with_reducible exact LeO.refl _)
      | (with_reducible exact LeO.none _)
      | (with_reducible refine LeO.ite ?_ ?_)
      | (with_reducible refine LeO.bind ?_ (fun _ => ?_))
      | exact ih0 _ _ _
      | exact ih1 _ _ _ _
      | exact ih2 _ _ _ _ _ _
      | exact LeO.none _
      | refine LeO.ite ?_ ?_
      | refine LeO.bind ?_ (fun _ => ?_)
set_option maxHeartbeats 8000000 in
set_option maxRecDepth 100000 in
theorem gemotlaw13_made.calls (k : Nat) (A0 : Option Addr) (c0 : Nat) (l0 : List Int) (r : ByteArray) (w : World) (hr0 : Kd.C (Kd.int .i64) w A0 l0.length l0) (hc0 : l0.length ≤ c0) (h : gemotlaw13_made.f k l0 = some r) :
    Calls Tryd.prog 27 #[.slice A0 l0.length c0] w fun e w' => e = .returned (.string r) ∧ Below w.heap.size w w' := by
  have HR0 := Aside0.mk hr0
  have HC0 := Aside0.mk hc0
  clear hr0 hc0; have HB := Aside0.mk (Below.refl w.heap.size w)
  have H : (gemotlaw13_made.l0 k l0 (⟨#[49]⟩ : ByteArray) 0) = some r := h
  clear h; have H' := Aside0.mk H
  clear H; go_enter Tryd.func27, Tryd.ntmps27
  go_wp2; go_loopg [3, 4] k (fun kq v3 v4 w' => ∃ (x3_1 : ByteArray) (x4_1 : Int), v3 = .string x3_1 ∧ v4 = .int .i64 x4_1 ∧ Aside0 (gemotlaw13_made.l0 kq l0 x3_1 x4_1 = some r) ∧ Aside0 (kq ≤ k) ∧ Aside0 (Below w.heap.size w w'))
  case atStart => exact ⟨((⟨#[49]⟩ : ByteArray)), (0), (by first | rfl | (simp; done) | (simp [*]; done)), (by first | rfl | (simp; done) | (simp [*]; done)), H', ⟨Nat.le_refl _⟩, ⟨by repeat (first | (with_reducible first | exact HB.out | apply below_alloc | apply pw_below_drewN | apply below_drew1) | exact HB.out)⟩⟩
  case round =>
    clear H'; obtain ⟨x3_1, x4_1, rfl, rfl, HA, HK1, HB⟩ := hrel; cases gk with
    | zero => exact absurd HA.out (by simp [gemotlaw13_made.l0])
    | succ k1 =>
      have H := HA.out; clear HA; simp only [gemotlaw13_made.l0] at H; have HC2 := Aside0.mk H
      clear H; go_upto_region 3 with (fail)
      go_cut [17] (fun v17 wc => ∃ (kq : Nat) (x17_1 : Bool), v17 = .bool x17_1 ∧ Aside0 (gemotlaw13_made.j1 kq l0 x3_1 x4_1 x17_1 = some r) ∧ Aside0 (kq ≤ k1) ∧ Aside0 (Below w.heap.size w wc))
      case first =>
        have H := HC2.out; clear HC2; by_cases c3 : x4_1 < (l0.length : Int)
        · rw [if_pos c3] at H
          have c3b0 : decide (x4_1 < (l0.length : Int)) = true := decide_eq_true c3
          clear c3; (first | rw [c3b0] | (simp only [i64_w, i32_w]; rw [c3b0]) | skip); have H' := Aside0.mk H
          clear H; go_wp2; go_meet
          case rel => exact ⟨_, (decide (x4_1 < 40)), (by first | rfl | (simp; done) | (simp [*]; done)), H', ⟨by have := HK1.out; first | omega | exact Nat.le_refl _⟩, ⟨by repeat (first | (with_reducible first | exact HB.out | apply below_alloc | apply pw_below_drewN | apply below_drew1) | exact HB.out)⟩⟩
        · rw [if_neg c3] at H
          have c3b0 : decide (x4_1 < (l0.length : Int)) = false := decide_eq_false c3
          clear c3; (first | rw [c3b0] | (simp only [i64_w, i32_w]; rw [c3b0]) | skip); have H' := Aside0.mk H
          clear H; go_wp2; go_meet
          case rel => exact ⟨_, (false), (by first | rfl | (simp; done) | (simp [*]; done)), H', ⟨by have := HK1.out; first | omega | exact Nat.le_refl _⟩, ⟨by repeat (first | (with_reducible first | exact HB.out | apply below_alloc | apply pw_below_drewN | apply below_drew1) | exact HB.out)⟩⟩
      case rest =>
        clear HC2; try clear c2
        try clear p2
        try clear c3
        try clear c3b0
        obtain ⟨kq, x17_1, rfl, HA, HJ1, HB⟩ := hcut; cases kq with
        | zero => exact absurd HA.out (by simp [gemotlaw13_made.j1])
        | succ kj1 =>
          have H := HA.out; clear HA; simp only [gemotlaw13_made.j1] at H; by_cases c4 : x17_1 = true
          · subst c4; have H1 : (if 0 ≤ x4_1 then (if x4_1 < (l0.length : Int) then ((gemotlaw13_pick.f (wrap64 (Int.tdiv (rd l0 x4_1) 3)) 8).bind fun t1002 => ((tree_Leaf.f (wrap64 (1 + t1002))).bind fun bt1003 => ((tree_Join.f x3_1 (wrap64 (1 + t1002))).bind fun bt1005 => ((gemotlaw13_pick.f (rd l0 x4_1) 3).bind fun t1008 => (if t1008 = 1 then ((tree_Leave.f x3_1 (wrap64 (1 + t1002))).bind fun bt1009 => (gemotlaw13_made.j2 kj1 l0 x3_1 x4_1 bt1003.1 bt1009.1 bt1009.2)) else (gemotlaw13_made.j2 kj1 l0 x3_1 x4_1 bt1003.1 bt1005.1 bt1005.2)))))) else (none)) else (none)) = some r := by rw [if_pos rfl] at H; exact H
            clear H; have H := H1; clear H1; by_cases c5 : 0 ≤ x4_1
            · rw [if_pos c5] at H
              have c5b0 : decide (0 ≤ x4_1) = true := decide_eq_true c5
              clear c5; by_cases c6 : x4_1 < (l0.length : Int)
              · rw [if_pos c6] at H
                have c6b0 : decide (x4_1 < (l0.length : Int)) = true := decide_eq_true c6
                clear c6; replace H := Option.bind_eq_some_iff.mp H
                obtain ⟨t1002, A70, H⟩ := H; replace H : ((tree_Leaf.f (wrap64 (1 + t1002))).bind fun bt1003 => ((tree_Join.f x3_1 (wrap64 (1 + t1002))).bind fun bt1005 => ((gemotlaw13_pick.f (rd l0 x4_1) 3).bind fun t1008 => (if t1008 = 1 then ((tree_Leave.f x3_1 (wrap64 (1 + t1002))).bind fun bt1009 => (gemotlaw13_made.j2 kj1 l0 x3_1 x4_1 bt1003.1 bt1009.1 bt1009.2)) else (gemotlaw13_made.j2 kj1 l0 x3_1 x4_1 bt1003.1 bt1005.1 bt1005.2))))) = some r := H
                have A7 := Aside0.mk A70
                clear A70; replace H := Option.bind_eq_some_iff.mp H
                obtain ⟨⟨t1003, t1004⟩, A80, H⟩ := H
                replace H : ((tree_Join.f x3_1 (wrap64 (1 + t1002))).bind fun bt1005 => ((gemotlaw13_pick.f (rd l0 x4_1) 3).bind fun t1008 => (if t1008 = 1 then ((tree_Leave.f x3_1 (wrap64 (1 + t1002))).bind fun bt1009 => (gemotlaw13_made.j2 kj1 l0 x3_1 x4_1 t1003 bt1009.1 bt1009.2)) else (gemotlaw13_made.j2 kj1 l0 x3_1 x4_1 t1003 bt1005.1 bt1005.2)))) = some r := H
                have A8 := Aside0.mk A80
                clear A80; replace H := Option.bind_eq_some_iff.mp H
                obtain ⟨⟨t1005, t1006⟩, A90, H⟩ := H
                replace H : ((gemotlaw13_pick.f (rd l0 x4_1) 3).bind fun t1008 => (if t1008 = 1 then ((tree_Leave.f x3_1 (wrap64 (1 + t1002))).bind fun bt1009 => (gemotlaw13_made.j2 kj1 l0 x3_1 x4_1 t1003 bt1009.1 bt1009.2)) else (gemotlaw13_made.j2 kj1 l0 x3_1 x4_1 t1003 t1005 t1006))) = some r := H
                have A9 := Aside0.mk A90
                clear A90; replace H := Option.bind_eq_some_iff.mp H
                obtain ⟨t1008, A100, H⟩ := H; replace H : (if t1008 = 1 then ((tree_Leave.f x3_1 (wrap64 (1 + t1002))).bind fun bt1009 => (gemotlaw13_made.j2 kj1 l0 x3_1 x4_1 t1003 bt1009.1 bt1009.2)) else (gemotlaw13_made.j2 kj1 l0 x3_1 x4_1 t1003 t1005 t1006)) = some r := H
                have A10 := Aside0.mk A100
                clear A100; have HC11 := Aside0.mk H
                clear H; have p1001 : 0 ≤ (x4_1 : Int) := of_decide_eq_true (by first | (with_reducible assumption) | assumption)
                have q1001 : x4_1 < (l0.length : Int) := of_decide_eq_true (by first | (with_reducible assumption) | assumption)
                obtain ⟨ad1001, e1001, hx1001_0⟩ := Kd.at_int HR0.out x4_1 p1001 q1001
                cases e1001
                replace hx1001_0 := (HB.out.cell (World.block_lt_of_cell? w _ hx1001_0)).trans hx1001_0
                replace p1001 := eq_true p1001
                replace q1001 := eq_true q1001
                go_upto_if 43 with (first | ((with_reducible refine gate_callee (f := 28) rfl ?_); refine goesL_ (some 25) rfl rfl Tryd.func28 (by kernel_rfl) rfl #[.int .i64 (wrap64 (Int.tdiv (rd l0 x4_1) 3)), .int .i64 8] rfl (by simp only [List.map_toArray, List.map_cons, List.map_nil] <;> rfl) ?_; (with_reducible refine (gemotlaw13_pick.calls (wrap64 (Int.tdiv (rd l0 x4_1) 3)) 8 t1002 _ A7.out).mono ?_); rintro e w' ⟨rfl, ⟨nd, rfl⟩⟩; refine ⟨_, rfl, ?_⟩) | ((with_reducible refine gate_callee (f := 14) rfl ?_); refine goesL_ (some 29) rfl rfl Tryd.func14 (by kernel_rfl) rfl #[.int .i64 (wrap64 (1 + t1002))] rfl (by simp only [List.map_toArray, List.map_cons, List.map_nil] <;> rfl) ?_; (with_reducible refine (tree_Leaf.calls (wrap64 (1 + t1002)) t1003 t1004 _ A8.out).mono ?_); rintro e w' ⟨rfl, ⟨nd, rfl⟩⟩; refine ⟨_, rfl, ?_⟩) | ((with_reducible refine gate_callee (f := 10) rfl ?_); refine goesL_ (some 35) rfl rfl Tryd.func10 (by kernel_rfl) rfl #[.string x3_1, .int .i64 (wrap64 (1 + t1002))] rfl (by simp only [List.map_toArray, List.map_cons, List.map_nil] <;> rfl) ?_; (with_reducible refine (tree_Join.calls x3_1 (wrap64 (1 + t1002)) t1005 t1006 _ A9.out).mono ?_); rintro e w12 ⟨rfl, hb⟩; refine ⟨_, rfl, ?_⟩; have n0_ := Aside0.mk (below_step (by repeat with_reducible first | exact HB.out | apply below_alloc | apply pw_below_drewN | apply below_drew1) hb); clear HB; have HB := n0_; clear n0_; (try clear hb); have p1007 : 0 ≤ (x4_1 : Int) := of_decide_eq_true (by assumption); have q1007 : x4_1 < (l0.length : Int) := of_decide_eq_true (by assumption); obtain ⟨ad1007, e1007, hx1007_0⟩ := Kd.at_int HR0.out x4_1 p1007 q1007; obtain rfl : ad1001 = ad1007 := (by injection e1007); replace hx1007_0 := (HB.out.cell (World.block_lt_of_cell? w _ hx1007_0)).trans hx1007_0; replace p1007 := eq_true p1007; replace q1007 := eq_true q1007) | ((with_reducible refine gate_callee (f := 28) rfl ?_); refine goesL_ (some 42) rfl rfl Tryd.func28 (by kernel_rfl) rfl #[.int .i64 (rd l0 x4_1), .int .i64 3] rfl (by simp only [List.map_toArray, List.map_cons, List.map_nil] <;> rfl) ?_; (with_reducible refine (gemotlaw13_pick.calls (rd l0 x4_1) 3 t1008 _ A10.out).mono ?_); rintro e w' ⟨rfl, ⟨nd, rfl⟩⟩; refine ⟨_, rfl, ?_⟩))
                (try simp only [Act.put, List.setIfInBounds_toArray, List.set_cons_zero, List.set_cons_succ]); go_cut [8, 9] (fun v8 v9 wc => ∃ (kq : Nat) (x8_10 : ByteArray) (x9_10 : Int), v8 = .string x8_10 ∧ v9 = .int .i64 x9_10 ∧ Aside0 (gemotlaw13_made.j2 kq l0 x3_1 x4_1 t1003 x8_10 x9_10 = some r) ∧ Aside0 (kq ≤ kj1) ∧ Aside0 (Below w.heap.size w wc))
                case first =>
                  have H := HC11.out; clear HC11; by_cases c13 : t1008 = 1
                  · rw [if_pos c13] at H
                    have c13b0 : (t1008 == 1) = true := beq_iff_eq.mpr c13
                    have c13b1 : (t1008 != 1) = false := bne_eq_false_iff_eq.mpr c13
                    clear c13; (first | rw [c13b0] | (simp only [i64_w, i32_w]; rw [c13b0]) | skip); replace H := Option.bind_eq_some_iff.mp H
                    obtain ⟨⟨t1009, t1010⟩, A140, H⟩ := H
                    replace H : (gemotlaw13_made.j2 kj1 l0 x3_1 x4_1 t1003 t1009 t1010) = some r := H
                    have A14 := Aside0.mk A140
                    clear A140; have H' := Aside0.mk H
                    clear H; go_wp2_with (first | ((with_reducible refine gate_callee (f := 12) rfl ?_); refine goesL_ (some 47) rfl rfl Tryd.func12 (by kernel_rfl) rfl #[.string x3_1, .int .i64 (wrap64 (1 + t1002))] rfl (by simp only [List.map_toArray, List.map_cons, List.map_nil] <;> rfl) ?_; (with_reducible refine (tree_Leave.calls x3_1 (wrap64 (1 + t1002)) t1009 t1010 _ A14.out).mono ?_); rintro e w15 ⟨rfl, hb⟩; refine ⟨_, rfl, ?_⟩; have n0_ := Aside0.mk (below_step (by repeat with_reducible first | exact HB.out | apply below_alloc | apply pw_below_drewN | apply below_drew1) hb); clear HB; have HB := n0_; clear n0_; (try clear hb)))
                    go_meet
                    case rel => exact ⟨_, (t1009), (t1010), (by first | rfl | (simp; done) | (simp [*]; done)), (by first | rfl | (simp; done) | (simp [*]; done)), H', ⟨by have := HK1.out; have := HJ1.out; first | omega | exact Nat.le_refl _⟩, ⟨by repeat (first | (with_reducible first | exact HB.out | apply below_alloc | apply pw_below_drewN | apply below_drew1) | exact HB.out)⟩⟩
                  · rw [if_neg c13] at H
                    have c13b0 : (t1008 == 1) = false := beq_eq_false_iff_ne.mpr c13
                    have c13b1 : (t1008 != 1) = true := bne_iff_ne.mpr c13
                    (first | rw [c13b0] | (simp only [i64_w, i32_w]; rw [c13b0]) | skip); have H' := Aside0.mk H
                    clear H; go_wp2; go_meet
                    case rel => exact ⟨_, (t1005), (t1006), (by first | rfl | (simp; done) | (simp [*]; done)), (by first | rfl | (simp; done) | (simp [*]; done)), H', ⟨by have := HK1.out; have := HJ1.out; first | omega | exact Nat.le_refl _⟩, ⟨by repeat (first | (with_reducible first | exact HB.out | apply below_alloc | apply pw_below_drewN | apply below_drew1) | exact HB.out)⟩⟩
                case rest =>
                  clear HC11; try clear c1
                  try clear p1
                  try clear q1
                  try clear hx1
                  try clear c2
                  try clear p2
                  try clear c3
                  try clear c3b0
                  try clear c4
                  try clear c5
                  try clear c5b0
                  try clear c6
                  try clear c6b0
                  try clear p6
                  try clear c10
                  try clear p10
                  try clear q10
                  try clear hx10
                  try clear c12
                  try clear c13
                  try clear c13b0
                  try clear c13b1
                  try clear c14
                  try clear hx1001_0
                  try clear hx1007_0
                  try clear p1001
                  try clear p1007
                  try clear p2
                  try clear q1001
                  try clear q1007
                  obtain ⟨kq, x8_10, x9_10, rfl, rfl, HA, HJ10, HB⟩ := hcut; cases kq with
                  | zero => exact absurd HA.out (by simp [gemotlaw13_made.j2])
                  | succ kj10 =>
                    have H := HA.out; clear HA; simp only [gemotlaw13_made.j2] at H; by_cases c16 : 0 ≤ x4_1
                    · rw [if_pos c16] at H
                      have c16b0 : decide (0 ≤ x4_1) = true := decide_eq_true c16
                      clear c16; by_cases c17 : x4_1 < (l0.length : Int)
                      · rw [if_pos c17] at H
                        have c17b0 : decide (x4_1 < (l0.length : Int)) = true := decide_eq_true c17
                        clear c17; replace H := Option.bind_eq_some_iff.mp H
                        obtain ⟨t1012, A180, H⟩ := H; replace H : (if t1012 = 2 then ((tree_Merge.f x3_1 t1003).bind fun bt1013 => (if bt1013.2 = 0 then (gemotlaw13_made.l0 kj10 l0 bt1013.1 (wrap64 (x4_1 + 1))) else (gemotlaw13_made.l0 kj10 l0 x3_1 (wrap64 (x4_1 + 1))))) else (if x9_10 = 0 then (gemotlaw13_made.l0 kj10 l0 x8_10 (wrap64 (x4_1 + 1))) else (gemotlaw13_made.l0 kj10 l0 x3_1 (wrap64 (x4_1 + 1))))) = some r := H
                        have A18 := Aside0.mk A180
                        clear A180; by_cases c19 : t1012 = 2
                        · rw [if_pos c19] at H
                          have c19b0 : (t1012 == 2) = true := beq_iff_eq.mpr c19
                          have c19b1 : (t1012 != 2) = false := bne_eq_false_iff_eq.mpr c19
                          clear c19; replace H := Option.bind_eq_some_iff.mp H
                          obtain ⟨⟨t1013, t1014⟩, A200, H⟩ := H
                          replace H : (if t1014 = 0 then (gemotlaw13_made.l0 kj10 l0 t1013 (wrap64 (x4_1 + 1))) else (gemotlaw13_made.l0 kj10 l0 x3_1 (wrap64 (x4_1 + 1)))) = some r := H
                          have A20 := Aside0.mk A200
                          clear A200; by_cases c21 : t1014 = 0
                          · rw [if_pos c21] at H
                            have c21b0 : (t1014 == 0) = true := beq_iff_eq.mpr c21
                            have c21b1 : (t1014 != 0) = false := bne_eq_false_iff_eq.mpr c21
                            clear c21; have H' := Aside0.mk H
                            clear H; have p1011 : 0 ≤ (x4_1 : Int) := of_decide_eq_true (by first | (with_reducible assumption) | assumption)
                            have q1011 : x4_1 < (l0.length : Int) := of_decide_eq_true (by first | (with_reducible assumption) | assumption)
                            obtain ⟨ad1011, e1011, hx1011_0⟩ := Kd.at_int HR0.out x4_1 p1011 q1011
                            obtain rfl : ad1001 = ad1011 := (by injection e1011)
                            replace hx1011_0 := (HB.out.cell (World.block_lt_of_cell? w _ hx1011_0)).trans hx1011_0
                            replace p1011 := eq_true p1011
                            replace q1011 := eq_true q1011
                            go_wp2_with (first | ((with_reducible refine gate_callee (f := 28) rfl ?_); refine goesL_ (some 54) rfl rfl Tryd.func28 (by kernel_rfl) rfl #[.int .i64 (rd l0 x4_1), .int .i64 3] rfl (by simp only [List.map_toArray, List.map_cons, List.map_nil] <;> rfl) ?_; (with_reducible refine (gemotlaw13_pick.calls (rd l0 x4_1) 3 t1012 _ A18.out).mono ?_); rintro e w' ⟨rfl, ⟨nd, rfl⟩⟩; refine ⟨_, rfl, ?_⟩) | ((with_reducible refine gate_callee (f := 23) rfl ?_); refine goesL_ (some 59) rfl rfl Tryd.func23 (by kernel_rfl) rfl #[.string x3_1, .string t1003] rfl (by simp only [List.map_toArray, List.map_cons, List.map_nil] <;> rfl) ?_; (with_reducible refine (tree_Merge.calls x3_1 t1003 t1013 t1014 _ A20.out).mono ?_); rintro e w22 ⟨rfl, hb⟩; refine ⟨_, rfl, ?_⟩; have n0_ := Aside0.mk (below_step (by repeat with_reducible first | exact HB.out | apply below_alloc | apply pw_below_drewN | apply below_drew1) hb); clear HB; have HB := n0_; clear n0_; (try clear hb)))
                            go_roundg kj10
                            case measure => have := HK1.out; have := HJ1.out; have := HJ10.out; omega
                            case rel => exact ⟨(t1013), (wrap64 (x4_1 + 1)), (by first | rfl | (simp; done) | (simp [*]; done)), (by first | rfl | (simp; done) | (simp [*]; done)), H', ⟨by have := HK1.out; have := HJ1.out; have := HJ10.out; omega⟩, ⟨by repeat (first | (with_reducible first | exact HB.out | apply below_alloc | apply pw_below_drewN | apply below_drew1) | exact HB.out)⟩⟩
                          · rw [if_neg c21] at H
                            have c21b0 : (t1014 == 0) = false := beq_eq_false_iff_ne.mpr c21
                            have c21b1 : (t1014 != 0) = true := bne_iff_ne.mpr c21
                            have H' := Aside0.mk H
                            clear H; have p1011 : 0 ≤ (x4_1 : Int) := of_decide_eq_true (by first | (with_reducible assumption) | assumption)
                            have q1011 : x4_1 < (l0.length : Int) := of_decide_eq_true (by first | (with_reducible assumption) | assumption)
                            obtain ⟨ad1011, e1011, hx1011_0⟩ := Kd.at_int HR0.out x4_1 p1011 q1011
                            obtain rfl : ad1001 = ad1011 := (by injection e1011)
                            replace hx1011_0 := (HB.out.cell (World.block_lt_of_cell? w _ hx1011_0)).trans hx1011_0
                            replace p1011 := eq_true p1011
                            replace q1011 := eq_true q1011
                            go_wp2_with (first | ((with_reducible refine gate_callee (f := 28) rfl ?_); refine goesL_ (some 54) rfl rfl Tryd.func28 (by kernel_rfl) rfl #[.int .i64 (rd l0 x4_1), .int .i64 3] rfl (by simp only [List.map_toArray, List.map_cons, List.map_nil] <;> rfl) ?_; (with_reducible refine (gemotlaw13_pick.calls (rd l0 x4_1) 3 t1012 _ A18.out).mono ?_); rintro e w' ⟨rfl, ⟨nd, rfl⟩⟩; refine ⟨_, rfl, ?_⟩) | ((with_reducible refine gate_callee (f := 23) rfl ?_); refine goesL_ (some 59) rfl rfl Tryd.func23 (by kernel_rfl) rfl #[.string x3_1, .string t1003] rfl (by simp only [List.map_toArray, List.map_cons, List.map_nil] <;> rfl) ?_; (with_reducible refine (tree_Merge.calls x3_1 t1003 t1013 t1014 _ A20.out).mono ?_); rintro e w23 ⟨rfl, hb⟩; refine ⟨_, rfl, ?_⟩; have n0_ := Aside0.mk (below_step (by repeat with_reducible first | exact HB.out | apply below_alloc | apply pw_below_drewN | apply below_drew1) hb); clear HB; have HB := n0_; clear n0_; (try clear hb)))
                            go_roundg kj10
                            case measure => have := HK1.out; have := HJ1.out; have := HJ10.out; omega
                            case rel => exact ⟨(x3_1), (wrap64 (x4_1 + 1)), (by first | rfl | (simp; done) | (simp [*]; done)), (by first | rfl | (simp; done) | (simp [*]; done)), H', ⟨by have := HK1.out; have := HJ1.out; have := HJ10.out; omega⟩, ⟨by repeat (first | (with_reducible first | exact HB.out | apply below_alloc | apply pw_below_drewN | apply below_drew1) | exact HB.out)⟩⟩
                        · rw [if_neg c19] at H
                          have c19b0 : (t1012 == 2) = false := beq_eq_false_iff_ne.mpr c19
                          have c19b1 : (t1012 != 2) = true := bne_iff_ne.mpr c19
                          by_cases c24 : x9_10 = 0
                          · rw [if_pos c24] at H
                            have c24b0 : (x9_10 == 0) = true := beq_iff_eq.mpr c24
                            have c24b1 : (x9_10 != 0) = false := bne_eq_false_iff_eq.mpr c24
                            clear c24; have H' := Aside0.mk H
                            clear H; have p1011 : 0 ≤ (x4_1 : Int) := of_decide_eq_true (by first | (with_reducible assumption) | assumption)
                            have q1011 : x4_1 < (l0.length : Int) := of_decide_eq_true (by first | (with_reducible assumption) | assumption)
                            obtain ⟨ad1011, e1011, hx1011_0⟩ := Kd.at_int HR0.out x4_1 p1011 q1011
                            obtain rfl : ad1001 = ad1011 := (by injection e1011)
                            replace hx1011_0 := (HB.out.cell (World.block_lt_of_cell? w _ hx1011_0)).trans hx1011_0
                            replace p1011 := eq_true p1011
                            replace q1011 := eq_true q1011
                            go_wp2_with (first | ((with_reducible refine gate_callee (f := 28) rfl ?_); refine goesL_ (some 54) rfl rfl Tryd.func28 (by kernel_rfl) rfl #[.int .i64 (rd l0 x4_1), .int .i64 3] rfl (by simp only [List.map_toArray, List.map_cons, List.map_nil] <;> rfl) ?_; (with_reducible refine (gemotlaw13_pick.calls (rd l0 x4_1) 3 t1012 _ A18.out).mono ?_); rintro e w' ⟨rfl, ⟨nd, rfl⟩⟩; refine ⟨_, rfl, ?_⟩))
                            go_roundg kj10
                            case measure => have := HK1.out; have := HJ1.out; have := HJ10.out; omega
                            case rel => exact ⟨(x8_10), (wrap64 (x4_1 + 1)), (by first | rfl | (simp; done) | (simp [*]; done)), (by first | rfl | (simp; done) | (simp [*]; done)), H', ⟨by have := HK1.out; have := HJ1.out; have := HJ10.out; omega⟩, ⟨by repeat (first | (with_reducible first | exact HB.out | apply below_alloc | apply pw_below_drewN | apply below_drew1) | exact HB.out)⟩⟩
                          · rw [if_neg c24] at H
                            have c24b0 : (x9_10 == 0) = false := beq_eq_false_iff_ne.mpr c24
                            have c24b1 : (x9_10 != 0) = true := bne_iff_ne.mpr c24
                            have H' := Aside0.mk H
                            clear H; have p1011 : 0 ≤ (x4_1 : Int) := of_decide_eq_true (by first | (with_reducible assumption) | assumption)
                            have q1011 : x4_1 < (l0.length : Int) := of_decide_eq_true (by first | (with_reducible assumption) | assumption)
                            obtain ⟨ad1011, e1011, hx1011_0⟩ := Kd.at_int HR0.out x4_1 p1011 q1011
                            obtain rfl : ad1001 = ad1011 := (by injection e1011)
                            replace hx1011_0 := (HB.out.cell (World.block_lt_of_cell? w _ hx1011_0)).trans hx1011_0
                            replace p1011 := eq_true p1011
                            replace q1011 := eq_true q1011
                            go_wp2_with (first | ((with_reducible refine gate_callee (f := 28) rfl ?_); refine goesL_ (some 54) rfl rfl Tryd.func28 (by kernel_rfl) rfl #[.int .i64 (rd l0 x4_1), .int .i64 3] rfl (by simp only [List.map_toArray, List.map_cons, List.map_nil] <;> rfl) ?_; (with_reducible refine (gemotlaw13_pick.calls (rd l0 x4_1) 3 t1012 _ A18.out).mono ?_); rintro e w' ⟨rfl, ⟨nd, rfl⟩⟩; refine ⟨_, rfl, ?_⟩))
                            go_roundg kj10
                            case measure => have := HK1.out; have := HJ1.out; have := HJ10.out; omega
                            case rel => exact ⟨(x3_1), (wrap64 (x4_1 + 1)), (by first | rfl | (simp; done) | (simp [*]; done)), (by first | rfl | (simp; done) | (simp [*]; done)), H', ⟨by have := HK1.out; have := HJ1.out; have := HJ10.out; omega⟩, ⟨by repeat (first | (with_reducible first | exact HB.out | apply below_alloc | apply pw_below_drewN | apply below_drew1) | exact HB.out)⟩⟩
                      · rw [if_neg c17] at H
                        exact absurd H (by simp)
                    · rw [if_neg c16] at H
                      exact absurd H (by simp)
              · rw [if_neg c6] at H
                exact absurd H (by simp)
            · rw [if_neg c5] at H
              exact absurd H (by simp)
          · replace c4 := Bool.eq_false_iff.mpr c4
            subst c4; have H1 : (some x3_1) = some r := by rw [if_neg (show ¬ (false = true) by decide)] at H; exact H
            clear H; have H := H1; clear H1; obtain rfl := Option.some.inj H
            go_wp2; go_ret
            exact ⟨by first | rfl | (simp [errW_none, errW_some] <;> rfl) | (simp [*, errW_none, errW_some] <;> rfl), by repeat (first | (with_reducible first | exact HB.out | apply below_alloc | apply pw_below_drewN | apply below_drew1) | exact HB.out)⟩

end Go.Proofs.YtiofobdmkkbmlaaDoor.F
