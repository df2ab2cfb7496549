-- Laid by mk.py (a program of this session) over the seat's translation.
import Derived.Test.YtiofobdmkkbmlaaDoorF0
import Derived.Test.YtiofobdmkkbmlaaDoorF10
import Derived.Test.YtiofobdmkkbmlaaDoorF18
import Derived.Test.YtiofobdmkkbmlaaDoorF19
import Derived.Test.YtiofobdmkkbmlaaDoorF21
import Derived.Test.YtiofobdmkkbmlaaDoorF25
import Derived.Test.YtiofobdmkkbmlaaDoorF27
import Derived.Test.YtiofobdmkkbmlaaDoorF28
import Derived.Test.YtiofobdmkkbmlaaDoorF9
namespace Go.Proofs.YtiofobdmkkbmlaaDoor.F
open Go.RowKit Go.Proofs.YtiofobdmkkbmlaaDoorW.PrintWords Go.Proofs.YtiofobdmkkbmlaaDoorW.PrintLast Go.Proofs.YtiofobdmkkbmlaaDoorW.PrintMore
attribute [local go_sem] max2_int min2_int max_two min_two max_three min_three max_four min_four
set_option linter.unusedVariables false
set_option linter.unusedSimpArgs false

/-! ### gemotlaw13_TreeLow: function 6 -/
mutual
def gemotlaw13_TreeLow.l0 : Nat → Int → List Int → Int → Bool → List Int → Int → Option (Bool)
  | 0, _, _, _, _, _, _ => none
  | k + 1, x0, x1, x2, x7, x8, x9 => if x9 ≤ 8 then (if 0 ≤ (wrap64 (x9 - 1)) then (if (Go.bits .and .i64 (shr .i64 x0 (wrap64 (x9 - 1))) 1) = 1 then (if x8.length < 17592186044416 then (gemotlaw13_TreeLow.l0 k x0 x1 x2 x7 (x8 ++ [x9]) (wrap64 (x9 + 1))) else (none)) else (gemotlaw13_TreeLow.l0 k x0 x1 x2 x7 x8 (wrap64 (x9 + 1)))) else (none)) else ((tree_Build.f k x8).bind fun bt1005 => (if x7 = true then (gemotlaw13_TreeLow.j1 k x1 x2 x8 bt1005.1 ((bt1005.2 == 0) != (decide ((x8.length : Int) > 0)))) else (gemotlaw13_TreeLow.j1 k x1 x2 x8 bt1005.1 true)))
def gemotlaw13_TreeLow.j1 : Nat → List Int → Int → List Int → ByteArray → Bool → Option (Bool)
  | 0, _, _, _, _, _ => none
  | k + 1, x1, x2, x8, x10, x46 => if x46 = true then (none) else ((tree_Depth.f x10).bind fun t1007 => (if (x8.length : Int) > 0 then (if 0 ≤ t1007 then (if (shl .i64 1 t1007) < (x8.length : Int) then (gemotlaw13_TreeLow.j2 k x1 x2 true) else (if t1007 > 0 then (if 0 ≤ (wrap64 (t1007 - 1)) then (if (shl .i64 1 (wrap64 (t1007 - 1))) ≥ (x8.length : Int) then (gemotlaw13_TreeLow.j2 k x1 x2 true) else ((tree_Members.f x10).bind fun t1008 => ((gemotref10_Same.f t1008 x8).bind fun t1011 => (gemotlaw13_TreeLow.j2 k x1 x2 (!t1011))))) else (none)) else ((tree_Members.f x10).bind fun t1012 => ((gemotref10_Same.f t1012 x8).bind fun t1015 => (gemotlaw13_TreeLow.j2 k x1 x2 (!t1015)))))) else (none)) else (gemotlaw13_TreeLow.j2 k x1 x2 false)))
def gemotlaw13_TreeLow.j2 : Nat → List Int → Int → Bool → Option (Bool)
  | 0, _, _, _ => none
  | k + 1, x1, x2, x77 => if x77 = true then (none) else ((gemotlaw13_made.f k x1).bind fun t1016 => ((gemotlaw13_pick.f x2 8).bind fun t1017 => ((tree_Join.f t1016 (wrap64 (1 + t1017))).bind fun bt1018 => ((tree_Depth.f t1016).bind fun t1020 => (if bt1018.2 = 0 then ((tree_Depth.f bt1018.1).bind fun t1021 => ((tree_Members.f t1016).bind fun t1022 => (if 0 ≤ t1020 then (some ((decide (t1021 > t1020)) == ((t1022.length : Int) == (shl .i64 1 t1020)))) else (none)))) else (some true))))))
end
def gemotlaw13_TreeLow.f (k : Nat) (a0 : Int) (l1 : List Int) (a2 : Int) : Option (Bool) := (gemotlaw13_shown.f k).bind fun t1001 => (gemotlaw13_TreeLow.l0 k a0 l1 a2 t1001 ([] : List Int) 1)
theorem gemotlaw13_TreeLow.mono_l : ∀ k, (∀ y0 y1 y2 y3 y4 y5, LeO (gemotlaw13_TreeLow.l0 k y0 y1 y2 y3 y4 y5) (gemotlaw13_TreeLow.l0 (k + 1) y0 y1 y2 y3 y4 y5)) ∧ (∀ y0 y1 y2 y3 y4, LeO (gemotlaw13_TreeLow.j1 k y0 y1 y2 y3 y4) (gemotlaw13_TreeLow.j1 (k + 1) y0 y1 y2 y3 y4)) ∧ (∀ y0 y1 y2, LeO (gemotlaw13_TreeLow.j2 k y0 y1 y2) (gemotlaw13_TreeLow.j2 (k + 1) y0 y1 y2))
  | 0 => ⟨fun _ _ _ _ _ _ r h => by simp [gemotlaw13_TreeLow.l0] at h, fun _ _ _ _ _ r h => by simp [gemotlaw13_TreeLow.j1] at h, fun _ _ _ r h => by simp [gemotlaw13_TreeLow.j2] at h⟩
  | k + 1 => by
    obtain ⟨ih0, ih1, ih2⟩ := gemotlaw13_TreeLow.mono_l k; refine ⟨?_, ?_, ?_⟩
    · intro y0 y1 y2 y3 y4 y5; unfold gemotlaw13_TreeLow.l0
      repeat' first
      | (with_reducible exact ih0 _ _ _ _ _ _)
      | (with_reducible exact ih1 _ _ _ _ _)
      | (with_reducible exact ih2 _ _ _)
      | (with_reducible exact gemotlaw13_made.mono _ _)
      | (with_reducible exact gemotlaw13_shown.mono _)
      | (with_reducible exact tree_Build.mono _ _)
      | (with_reducible exact LeO.refl _)
      | (with_reducible exact LeO.none _)
      | (with_reducible refine LeO.ite ?_ ?_)
      | (with_reducible refine LeO.bind ?_ (fun _ => ?_))
      | exact ih0 _ _ _ _ _ _
      | exact ih1 _ _ _ _ _
      | exact ih2 _ _ _
      | exact gemotlaw13_made.mono _ _
      | exact gemotlaw13_shown.mono _
      | exact tree_Build.mono _ _
      | exact LeO.none _
      | refine LeO.ite ?_ ?_
      | refine LeO.bind ?_ (fun _ => ?_)
    · intro y0 y1 y2 y3 y4; unfold gemotlaw13_TreeLow.j1
      repeat' first
      | (with_reducible exact ih0 _ _ _ _ _ _)
      | (with_reducible exact ih1 _ _ _ _ _)
      | (with_reducible exact ih2 _ _ _)
      | (with_reducible exact gemotlaw13_made.mono _ _)
      | (with_reducible exact gemotlaw13_shown.mono _)
      | (with_reducible exact tree_Build.mono _ _)
      | (with_reducible exact LeO.refl _)
      | (with_reducible exact LeO.none _)
      | (with_reducible refine LeO.ite ?_ ?_)
      | (with_reducible refine LeO.bind ?_ (fun _ => ?_))
      | exact ih0 _ _ _ _ _ _
      | exact ih1 _ _ _ _ _
      | exact ih2 _ _ _
      | exact gemotlaw13_made.mono _ _
      | exact gemotlaw13_shown.mono _
      | exact tree_Build.mono _ _
      | exact LeO.none _
      | refine LeO.ite ?_ ?_
      | refine LeO.bind ?_ (fun _ => ?_)
    · intro y0 y1 y2; unfold gemotlaw13_TreeLow.j2
      repeat' first
      | (with_reducible exact ih0 _ _ _ _ _ _)
      | (with_reducible exact ih1 _ _ _ _ _)
      | (with_reducible exact ih2 _ _ _)
      | (with_reducible exact gemotlaw13_made.mono _ _)
      | (with_reducible exact gemotlaw13_shown.mono _)
      | (with_reducible exact tree_Build.mono _ _)
      | (with_reducible exact LeO.refl _)
      | (with_reducible exact LeO.none _)
      | (with_reducible refine LeO.ite ?_ ?_)
      | (with_reducible refine LeO.bind ?_ (fun _ => ?_))
      | exact ih0 _ _ _ _ _ _
      | exact ih1 _ _ _ _ _
      | exact ih2 _ _ _
      | exact gemotlaw13_made.mono _ _
      | exact gemotlaw13_shown.mono _
      | exact tree_Build.mono _ _
      | exact LeO.none _
      | refine LeO.ite ?_ ?_
      | refine LeO.bind ?_ (fun _ => ?_)
theorem gemotlaw13_TreeLow.mono : ∀ a0 a1 a2 k, LeO (gemotlaw13_TreeLow.f k a0 a1 a2) (gemotlaw13_TreeLow.f (k + 1) a0 a1 a2) := by
  intro a0 a1 a2 k; obtain ⟨ih0, ih1, ih2⟩ := gemotlaw13_TreeLow.mono_l k; unfold gemotlaw13_TreeLow.f
  repeat' first
      | (with_reducible exact ih0 _ _ _ _ _ _)
      | (with_reducible exact ih1 _ _ _ _ _)
      | (with_reducible exact ih2 _ _ _)
      | (with_reducible exact gemotlaw13_made.mono _ _)
      | (with_reducible exact gemotlaw13_shown.mono _)
      | (with_reducible exact tree_Build.mono _ _)
      | (with_reducible exact LeO.refl _)
      | (with_reducible exact LeO.none _)
      | (with_reducible refine LeO.ite ?_ ?_)
      | (with_reducible refine LeO.bind ?_ (fun _ => ?_))
      | exact ih0 _ _ _ _ _ _
      | exact ih1 _ _ _ _ _
      | exact ih2 _ _ _
      | exact gemotlaw13_made.mono _ _
      | exact gemotlaw13_shown.mono _
      | exact tree_Build.mono _ _
      | exact LeO.none _
      | refine LeO.ite ?_ ?_
      | refine LeO.bind ?_ (fun _ => ?_)
def gemotlaw13_TreeLow.T17 : Bool × List (List Nat × List Nat) := (true, [([], []), ([0], [0]), ([1], [1]), ([2], [2]), ([3, 2, 2], [2, 3]), ([2], [2]), ([4, 5, 2], [2, 4, 5]), ([2], [2]), ([7, 4, 2], [2, 7]), ([8, 2], [2, 8]), ([2], [2]), ([10, 2], [2, 10]), ([9, 11, 2], [2, 9, 11]), ([6, 12, 2], [2, 6, 12]), ([2, 13], [2, 13]), ([14, 8, 0, 1, 2, 3, 4, 5, 6, 7, 8, 9, 10, 11, 12, 13, 14], [14])])
def gemotlaw13_TreeLow.B17 : List Nat := [0, 1, 3, 7, 15, 7, 63, 7, 159, 415, 7, 1031, 3999, 8191, 16383, 32767]
theorem gemotlaw13_TreeLow.tab17 : rtab .any (opsOf Tryd.f6 17) = gemotlaw13_TreeLow.T17 := by kernel_rfl
theorem gemotlaw13_TreeLow.bits17 : waitsOk gemotlaw13_TreeLow.T17.2 gemotlaw13_TreeLow.B17 = true := by kernel_rfl
set_option maxHeartbeats 8000000 in
set_option maxRecDepth 100000 in
theorem gemotlaw13_TreeLow.calls (k : Nat) (a0 : Int) (A1 : Option Addr) (c1 : Nat) (l1 : List Int) (a2 : Int) (r : Bool) (w : World) (hr1 : Kd.C (Kd.int .i64) w A1 l1.length l1) (hc1 : l1.length ≤ c1) (h : gemotlaw13_TreeLow.f k a0 l1 a2 = some r) :
    Calls Tryd.prog 6 #[.int .i64 a0, .slice A1 l1.length c1, .int .i64 a2] w fun e w' => e = .returned (.bool r) ∧ Below w.heap.size w w' := by
  have HR1 := Aside0.mk hr1
  have HC1 := Aside0.mk hc1
  clear hr1 hc1; have HB := Aside0.mk (Below.refl w.heap.size w)
  have H : ((gemotlaw13_shown.f k).bind fun t1001 => (gemotlaw13_TreeLow.l0 k a0 l1 a2 t1001 ([] : List Int) 1)) = some r := h
  clear h; replace H := Option.bind_eq_some_iff.mp H
  obtain ⟨t1001, A40, H⟩ := H; replace H : (gemotlaw13_TreeLow.l0 k a0 l1 a2 t1001 ([] : List Int) 1) = some r := H
  have A4 := Aside0.mk A40
  clear A40; have H' := Aside0.mk H
  clear H; go_enter Tryd.func6, Tryd.ntmps6
  go_wp2_with (first | ((with_reducible refine gate_callee (f := 9) rfl ?_); refine goesL_ (some 17) rfl rfl Tryd.func9 (by kernel_rfl) rfl #[] rfl (by simp only [List.map_toArray, List.map_cons, List.map_nil] <;> rfl) ?_; (with_reducible refine (gemotlaw13_shown.calls k  t1001 _ A4.out).mono ?_); rintro e w5 ⟨rfl, hb⟩; refine ⟨_, rfl, ?_⟩; have n0_ := Aside0.mk (below_step (by repeat with_reducible first | exact HB.out | apply below_alloc | apply pw_below_drewN | apply below_drew1) hb); clear HB; have HB := n0_; clear n0_; (try clear hb)))
  go_loopg [8, 9] k (fun kq v8 v9 w' => ∃ (x8_1 : List Int) (x9_1 : Int), v9 = .int .i64 x9_1 ∧ Aside0 (gemotlaw13_TreeLow.l0 kq a0 l1 a2 t1001 x8_1 x9_1 = some r) ∧ Aside0 (kq ≤ k) ∧ Aside0 (Kd.R (Kd.int .i64) 3 w' w.heap.size (fun _ => True) v8 x8_1) ∧ Aside0 (Below w.heap.size w w'))
  case atStart => exact ⟨(([] : List Int)), (1), (by first | rfl | (simp; done) | (simp [*]; done)), H', ⟨Nat.le_refl _⟩, ⟨by first | exact Kd.R_nil _ _ _ _ _ | exact Kd.N_nil _ _ _ _ _ | exact Kd.V_nil _ _ _ _ _ | exact Kd.Q_nil _ _ _ _ _ | exact Kd.S_nil _ _ _ _ _⟩, ⟨by repeat (first | (with_reducible first | exact HB.out | apply below_alloc | apply pw_below_drewN | apply below_drew1) | exact HB.out)⟩⟩
  case round =>
    clear H'; try clear c1
    try clear p2
    obtain ⟨x8_1, x9_1, rfl, HA, HK1, HO_8, HB⟩ := hrel; cases gk with
    | zero => exact absurd HA.out (by simp [gemotlaw13_TreeLow.l0])
    | succ k1 =>
      have H := HA.out; clear HA; simp only [gemotlaw13_TreeLow.l0] at H; by_cases c6 : x9_1 ≤ 8
      · rw [if_pos c6] at H
        have c6b0 : decide (x9_1 ≤ 8) = true := decide_eq_true c6
        clear c6; obtain ⟨ji7, hji7⟩ : ∃ j_ : Int, (wrap64 (x9_1 - 1)) = j_ := ⟨_, rfl⟩
        replace H : (if 0 ≤ (ji7) then (if (Go.bits .and .i64 (shr .i64 a0 (ji7)) 1) = 1 then (if x8_1.length < 17592186044416 then (gemotlaw13_TreeLow.l0 k1 a0 l1 a2 t1001 (x8_1 ++ [x9_1]) (wrap64 (x9_1 + 1))) else (none)) else (gemotlaw13_TreeLow.l0 k1 a0 l1 a2 t1001 x8_1 (wrap64 (x9_1 + 1)))) else (none)) = some r := by first | (rw [hji7] at H; exact H) | (simp only [hji7] at H ⊢; exact H)
        have hji7w : (IntKind.i64.wrap (x9_1 - 1)) = ji7 := (i64_w _).trans hji7
        by_cases c8 : 0 ≤ (ji7)
        · rw [if_pos c8] at H
          have c8b0 := eq_true c8
          have c8b1 : decide (0 ≤ (ji7)) = true := decide_eq_true c8
          clear c8; obtain ⟨ji9, hji9⟩ : ∃ j_ : Int, (shr .i64 a0 (ji7)) = j_ := ⟨_, rfl⟩
          replace H : (if (Go.bits .and .i64 (ji9) 1) = 1 then (if x8_1.length < 17592186044416 then (gemotlaw13_TreeLow.l0 k1 a0 l1 a2 t1001 (x8_1 ++ [x9_1]) (wrap64 (x9_1 + 1))) else (none)) else (gemotlaw13_TreeLow.l0 k1 a0 l1 a2 t1001 x8_1 (wrap64 (x9_1 + 1)))) = some r := by first | (rw [hji9] at H; exact H) | (simp only [hji9] at H ⊢; exact H)
          have hji9_ : (a0 / 2 ^ min (ji7).toNat 64) = ji9 := hji9
          have hji9z : (ji7) ≤ 64 → (a0 / 2 ^ (ji7).toNat) = ji9 := shr_small hji9
          by_cases c10 : (Go.bits .and .i64 (ji9) 1) = 1
          · rw [if_pos c10] at H
            have c10b0 : ((Go.bits .and .i64 (ji9) 1) == 1) = true := beq_iff_eq.mpr c10
            have c10b1 : ((Go.bits .and .i64 (ji9) 1) != 1) = false := bne_eq_false_iff_eq.mpr c10
            clear c10; by_cases c11 : x8_1.length < 17592186044416
            · rw [if_pos c11] at H
              have LMc11 := Aside0.mk c11
              clear c11; obtain ⟨y1002, hy1002⟩ : ∃ y_ : List Int, y_ = (x8_1 ++ [x9_1]) := ⟨_, rfl⟩
              replace H : (gemotlaw13_TreeLow.l0 k1 a0 l1 a2 t1001 y1002 (wrap64 (x9_1 + 1))) = some r := by first | (rw [hy1002]; with_reducible exact H) | (have H2_ := (Option.bind_some _ _).symm.trans H; rw [hy1002]; with_reducible exact H2_) | (have H2_ := (Option.bind_some _ _).symm.trans H; with_reducible exact H2_) | with_reducible exact H | (rw [hy1002]; exact H) | exact H
              have Ny1002 := Aside0.mk hy1002
              clear hy1002; have H' := Aside0.mk H
              clear H; go_wp2_with (first | ((with_reducible refine gate_builtin (b := .append) (xs := #[.tmp 28, .tmp 30]) rfl ?_); at_builtin; refine Kd.R_append (Kd.int .i64) (w0 := w) w.heap.size rfl (.tmp 28) (.tmp 30) 34 3 (.int .i64 0) 8 rfl Tryd.underlying34 info3 rfl (by decide) (by omega) u8 x8_1 x9_1 [.int .i64 x9_1] (fun _ => True) (fun _ => False) rfl rfl ?aP (fun _ hk => hk.elim) ?aF ?aO ?aB ?aS ?aL ?_; (case aP => exact rfl); (case aB => exact (by repeat with_reducible first | exact HB.out | apply below_alloc | apply pw_below_drewN | apply below_drew1)); (case aF => exact (fun _ _ => trivial)); (case aO => exact (by (with_reducible repeat (first | apply Kd.R_alloc | apply Kd.R_drewN | apply Kd.R_drew)); exact HO_8.out)); (case aS => exact (below_size (by repeat with_reducible first | exact HB.out | apply below_alloc | apply pw_below_drewN | apply below_drew1))); (case aL => have := LMc11.out; omega); intro v1003 w12 ho hb hg hat; rw [← Ny1002.out] at ho; have n0_ := Aside0.mk (hb); have n1_ := Aside0.mk (ho); clear HB; clear HO_8; have HB := n0_; have HO1004 := n1_; clear n0_ n1_; clear ho hb hg hat))
              go_roundg k1
              case measure => have := HK1.out; omega
              case rel => exact ⟨(y1002), (wrap64 (x9_1 + 1)), (by first | rfl | (simp; done) | (simp [*]; done)), H', ⟨by have := HK1.out; omega⟩, ⟨by (with_reducible repeat (first | apply Kd.R_alloc | apply Kd.R_drewN | apply Kd.R_drew)); exact HO1004.out⟩, ⟨by repeat (first | (with_reducible first | exact HB.out | apply below_alloc | apply pw_below_drewN | apply below_drew1) | exact HB.out)⟩⟩
            · rw [if_neg c11] at H
              exact absurd H (by simp)
          · rw [if_neg c10] at H
            have c10b0 : ((Go.bits .and .i64 (ji9) 1) == 1) = false := beq_eq_false_iff_ne.mpr c10
            have c10b1 : ((Go.bits .and .i64 (ji9) 1) != 1) = true := bne_iff_ne.mpr c10
            have H' := Aside0.mk H
            clear H; go_wp2; go_roundg k1
            case measure => have := HK1.out; omega
            case rel => exact ⟨(x8_1), (wrap64 (x9_1 + 1)), (by first | rfl | (simp; done) | (simp [*]; done)), H', ⟨by have := HK1.out; omega⟩, ⟨by (with_reducible repeat (first | apply Kd.R_alloc | apply Kd.R_drewN | apply Kd.R_drew)); exact HO_8.out⟩, ⟨by repeat (first | (with_reducible first | exact HB.out | apply below_alloc | apply pw_below_drewN | apply below_drew1) | exact HB.out)⟩⟩
        · rw [if_neg c8] at H
          exact absurd H (by simp)
      · rw [if_neg c6] at H
        have c6b0 : decide (x9_1 ≤ 8) = false := decide_eq_false c6
        clear c6; replace H := Option.bind_eq_some_iff.mp H
        obtain ⟨⟨t1005, t1006⟩, A130, H⟩ := H
        replace H : (if t1001 = true then (gemotlaw13_TreeLow.j1 k1 l1 a2 x8_1 t1005 ((t1006 == 0) != (decide ((x8_1.length : Int) > 0)))) else (gemotlaw13_TreeLow.j1 k1 l1 a2 x8_1 t1005 true)) = some r := H
        have A13 := Aside0.mk A130
        clear A130; have HC14 := Aside0.mk H
        clear H; obtain ⟨Ao15, co15, eo15⟩ := Kd.R_slice HO_8.out; subst eo15; go_upto_region 9 with (first | ((with_reducible refine gate_callee (f := 25) rfl ?_); refine goesL_ (some 34) rfl rfl Tryd.func25 (by kernel_rfl) rfl #[.slice Ao15 x8_1.length co15] rfl (by simp only [List.map_toArray, List.map_cons, List.map_nil] <;> rfl) ?_; (with_reducible refine (tree_Build.calls k1 _ _ x8_1 t1005 t1006 _ ?side1 ?side2 A13.out).mono ?_); (case side1 => repeat (first | exact (Kd.R_reads' HO_8.out).2.2 | (with_reducible refine Kd.C_alloc ?_ _) | (with_reducible refine Kd.C_drewN ?_ _) | (with_reducible refine Kd.C_drew ?_))); (case side2 => exact (Kd.R_reads' HO_8.out).2.1); rintro e w16 ⟨rfl, hb⟩; refine ⟨_, rfl, ?_⟩; have n0_ := Aside0.mk (Kd.R_below (by (with_reducible repeat (first | apply Kd.R_alloc | apply Kd.R_drewN | apply Kd.R_drew)); exact HO_8.out) hb); have n1_ := Aside0.mk (below_step (by repeat with_reducible first | exact HB.out | apply below_alloc | apply pw_below_drewN | apply below_drew1) hb); clear HO_8; clear HB; have HO_8 := n0_; have HB := n1_; clear n0_ n1_; (try clear hb)))
        (try simp only [Act.put, List.setIfInBounds_toArray, List.set_cons_zero, List.set_cons_succ]); go_cut [46] (fun v46 wc => ∃ (kq : Nat) (x46_13 : Bool), v46 = .bool x46_13 ∧ Aside0 (gemotlaw13_TreeLow.j1 kq l1 a2 x8_1 t1005 x46_13 = some r) ∧ Aside0 (kq ≤ k1) ∧ Aside0 (Kd.R (Kd.int .i64) 3 wc w.heap.size (fun _ => True) (.slice Ao15 x8_1.length co15) x8_1) ∧ Aside0 (Below w.heap.size w wc))
        case first =>
          have H := HC14.out; clear HC14; by_cases c17 : t1001 = true
          · subst c17; have H1 : (gemotlaw13_TreeLow.j1 k1 l1 a2 x8_1 t1005 ((t1006 == 0) != (decide ((x8_1.length : Int) > 0)))) = some r := by rw [if_pos rfl] at H; exact H
            clear H; have H := H1; clear H1; have H' := Aside0.mk H
            clear H; go_wp2; go_meet
            case rel => exact ⟨_, (((t1006 == 0) != (decide ((x8_1.length : Int) > 0)))), (by first | rfl | (simp; done) | (simp [*]; done) | (simp [*]; cases (t1006 == 0) <;> cases (decide (0 < x8_1.length)) <;> rfl)), H', ⟨by have := HK1.out; first | omega | exact Nat.le_refl _⟩, ⟨by (with_reducible repeat (first | apply Kd.R_alloc | apply Kd.R_drewN | apply Kd.R_drew)); exact HO_8.out⟩, ⟨by repeat (first | (with_reducible first | exact HB.out | apply below_alloc | apply pw_below_drewN | apply below_drew1) | exact HB.out)⟩⟩
          · replace c17 := Bool.eq_false_iff.mpr c17
            subst c17; have H1 : (gemotlaw13_TreeLow.j1 k1 l1 a2 x8_1 t1005 true) = some r := by rw [if_neg (show ¬ (false = true) by decide)] at H; exact H
            clear H; have H := H1; clear H1; have H' := Aside0.mk H
            clear H; go_wp2; go_meet
            case rel => exact ⟨_, (true), (by first | rfl | (simp; done) | (simp [*]; done)), H', ⟨by have := HK1.out; first | omega | exact Nat.le_refl _⟩, ⟨by (with_reducible repeat (first | apply Kd.R_alloc | apply Kd.R_drewN | apply Kd.R_drew)); exact HO_8.out⟩, ⟨by repeat (first | (with_reducible first | exact HB.out | apply below_alloc | apply pw_below_drewN | apply below_drew1) | exact HB.out)⟩⟩
        case rest =>
          clear HC14; try clear c1
          try clear c2
          try clear p2
          try clear c6
          try clear c6b0
          try clear p6
          try clear c8
          try clear c8b0
          try clear c8b1
          try clear c9
          try clear c10
          try clear c10b0
          try clear c10b1
          try clear c11
          try clear c17
          try clear p2
          obtain ⟨kq, x46_13, rfl, HA, HJ13, HO_8, HB⟩ := hcut; cases kq with
          | zero => exact absurd HA.out (by simp [gemotlaw13_TreeLow.j1])
          | succ kj13 =>
            have H := HA.out; clear HA; simp only [gemotlaw13_TreeLow.j1] at H; by_cases c18 : x46_13 = true
            · subst c18; have H1 : (none) = some r := by rw [if_pos rfl] at H; exact H
              exact absurd H1 (by simp)
            · replace c18 := Bool.eq_false_iff.mpr c18
              subst c18; have H1 : ((tree_Depth.f t1005).bind fun t1007 => (if (x8_1.length : Int) > 0 then (if 0 ≤ t1007 then (if (shl .i64 1 t1007) < (x8_1.length : Int) then (gemotlaw13_TreeLow.j2 kj13 l1 a2 true) else (if t1007 > 0 then (if 0 ≤ (wrap64 (t1007 - 1)) then (if (shl .i64 1 (wrap64 (t1007 - 1))) ≥ (x8_1.length : Int) then (gemotlaw13_TreeLow.j2 kj13 l1 a2 true) else ((tree_Members.f t1005).bind fun t1008 => ((gemotref10_Same.f t1008 x8_1).bind fun t1011 => (gemotlaw13_TreeLow.j2 kj13 l1 a2 (!t1011))))) else (none)) else ((tree_Members.f t1005).bind fun t1012 => ((gemotref10_Same.f t1012 x8_1).bind fun t1015 => (gemotlaw13_TreeLow.j2 kj13 l1 a2 (!t1015)))))) else (none)) else (gemotlaw13_TreeLow.j2 kj13 l1 a2 false))) = some r := by rw [if_neg (show ¬ (false = true) by decide)] at H; exact H
              clear H; have H := H1; clear H1; replace H := Option.bind_eq_some_iff.mp H
              obtain ⟨t1007, A190, H⟩ := H; replace H : (if (x8_1.length : Int) > 0 then (if 0 ≤ t1007 then (if (shl .i64 1 t1007) < (x8_1.length : Int) then (gemotlaw13_TreeLow.j2 kj13 l1 a2 true) else (if t1007 > 0 then (if 0 ≤ (wrap64 (t1007 - 1)) then (if (shl .i64 1 (wrap64 (t1007 - 1))) ≥ (x8_1.length : Int) then (gemotlaw13_TreeLow.j2 kj13 l1 a2 true) else ((tree_Members.f t1005).bind fun t1008 => ((gemotref10_Same.f t1008 x8_1).bind fun t1011 => (gemotlaw13_TreeLow.j2 kj13 l1 a2 (!t1011))))) else (none)) else ((tree_Members.f t1005).bind fun t1012 => ((gemotref10_Same.f t1012 x8_1).bind fun t1015 => (gemotlaw13_TreeLow.j2 kj13 l1 a2 (!t1015)))))) else (none)) else (gemotlaw13_TreeLow.j2 kj13 l1 a2 false)) = some r := H
              have A19 := Aside0.mk A190
              clear A190; have HC20 := Aside0.mk H
              clear H; go_upto_region 12 with (first | ((with_reducible refine gate_callee (f := 21) rfl ?_); refine goesL_ (some 48) rfl rfl Tryd.func21 (by kernel_rfl) rfl #[.string t1005] rfl (by simp only [List.map_toArray, List.map_cons, List.map_nil] <;> rfl) ?_; (with_reducible refine (tree_Depth.calls t1005 t1007 _ A19.out).mono ?_); rintro e w21 ⟨rfl, hb⟩; refine ⟨_, rfl, ?_⟩; have n0_ := Aside0.mk (Kd.R_below (by (with_reducible repeat (first | apply Kd.R_alloc | apply Kd.R_drewN | apply Kd.R_drew)); exact HO_8.out) hb); have n1_ := Aside0.mk (below_step (by repeat with_reducible first | exact HB.out | apply below_alloc | apply pw_below_drewN | apply below_drew1) hb); clear HO_8; clear HB; have HO_8 := n0_; have HB := n1_; clear n0_ n1_; (try clear hb)))
              (try simp only [Act.put, List.setIfInBounds_toArray, List.set_cons_zero, List.set_cons_succ]); go_cut [77] (fun v77 wc => ∃ (kq : Nat) (x77_19 : Bool), v77 = .bool x77_19 ∧ Aside0 (gemotlaw13_TreeLow.j2 kq l1 a2 x77_19 = some r) ∧ Aside0 (kq ≤ kj13) ∧ Aside0 (Below w.heap.size w wc))
              case first =>
                have H := HC20.out; clear HC20; by_cases c22 : (x8_1.length : Int) > 0
                · rw [if_pos c22] at H
                  have c22b0 : decide (0 < (x8_1.length : Int)) = true := decide_eq_true c22
                  have c22b1 : decide (0 < x8_1.length) = true := decide_eq_true (by omega)
                  clear c22; (first | rw [c22b0] | (simp only [i64_w, i32_w]; rw [c22b0]) | skip); by_cases c23 : 0 ≤ t1007
                  · rw [if_pos c23] at H
                    have c23b0 := eq_true c23
                    have c23b1 : decide (0 ≤ t1007) = true := decide_eq_true c23
                    clear c23; obtain ⟨ji24, hji24⟩ : ∃ j_ : Int, (shl .i64 1 t1007) = j_ := ⟨_, rfl⟩
                    replace H : (if (ji24) < (x8_1.length : Int) then (gemotlaw13_TreeLow.j2 kj13 l1 a2 true) else (if t1007 > 0 then (if 0 ≤ (wrap64 (t1007 - 1)) then (if (shl .i64 1 (wrap64 (t1007 - 1))) ≥ (x8_1.length : Int) then (gemotlaw13_TreeLow.j2 kj13 l1 a2 true) else ((tree_Members.f t1005).bind fun t1008 => ((gemotref10_Same.f t1008 x8_1).bind fun t1011 => (gemotlaw13_TreeLow.j2 kj13 l1 a2 (!t1011))))) else (none)) else ((tree_Members.f t1005).bind fun t1012 => ((gemotref10_Same.f t1012 x8_1).bind fun t1015 => (gemotlaw13_TreeLow.j2 kj13 l1 a2 (!t1015)))))) = some r := by first | (rw [hji24] at H; exact H) | (simp only [hji24] at H ⊢; exact H)
                    have hji24_ : (IntKind.i64.wrap (1 * 2 ^ min t1007.toNat 64)) = ji24 := hji24
                    have hji24z : t1007 ≤ 64 → (IntKind.i64.wrap (1 * 2 ^ t1007.toNat)) = ji24 := shl_small hji24
                    have hji24u : (IntKind.i64.wrap (2 ^ min t1007.toNat 64)) = ji24 := by have h_ := hji24_; rw [Int.one_mul] at h_; exact h_
                    have hji24v : t1007 ≤ 64 → (IntKind.i64.wrap (2 ^ t1007.toNat)) = ji24 := fun hle_ => by have h_ := hji24z hle_; rw [Int.one_mul] at h_; exact h_
                    have hji24y : (wrap64 (1 * 2 ^ min t1007.toNat 64)) = ji24 := (i64_w _).symm.trans hji24_
                    have hji24x : t1007 ≤ 64 → (wrap64 (1 * 2 ^ t1007.toNat)) = ji24 := fun h_ => (i64_w _).symm.trans (hji24z h_)
                    by_cases c25 : (ji24) < (x8_1.length : Int)
                    · rw [if_pos c25] at H
                      have c25b0 : decide ((ji24) < (x8_1.length : Int)) = true := decide_eq_true c25
                      clear c25; have H' := Aside0.mk H
                      clear H; go_wp2; go_meet
                      case rel => exact ⟨_, (true), (by first | rfl | (simp; done) | (simp [*]; done)), H', ⟨by have := HK1.out; have := HJ13.out; first | omega | exact Nat.le_refl _⟩, ⟨by repeat (first | (with_reducible first | exact HB.out | apply below_alloc | apply pw_below_drewN | apply below_drew1) | exact HB.out)⟩⟩
                    · rw [if_neg c25] at H
                      have c25b0 : decide ((ji24) < (x8_1.length : Int)) = false := decide_eq_false c25
                      clear c25; by_cases c26 : t1007 > 0
                      · rw [if_pos c26] at H
                        have c26b0 : decide (0 < t1007) = true := decide_eq_true c26
                        clear c26; obtain ⟨ji27, hji27⟩ : ∃ j_ : Int, (wrap64 (t1007 - 1)) = j_ := ⟨_, rfl⟩
                        replace H : (if 0 ≤ (ji27) then (if (shl .i64 1 (ji27)) ≥ (x8_1.length : Int) then (gemotlaw13_TreeLow.j2 kj13 l1 a2 true) else ((tree_Members.f t1005).bind fun t1008 => ((gemotref10_Same.f t1008 x8_1).bind fun t1011 => (gemotlaw13_TreeLow.j2 kj13 l1 a2 (!t1011))))) else (none)) = some r := by first | (rw [hji27] at H; exact H) | (simp only [hji27] at H ⊢; exact H)
                        have hji27w : (IntKind.i64.wrap (t1007 - 1)) = ji27 := (i64_w _).trans hji27
                        by_cases c28 : 0 ≤ (ji27)
                        · rw [if_pos c28] at H
                          have c28b0 := eq_true c28
                          have c28b1 : decide (0 ≤ (ji27)) = true := decide_eq_true c28
                          clear c28; obtain ⟨ji29, hji29⟩ : ∃ j_ : Int, (shl .i64 1 (ji27)) = j_ := ⟨_, rfl⟩
                          replace H : (if (ji29) ≥ (x8_1.length : Int) then (gemotlaw13_TreeLow.j2 kj13 l1 a2 true) else ((tree_Members.f t1005).bind fun t1008 => ((gemotref10_Same.f t1008 x8_1).bind fun t1011 => (gemotlaw13_TreeLow.j2 kj13 l1 a2 (!t1011))))) = some r := by first | (rw [hji29] at H; exact H) | (simp only [hji29] at H ⊢; exact H)
                          have hji29_ : (IntKind.i64.wrap (1 * 2 ^ min (ji27).toNat 64)) = ji29 := hji29
                          have hji29z : (ji27) ≤ 64 → (IntKind.i64.wrap (1 * 2 ^ (ji27).toNat)) = ji29 := shl_small hji29
                          have hji29u : (IntKind.i64.wrap (2 ^ min (ji27).toNat 64)) = ji29 := by have h_ := hji29_; rw [Int.one_mul] at h_; exact h_
                          have hji29v : (ji27) ≤ 64 → (IntKind.i64.wrap (2 ^ (ji27).toNat)) = ji29 := fun hle_ => by have h_ := hji29z hle_; rw [Int.one_mul] at h_; exact h_
                          have hji29y : (wrap64 (1 * 2 ^ min (ji27).toNat 64)) = ji29 := (i64_w _).symm.trans hji29_
                          have hji29x : (ji27) ≤ 64 → (wrap64 (1 * 2 ^ (ji27).toNat)) = ji29 := fun h_ => (i64_w _).symm.trans (hji29z h_)
                          by_cases c30 : (ji29) ≥ (x8_1.length : Int)
                          · rw [if_pos c30] at H
                            have c30b0 : decide ((x8_1.length : Int) ≤ (ji29)) = true := decide_eq_true c30
                            clear c30; have H' := Aside0.mk H
                            clear H; go_wp2; go_meet
                            case rel => exact ⟨_, (true), (by first | rfl | (simp; done) | (simp [*]; done)), H', ⟨by have := HK1.out; have := HJ13.out; first | omega | exact Nat.le_refl _⟩, ⟨by repeat (first | (with_reducible first | exact HB.out | apply below_alloc | apply pw_below_drewN | apply below_drew1) | exact HB.out)⟩⟩
                          · rw [if_neg c30] at H
                            have c30b0 : decide ((x8_1.length : Int) ≤ (ji29)) = false := decide_eq_false c30
                            clear c30; replace H := Option.bind_eq_some_iff.mp H
                            obtain ⟨t1008, A310, H⟩ := H; replace H : ((gemotref10_Same.f t1008 x8_1).bind fun t1011 => (gemotlaw13_TreeLow.j2 kj13 l1 a2 (!t1011))) = some r := H
                            have A31 := Aside0.mk A310
                            clear A310; replace H := Option.bind_eq_some_iff.mp H
                            obtain ⟨t1011, A320, H⟩ := H; replace H : (gemotlaw13_TreeLow.j2 kj13 l1 a2 (!t1011)) = some r := H
                            have A32 := Aside0.mk A320
                            clear A320; have H' := Aside0.mk H
                            clear H; go_wp2_with (first | (go_at_call 19; (with_reducible refine (tree_Members.calls t1005 t1008 _ A31.out).mono ?_); rintro e w33 ⟨v1009, rfl, ho0, hb⟩; have n0_ := Aside0.mk (Kd.R_elder' (by (with_reducible repeat (first | apply Kd.R_alloc | apply Kd.R_drewN | apply Kd.R_drew)); exact HO_8.out) (Kd.R_base ho0) hb); have n1_ := Aside0.mk (Kd.R_lower (Kd.R_new' ho0 (Kd.R_lt (by (with_reducible repeat (first | apply Kd.R_alloc | apply Kd.R_drewN | apply Kd.R_drew)); exact HO_8.out))) (below_size (by repeat with_reducible first | exact HB.out | apply below_alloc | apply pw_below_drewN | apply below_drew1))); have n2_ := Aside0.mk (below_step (by repeat with_reducible first | exact HB.out | apply below_alloc | apply pw_below_drewN | apply below_drew1) hb); clear HO_8; clear HB; have HO_8 := n0_; have HO1010 := n1_; have HB := n2_; clear n0_ n1_ n2_; (try clear hb); (try clear ho0); obtain ⟨Ao34, co34, eo34⟩ := Kd.R_slice HO1010.out; subst eo34) | (go_at_call 18; (with_reducible refine (gemotref10_Same.calls _ _ t1008 _ _ x8_1 t1011 _ ?side1 ?side2 ?side3 ?side4 A32.out).mono ?_); (case side1 => repeat (first | exact (Kd.R_reads' HO1010.out).2.2 | (with_reducible refine Kd.C_alloc ?_ _) | (with_reducible refine Kd.C_drewN ?_ _) | (with_reducible refine Kd.C_drew ?_))); (case side2 => exact (Kd.R_reads' HO1010.out).2.1); (case side3 => repeat (first | exact (Kd.R_reads' HO_8.out).2.2 | (with_reducible refine Kd.C_alloc ?_ _) | (with_reducible refine Kd.C_drewN ?_ _) | (with_reducible refine Kd.C_drew ?_))); (case side4 => exact (Kd.R_reads' HO_8.out).2.1); rintro e w' ⟨rfl, ⟨nd, rfl⟩⟩))
                            go_meet
                            case rel => exact ⟨_, (!t1011), (by first | rfl | (simp; done) | (simp [*]; done)), H', ⟨by have := HK1.out; have := HJ13.out; first | omega | exact Nat.le_refl _⟩, ⟨by repeat (first | (with_reducible first | exact HB.out | apply below_alloc | apply pw_below_drewN | apply below_drew1) | exact HB.out)⟩⟩
                        · rw [if_neg c28] at H
                          exact absurd H (by simp)
                      · rw [if_neg c26] at H
                        have c26b0 : decide (0 < t1007) = false := decide_eq_false c26
                        clear c26; replace H := Option.bind_eq_some_iff.mp H
                        obtain ⟨t1012, A350, H⟩ := H; replace H : ((gemotref10_Same.f t1012 x8_1).bind fun t1015 => (gemotlaw13_TreeLow.j2 kj13 l1 a2 (!t1015))) = some r := H
                        have A35 := Aside0.mk A350
                        clear A350; replace H := Option.bind_eq_some_iff.mp H
                        obtain ⟨t1015, A360, H⟩ := H; replace H : (gemotlaw13_TreeLow.j2 kj13 l1 a2 (!t1015)) = some r := H
                        have A36 := Aside0.mk A360
                        clear A360; have H' := Aside0.mk H
                        clear H; go_wp2_with (first | (go_at_call 19; (with_reducible refine (tree_Members.calls t1005 t1012 _ A35.out).mono ?_); rintro e w37 ⟨v1013, rfl, ho0, hb⟩; have n0_ := Aside0.mk (Kd.R_elder' (by (with_reducible repeat (first | apply Kd.R_alloc | apply Kd.R_drewN | apply Kd.R_drew)); exact HO_8.out) (Kd.R_base ho0) hb); have n1_ := Aside0.mk (Kd.R_lower (Kd.R_new' ho0 (Kd.R_lt (by (with_reducible repeat (first | apply Kd.R_alloc | apply Kd.R_drewN | apply Kd.R_drew)); exact HO_8.out))) (below_size (by repeat with_reducible first | exact HB.out | apply below_alloc | apply pw_below_drewN | apply below_drew1))); have n2_ := Aside0.mk (below_step (by repeat with_reducible first | exact HB.out | apply below_alloc | apply pw_below_drewN | apply below_drew1) hb); clear HO_8; clear HB; have HO_8 := n0_; have HO1014 := n1_; have HB := n2_; clear n0_ n1_ n2_; (try clear hb); (try clear ho0); obtain ⟨Ao38, co38, eo38⟩ := Kd.R_slice HO1014.out; subst eo38) | (go_at_call 18; (with_reducible refine (gemotref10_Same.calls _ _ t1012 _ _ x8_1 t1015 _ ?side1 ?side2 ?side3 ?side4 A36.out).mono ?_); (case side1 => repeat (first | exact (Kd.R_reads' HO1014.out).2.2 | (with_reducible refine Kd.C_alloc ?_ _) | (with_reducible refine Kd.C_drewN ?_ _) | (with_reducible refine Kd.C_drew ?_))); (case side2 => exact (Kd.R_reads' HO1014.out).2.1); (case side3 => repeat (first | exact (Kd.R_reads' HO_8.out).2.2 | (with_reducible refine Kd.C_alloc ?_ _) | (with_reducible refine Kd.C_drewN ?_ _) | (with_reducible refine Kd.C_drew ?_))); (case side4 => exact (Kd.R_reads' HO_8.out).2.1); rintro e w' ⟨rfl, ⟨nd, rfl⟩⟩))
                        go_meet
                        case rel => exact ⟨_, (!t1015), (by first | rfl | (simp; done) | (simp [*]; done)), H', ⟨by have := HK1.out; have := HJ13.out; first | omega | exact Nat.le_refl _⟩, ⟨by repeat (first | (with_reducible first | exact HB.out | apply below_alloc | apply pw_below_drewN | apply below_drew1) | exact HB.out)⟩⟩
                  · rw [if_neg c23] at H
                    exact absurd H (by simp)
                · rw [if_neg c22] at H
                  have c22b0 : decide (0 < (x8_1.length : Int)) = false := decide_eq_false c22
                  have c22b1 : decide (0 < x8_1.length) = false := decide_eq_false (by omega)
                  clear c22; (first | rw [c22b0] | (simp only [i64_w, i32_w]; rw [c22b0]) | skip); have H' := Aside0.mk H
                  clear H; go_wp2; go_meet
                  case rel => exact ⟨_, (false), (by first | rfl | (simp; done) | (simp [*]; done)), H', ⟨by have := HK1.out; have := HJ13.out; first | omega | exact Nat.le_refl _⟩, ⟨by repeat (first | (with_reducible first | exact HB.out | apply below_alloc | apply pw_below_drewN | apply below_drew1) | exact HB.out)⟩⟩
              case rest =>
                clear HC20; try clear c1
                try clear c2
                try clear p2
                try clear c3
                try clear c6
                try clear c6b0
                try clear p6
                try clear c8
                try clear c8b0
                try clear c8b1
                try clear c9
                try clear c10
                try clear c10b0
                try clear c10b1
                try clear c11
                try clear c17
                try clear c18
                try clear c21
                try clear c22
                try clear c22b0
                try clear c22b1
                try clear c23
                try clear c23b0
                try clear c23b1
                try clear c25
                try clear c25b0
                try clear c26
                try clear c26b0
                try clear c28
                try clear c28b0
                try clear c28b1
                try clear c30
                try clear c30b0
                try clear p2
                try clear p6
                obtain ⟨kq, x77_19, rfl, HA, HJ19, HB⟩ := hcut; cases kq with
                | zero => exact absurd HA.out (by simp [gemotlaw13_TreeLow.j2])
                | succ kj19 =>
                  have H := HA.out; clear HA; simp only [gemotlaw13_TreeLow.j2] at H; by_cases c39 : x77_19 = true
                  · subst c39; have H1 : (none) = some r := by rw [if_pos rfl] at H; exact H
                    exact absurd H1 (by simp)
                  · replace c39 := Bool.eq_false_iff.mpr c39
                    subst c39; have H1 : ((gemotlaw13_made.f kj19 l1).bind fun t1016 => ((gemotlaw13_pick.f a2 8).bind fun t1017 => ((tree_Join.f t1016 (wrap64 (1 + t1017))).bind fun bt1018 => ((tree_Depth.f t1016).bind fun t1020 => (if bt1018.2 = 0 then ((tree_Depth.f bt1018.1).bind fun t1021 => ((tree_Members.f t1016).bind fun t1022 => (if 0 ≤ t1020 then (some ((decide (t1021 > t1020)) == ((t1022.length : Int) == (shl .i64 1 t1020)))) else (none)))) else (some true)))))) = some r := by rw [if_neg (show ¬ (false = true) by decide)] at H; exact H
                    clear H; have H := H1; clear H1; replace H := Option.bind_eq_some_iff.mp H
                    obtain ⟨t1016, A400, H⟩ := H; replace H : ((gemotlaw13_pick.f a2 8).bind fun t1017 => ((tree_Join.f t1016 (wrap64 (1 + t1017))).bind fun bt1018 => ((tree_Depth.f t1016).bind fun t1020 => (if bt1018.2 = 0 then ((tree_Depth.f bt1018.1).bind fun t1021 => ((tree_Members.f t1016).bind fun t1022 => (if 0 ≤ t1020 then (some ((decide (t1021 > t1020)) == ((t1022.length : Int) == (shl .i64 1 t1020)))) else (none)))) else (some true))))) = some r := H
                    have A40 := Aside0.mk A400
                    clear A400; replace H := Option.bind_eq_some_iff.mp H
                    obtain ⟨t1017, A410, H⟩ := H; replace H : ((tree_Join.f t1016 (wrap64 (1 + t1017))).bind fun bt1018 => ((tree_Depth.f t1016).bind fun t1020 => (if bt1018.2 = 0 then ((tree_Depth.f bt1018.1).bind fun t1021 => ((tree_Members.f t1016).bind fun t1022 => (if 0 ≤ t1020 then (some ((decide (t1021 > t1020)) == ((t1022.length : Int) == (shl .i64 1 t1020)))) else (none)))) else (some true)))) = some r := H
                    have A41 := Aside0.mk A410
                    clear A410; replace H := Option.bind_eq_some_iff.mp H
                    obtain ⟨⟨t1018, t1019⟩, A420, H⟩ := H
                    replace H : ((tree_Depth.f t1016).bind fun t1020 => (if t1019 = 0 then ((tree_Depth.f t1018).bind fun t1021 => ((tree_Members.f t1016).bind fun t1022 => (if 0 ≤ t1020 then (some ((decide (t1021 > t1020)) == ((t1022.length : Int) == (shl .i64 1 t1020)))) else (none)))) else (some true))) = some r := H
                    have A42 := Aside0.mk A420
                    clear A420; replace H := Option.bind_eq_some_iff.mp H
                    obtain ⟨t1020, A430, H⟩ := H; replace H : (if t1019 = 0 then ((tree_Depth.f t1018).bind fun t1021 => ((tree_Members.f t1016).bind fun t1022 => (if 0 ≤ t1020 then (some ((decide (t1021 > t1020)) == ((t1022.length : Int) == (shl .i64 1 t1020)))) else (none)))) else (some true)) = some r := H
                    have A43 := Aside0.mk A430
                    clear A430; by_cases c44 : t1019 = 0
                    · rw [if_pos c44] at H
                      have c44b0 : (t1019 == 0) = true := beq_iff_eq.mpr c44
                      have c44b1 : (t1019 != 0) = false := bne_eq_false_iff_eq.mpr c44
                      clear c44; replace H := Option.bind_eq_some_iff.mp H
                      obtain ⟨t1021, A450, H⟩ := H; replace H : ((tree_Members.f t1016).bind fun t1022 => (if 0 ≤ t1020 then (some ((decide (t1021 > t1020)) == ((t1022.length : Int) == (shl .i64 1 t1020)))) else (none))) = some r := H
                      have A45 := Aside0.mk A450
                      clear A450; replace H := Option.bind_eq_some_iff.mp H
                      obtain ⟨t1022, A460, H⟩ := H; replace H : (if 0 ≤ t1020 then (some ((decide (t1021 > t1020)) == ((t1022.length : Int) == (shl .i64 1 t1020)))) else (none)) = some r := H
                      have A46 := Aside0.mk A460
                      clear A460; by_cases c47 : 0 ≤ t1020
                      · rw [if_pos c47] at H
                        have c47b0 := eq_true c47
                        have c47b1 : decide (0 ≤ t1020) = true := decide_eq_true c47
                        clear c47; obtain ⟨ji48, hji48⟩ : ∃ j_ : Int, (shl .i64 1 t1020) = j_ := ⟨_, rfl⟩
                        replace H : (some ((decide (t1021 > t1020)) == ((t1022.length : Int) == (ji48)))) = some r := by first | (rw [hji48] at H; exact H) | (simp only [hji48] at H ⊢; exact H)
                        (try rw [hji48] at A40); (try rw [hji48] at A41); (try rw [hji48] at A42); (try rw [hji48] at A43); (try rw [hji48] at A45); (try rw [hji48] at A46); have hji48_ : (IntKind.i64.wrap (1 * 2 ^ min t1020.toNat 64)) = ji48 := hji48
                        have hji48z : t1020 ≤ 64 → (IntKind.i64.wrap (1 * 2 ^ t1020.toNat)) = ji48 := shl_small hji48
                        have hji48u : (IntKind.i64.wrap (2 ^ min t1020.toNat 64)) = ji48 := by have h_ := hji48_; rw [Int.one_mul] at h_; exact h_
                        have hji48v : t1020 ≤ 64 → (IntKind.i64.wrap (2 ^ t1020.toNat)) = ji48 := fun hle_ => by have h_ := hji48z hle_; rw [Int.one_mul] at h_; exact h_
                        have hji48y : (wrap64 (1 * 2 ^ min t1020.toNat 64)) = ji48 := (i64_w _).symm.trans hji48_
                        have hji48x : t1020 ≤ 64 → (wrap64 (1 * 2 ^ t1020.toNat)) = ji48 := fun h_ => (i64_w _).symm.trans (hji48z h_)
                        obtain rfl := Option.some.inj H
                        try go_wp2_with (first | ((with_reducible refine gate_callee (f := 27) rfl ?_); refine goesL_ (some 79) rfl rfl Tryd.func27 (by kernel_rfl) rfl #[.slice A1 l1.length c1] rfl (by simp only [List.map_toArray, List.map_cons, List.map_nil] <;> rfl) ?_; (with_reducible refine (gemotlaw13_made.calls kj19 _ _ l1 t1016 _ ?side1 ?side2 A40.out).mono ?_); (case side1 => repeat (first | exact (Kd.C_below HR1.out HB.out) | (with_reducible refine Kd.C_alloc ?_ _) | (with_reducible refine Kd.C_drewN ?_ _) | (with_reducible refine Kd.C_drew ?_))); (case side2 => exact HC1.out); rintro e w49 ⟨rfl, hb⟩; refine ⟨_, rfl, ?_⟩; have n0_ := Aside0.mk (below_step (by repeat with_reducible first | exact HB.out | apply below_alloc | apply pw_below_drewN | apply below_drew1) hb); clear HB; have HB := n0_; clear n0_; (try clear hb)) | ((with_reducible refine gate_callee (f := 28) rfl ?_); refine goesL_ (some 83) rfl rfl Tryd.func28 (by kernel_rfl) rfl #[.int .i64 a2, .int .i64 8] rfl (by simp only [List.map_toArray, List.map_cons, List.map_nil] <;> rfl) ?_; (with_reducible refine (gemotlaw13_pick.calls a2 8 t1017 _ A41.out).mono ?_); rintro e w' ⟨rfl, ⟨nd, rfl⟩⟩; refine ⟨_, rfl, ?_⟩) | ((with_reducible refine gate_callee (f := 10) rfl ?_); refine goesL_ (some 85) rfl rfl Tryd.func10 (by kernel_rfl) rfl #[.string t1016, .int .i64 (wrap64 (1 + t1017))] rfl (by simp only [List.map_toArray, List.map_cons, List.map_nil] <;> rfl) ?_; (with_reducible refine (tree_Join.calls t1016 (wrap64 (1 + t1017)) t1018 t1019 _ A42.out).mono ?_); rintro e w50 ⟨rfl, hb⟩; refine ⟨_, rfl, ?_⟩; have n0_ := Aside0.mk (below_step (by repeat with_reducible first | exact HB.out | apply below_alloc | apply pw_below_drewN | apply below_drew1) hb); clear HB; have HB := n0_; clear n0_; (try clear hb)) | ((with_reducible refine gate_callee (f := 21) rfl ?_); refine goesL_ (some 89) rfl rfl Tryd.func21 (by kernel_rfl) rfl #[.string t1016] rfl (by simp only [List.map_toArray, List.map_cons, List.map_nil] <;> rfl) ?_; (with_reducible refine (tree_Depth.calls t1016 t1020 _ A43.out).mono ?_); rintro e w51 ⟨rfl, hb⟩; refine ⟨_, rfl, ?_⟩; have n0_ := Aside0.mk (below_step (by repeat with_reducible first | exact HB.out | apply below_alloc | apply pw_below_drewN | apply below_drew1) hb); clear HB; have HB := n0_; clear n0_; (try clear hb)))
                        have n0_ := Aside0.mk (below_drew1 HB.out)
                        clear HB; have HB := n0_; clear n0_; refine start_ (n := 16) (S := fun w' => True) (ds := []) #[false, false, false, false, false, false, false, false, false, false, false, false, false, false, false, false] (by kernel_rfl) rfl rfl trivial (fun hHeld => ?_); refine with_tabW gemotlaw13_TreeLow.tab17 gemotlaw13_TreeLow.bits17 (fun HT_ HW_ => ?_)
                        generalize w51.drew = w52 at HB hHeld ⊢
                        refine pure_ (i := 0) (N := some 90) (v := ?_) (a' := ?_) #[true, false, false, false, false, false, false, false, false, false, false, false, false, false, false, false] rfl rfl (any_of HT_.out (by kernel_rfl)) (fun _ _ _ h => h) (Or.inl ⟨by rfl, ?_⟩) ?_ ?_
                        rotate_left
                        · intro w'; go_simp; with_reducible rfl
                        rotate_left; · (simp only [Act.put, List.setIfInBounds_toArray, List.set_cons_zero, List.set_cons_succ, i64_w, i32_w]; rfl)
                        refine pure_ (i := 1) (N := some 91) (v := ?_) (a' := ?_) #[true, true, false, false, false, false, false, false, false, false, false, false, false, false, false, false] rfl rfl (any_of HT_.out (by kernel_rfl)) (fun _ _ _ h => h) (Or.inl ⟨by rfl, ?_⟩) ?_ ?_
                        rotate_left
                        · intro w'; go_simp; with_reducible rfl
                        rotate_left; · (simp only [Act.put, List.setIfInBounds_toArray, List.set_cons_zero, List.set_cons_succ, i64_w, i32_w]; rfl)
                        refine pure_ (i := 2) (N := some 92) (v := ?_) (a' := ?_) #[true, true, true, false, false, false, false, false, false, false, false, false, false, false, false, false] rfl rfl (any_of HT_.out (by kernel_rfl)) (fun _ _ _ h => h) (Or.inl ⟨by rfl, ?_⟩) ?_ ?_
                        rotate_left
                        · intro w'; go_simp; with_reducible rfl
                        rotate_left; · (simp only [Act.put, List.setIfInBounds_toArray, List.set_cons_zero, List.set_cons_succ, i64_w, i32_w]; rfl)
                        refine pure_ (i := 3) (N := some 93) (v := ?_) (a' := ?_) #[true, true, true, true, false, false, false, false, false, false, false, false, false, false, false, false] rfl rfl (any_of HT_.out (by kernel_rfl)) (fun _ _ _ h => h) (Or.inl ⟨by rfl, ?_⟩) ?_ ?_
                        rotate_left
                        · intro w'; go_simp; with_reducible rfl
                        rotate_left; · (simp only [Act.put, List.setIfInBounds_toArray, List.set_cons_zero, List.set_cons_succ, i64_w, i32_w]; rfl)
                        refine pure_ (i := 5) (N := some 95) (v := ?_) (a' := ?_) #[true, true, true, true, false, true, false, false, false, false, false, false, false, false, false, false] rfl rfl (any_of HT_.out (by kernel_rfl)) (fun _ _ _ h => h) (Or.inl ⟨by rfl, ?_⟩) ?_ ?_
                        rotate_left
                        · intro w'; go_simp; with_reducible rfl
                        rotate_left; · (simp only [Act.put, List.setIfInBounds_toArray, List.set_cons_zero, List.set_cons_succ, i64_w, i32_w]; rfl)
                        refine pure_ (i := 7) (N := some 97) (v := ?_) (a' := ?_) #[true, true, true, true, false, true, false, true, false, false, false, false, false, false, false, false] rfl rfl (any_of HT_.out (by kernel_rfl)) (fun _ _ _ h => h) (Or.inl ⟨by rfl, ?_⟩) ?_ ?_
                        rotate_left
                        · intro w'; go_simp; with_reducible rfl
                        rotate_left; · (simp only [Act.put, List.setIfInBounds_toArray, List.set_cons_zero, List.set_cons_succ, i64_w, i32_w]; rfl)
                        refine pure_ (i := 10) (N := some 100) (v := ?_) (a' := ?_) #[true, true, true, true, false, true, false, true, false, false, true, false, false, false, false, false] rfl rfl (any_of HT_.out (by kernel_rfl)) (fun _ _ _ h => h) (Or.inl ⟨by rfl, ?_⟩) ?_ ?_
                        rotate_left
                        · intro w'; go_simp; with_reducible rfl
                        rotate_left; · (simp only [Act.put, List.setIfInBounds_toArray, List.set_cons_zero, List.set_cons_succ, i64_w, i32_w]; rfl)
                        refine pure_ (i := 11) (N := some 101) (v := ?_) (a' := ?_) #[true, true, true, true, false, true, false, true, false, false, true, true, false, false, false, false] rfl rfl (any_of HT_.out (by kernel_rfl)) (fun _ _ _ h => h) (Or.inl ⟨by rfl, ?_⟩) ?_ ?_
                        rotate_left
                        · intro w'; go_simp; with_reducible rfl
                        rotate_left; · (simp only [Act.put, List.setIfInBounds_toArray, List.set_cons_zero, List.set_cons_succ, i64_w, i32_w]; rfl)
                        refine one_ (i := 4) (N := some 94) #[true, true, true, true, true, true, false, true, false, false, true, true, false, false, false, false] rfl rfl (one_of HT_.out (by kernel_rfl)) (by decide) (fun K hK => ?_)
                        refine goes_ Tryd.func21 (by kernel_rfl) rfl #[.string t1018] (by rfl) rfl rfl (by (try simp only [List.map_toArray, List.map_cons, List.map_nil]); first | done | rfl | (simp only [List.length_drop, List.length_take]; rfl)) ?_
                        with_reducible refine (tree_Depth.calls t1018 t1021 _ A45.out).mono ?_
                        rintro e w53 ⟨rfl, hb⟩; refine ⟨_, rfl, ?_⟩
                        have n0_ := Aside0.mk (below_step (by repeat (first | (with_reducible first | exact HB.out | apply below_alloc | apply pw_below_drewN | apply below_drew1) | exact HB.out)) hb)
                        clear HB; have HB := n0_; clear n0_; (try clear hb); (try clear hb2); (try clear hk); (try clear hi); refine hK.out _ _ trivial (fun hHeld => ?_)
                        clear hK K; refine norm_ (a' := ?_) ?_ ?_
                        rotate_left
                        · show Act.put _ (some 94) _ = _
                          simp only [Act.put, List.setIfInBounds_toArray, List.set_cons_zero, List.set_cons_succ, i64_w, i32_w]; rfl
                        refine pure_ (i := 6) (N := some 96) (v := ?_) (a' := ?_) #[true, true, true, true, true, true, true, true, false, false, true, true, false, false, false, false] rfl rfl (any_of HT_.out (by kernel_rfl)) (fun _ _ _ h => h) (Or.inl ⟨by rfl, ?_⟩) ?_ ?_
                        rotate_left
                        · intro w'; go_simp; with_reducible rfl
                        rotate_left; · (simp only [Act.put, List.setIfInBounds_toArray, List.set_cons_zero, List.set_cons_succ, i64_w, i32_w]; rfl)
                        refine one_ (i := 8) (N := some 98) #[true, true, true, true, true, true, true, true, true, false, true, true, false, false, false, false] rfl rfl (one_of HT_.out (by kernel_rfl)) (by decide) (fun K hK => ?_)
                        refine goes_ Tryd.func19 (by kernel_rfl) rfl #[.string t1016] (by rfl) rfl rfl (by (try simp only [List.map_toArray, List.map_cons, List.map_nil]); first | done | rfl | (simp only [List.length_drop, List.length_take]; rfl)) ?_
                        with_reducible refine (tree_Members.calls t1016 t1022 _ A46.out).mono ?_
                        rintro e w54 ⟨v1023, rfl, ho0, hb⟩; refine ⟨_, rfl, ?_⟩
                        have n0_ := Aside0.mk (Kd.R_lower ho0 (below_size (by repeat (first | (with_reducible first | exact HB.out | apply below_alloc | apply pw_below_drewN | apply below_drew1) | exact HB.out))))
                        have n1_ := Aside0.mk (below_step (by repeat (first | (with_reducible first | exact HB.out | apply below_alloc | apply pw_below_drewN | apply below_drew1) | exact HB.out)) hb)
                        clear HB; have HO1024 := n0_; have HB := n1_; clear n0_ n1_; (try clear hb); (try clear hb2); (try clear hk); (try clear hi); (try clear ho0); obtain ⟨Ao55, co55, eo55⟩ := Kd.R_slice HO1024.out; (first | subst eo55 | (injection eo55 with f1_ f2_ f3_; have f4_ := f1_.symm; have f5_ := f3_.symm; clear f1_ f2_ f3_; subst f4_; subst f5_)); refine hK.out _ _ trivial (fun hHeld => ?_)
                        clear hK K; refine norm_ (a' := ?_) ?_ ?_
                        rotate_left
                        · show Act.put _ (some 98) _ = _
                          simp only [Act.put, List.setIfInBounds_toArray, List.set_cons_zero, List.set_cons_succ, i64_w, i32_w]; rfl
                        refine pure_ (i := 9) (N := some 99) (v := ?_) (a' := ?_) #[true, true, true, true, true, true, true, true, true, true, true, true, false, false, false, false] rfl rfl (any_of HT_.out (by kernel_rfl)) (fun _ _ _ h => h) (Or.inl ⟨by rfl, ?_⟩) ?_ ?_
                        rotate_left
                        · intro w'; go_simp; with_reducible rfl
                        rotate_left; · (simp only [Act.put, List.setIfInBounds_toArray, List.set_cons_zero, List.set_cons_succ, i64_w, i32_w]; rfl)
                        refine pure_ (i := 12) (N := some 102) (v := ?_) (a' := ?_) #[true, true, true, true, true, true, true, true, true, true, true, true, true, false, false, false] rfl rfl (any_of HT_.out (by kernel_rfl)) (fun _ _ _ h => h) (Or.inl ⟨by rfl, ?_⟩) ?_ ?_
                        rotate_left
                        · intro w'; go_simp; with_reducible rfl
                        rotate_left; · (simp only [Act.put, List.setIfInBounds_toArray, List.set_cons_zero, List.set_cons_succ, i64_w, i32_w]; rfl)
                        refine pure_ (i := 13) (N := some 103) (v := ?_) (a' := ?_) #[true, true, true, true, true, true, true, true, true, true, true, true, true, true, false, false] rfl rfl (any_of HT_.out (by kernel_rfl)) (fun _ _ _ h => h) (Or.inl ⟨by rfl, ?_⟩) ?_ ?_
                        rotate_left
                        · intro w'; go_simp; with_reducible rfl
                        rotate_left; · (simp only [Act.put, List.setIfInBounds_toArray, List.set_cons_zero, List.set_cons_succ, i64_w, i32_w]; rfl)
                        refine pure_ (i := 14) (N := some 104) (v := ?_) (a' := ?_) #[true, true, true, true, true, true, true, true, true, true, true, true, true, true, true, false] rfl rfl (any_of HT_.out (by kernel_rfl)) (fun _ _ _ h => h) (Or.inl ⟨by rfl, ?_⟩) ?_ ?_
                        rotate_left
                        · intro w'; go_simp; with_reducible rfl
                        rotate_left; · (simp only [Act.put, List.setIfInBounds_toArray, List.set_cons_zero, List.set_cons_succ, i64_w, i32_w]; rfl)
                        refine pure_ (i := 15) (N := some 6) (v := ?_) (a' := ?_) #[true, true, true, true, true, true, true, true, true, true, true, true, true, true, true, true] rfl rfl (any_of HT_.out (by kernel_rfl)) (fun _ _ _ h => h) (Or.inl ⟨by rfl, ?_⟩) ?_ ?_
                        rotate_left
                        · intro w'; go_simp; with_reducible rfl
                        rotate_left; · (simp only [Act.put, List.setIfInBounds_toArray, List.set_cons_zero, List.set_cons_succ, i64_w, i32_w]; rfl)
                        refine done_ (done_of HT_.out (by kernel_rfl)) ?_
                        try go_wp2
                        go_ret
                        exact ⟨by first | rfl | (simp [errW_none, errW_some] <;> rfl) | (simp only [← hji48]; first | rfl | (simp [errW_none, errW_some] <;> rfl)) | (simp [*, errW_none, errW_some] <;> rfl), by repeat (first | (with_reducible first | exact HB.out | apply below_alloc | apply pw_below_drewN | apply below_drew1) | exact HB.out)⟩
                      · rw [if_neg c47] at H
                        exact absurd H (by simp)
                    · rw [if_neg c44] at H
                      have c44b0 : (t1019 == 0) = false := beq_eq_false_iff_ne.mpr c44
                      have c44b1 : (t1019 != 0) = true := bne_iff_ne.mpr c44
                      obtain rfl := Option.some.inj H
                      try go_wp2_with (first | ((with_reducible refine gate_callee (f := 27) rfl ?_); refine goesL_ (some 79) rfl rfl Tryd.func27 (by kernel_rfl) rfl #[.slice A1 l1.length c1] rfl (by simp only [List.map_toArray, List.map_cons, List.map_nil] <;> rfl) ?_; (with_reducible refine (gemotlaw13_made.calls kj19 _ _ l1 t1016 _ ?side1 ?side2 A40.out).mono ?_); (case side1 => repeat (first | exact (Kd.C_below HR1.out HB.out) | (with_reducible refine Kd.C_alloc ?_ _) | (with_reducible refine Kd.C_drewN ?_ _) | (with_reducible refine Kd.C_drew ?_))); (case side2 => exact HC1.out); rintro e w56 ⟨rfl, hb⟩; refine ⟨_, rfl, ?_⟩; have n0_ := Aside0.mk (below_step (by repeat with_reducible first | exact HB.out | apply below_alloc | apply pw_below_drewN | apply below_drew1) hb); clear HB; have HB := n0_; clear n0_; (try clear hb)) | ((with_reducible refine gate_callee (f := 28) rfl ?_); refine goesL_ (some 83) rfl rfl Tryd.func28 (by kernel_rfl) rfl #[.int .i64 a2, .int .i64 8] rfl (by simp only [List.map_toArray, List.map_cons, List.map_nil] <;> rfl) ?_; (with_reducible refine (gemotlaw13_pick.calls a2 8 t1017 _ A41.out).mono ?_); rintro e w' ⟨rfl, ⟨nd, rfl⟩⟩; refine ⟨_, rfl, ?_⟩) | ((with_reducible refine gate_callee (f := 10) rfl ?_); refine goesL_ (some 85) rfl rfl Tryd.func10 (by kernel_rfl) rfl #[.string t1016, .int .i64 (wrap64 (1 + t1017))] rfl (by simp only [List.map_toArray, List.map_cons, List.map_nil] <;> rfl) ?_; (with_reducible refine (tree_Join.calls t1016 (wrap64 (1 + t1017)) t1018 t1019 _ A42.out).mono ?_); rintro e w57 ⟨rfl, hb⟩; refine ⟨_, rfl, ?_⟩; have n0_ := Aside0.mk (below_step (by repeat with_reducible first | exact HB.out | apply below_alloc | apply pw_below_drewN | apply below_drew1) hb); clear HB; have HB := n0_; clear n0_; (try clear hb)) | ((with_reducible refine gate_callee (f := 21) rfl ?_); refine goesL_ (some 89) rfl rfl Tryd.func21 (by kernel_rfl) rfl #[.string t1016] rfl (by simp only [List.map_toArray, List.map_cons, List.map_nil] <;> rfl) ?_; (with_reducible refine (tree_Depth.calls t1016 t1020 _ A43.out).mono ?_); rintro e w58 ⟨rfl, hb⟩; refine ⟨_, rfl, ?_⟩; have n0_ := Aside0.mk (below_step (by repeat with_reducible first | exact HB.out | apply below_alloc | apply pw_below_drewN | apply below_drew1) hb); clear HB; have HB := n0_; clear n0_; (try clear hb)))
                      have n0_ := Aside0.mk (below_drew1 HB.out)
                      clear HB; have HB := n0_; clear n0_; refine start_ (n := 16) (S := fun w' => True) (ds := []) #[false, false, false, false, false, false, false, false, false, false, false, false, false, false, false, false] (by kernel_rfl) rfl rfl trivial (fun hHeld => ?_); refine with_tabW gemotlaw13_TreeLow.tab17 gemotlaw13_TreeLow.bits17 (fun HT_ HW_ => ?_)
                      generalize w58.drew = w59 at HB hHeld ⊢
                      refine pure_ (i := 0) (N := some 90) (v := ?_) (a' := ?_) #[true, false, false, false, false, false, false, false, false, false, false, false, false, false, false, false] rfl rfl (any_of HT_.out (by kernel_rfl)) (fun _ _ _ h => h) (Or.inl ⟨by rfl, ?_⟩) ?_ ?_
                      rotate_left
                      · intro w'; go_simp; with_reducible rfl
                      rotate_left; · (simp only [Act.put, List.setIfInBounds_toArray, List.set_cons_zero, List.set_cons_succ, i64_w, i32_w]; rfl)
                      refine pure_ (i := 1) (N := some 91) (v := ?_) (a' := ?_) #[true, true, false, false, false, false, false, false, false, false, false, false, false, false, false, false] rfl rfl (any_of HT_.out (by kernel_rfl)) (fun _ _ _ h => h) (Or.inl ⟨by rfl, ?_⟩) ?_ ?_
                      rotate_left
                      · intro w'; go_simp; with_reducible rfl
                      rotate_left; · (simp only [Act.put, List.setIfInBounds_toArray, List.set_cons_zero, List.set_cons_succ, i64_w, i32_w]; rfl)
                      refine pure_ (i := 2) (N := some 92) (v := ?_) (a' := ?_) #[true, true, true, false, false, false, false, false, false, false, false, false, false, false, false, false] rfl rfl (any_of HT_.out (by kernel_rfl)) (fun _ _ _ h => h) (Or.inl ⟨by rfl, ?_⟩) ?_ ?_
                      rotate_left
                      · intro w'; go_simp; with_reducible rfl
                      rotate_left; · (simp only [Act.put, List.setIfInBounds_toArray, List.set_cons_zero, List.set_cons_succ, i64_w, i32_w]; rfl)
                      refine pure_ (i := 3) (N := some 93) (v := undef) (a' := ?_) #[true, true, true, true, false, false, false, false, false, false, false, false, false, false, false, false] rfl rfl (any_of HT_.out (by kernel_rfl)) (fun _ _ _ h => h) (Or.inr ⟨by rfl, rfl⟩) ?_ ?_
                      rotate_left; · (simp only [Act.put, List.setIfInBounds_toArray, List.set_cons_zero, List.set_cons_succ, i64_w, i32_w]; rfl)
                      refine pure_ (i := 4) (N := some 94) (v := undef) (a' := ?_) #[true, true, true, true, true, false, false, false, false, false, false, false, false, false, false, false] rfl rfl (any_of HT_.out (by kernel_rfl)) (fun _ _ _ h => h) (Or.inr ⟨by rfl, rfl⟩) ?_ ?_
                      rotate_left; · (simp only [Act.put, List.setIfInBounds_toArray, List.set_cons_zero, List.set_cons_succ, i64_w, i32_w]; rfl)
                      refine pure_ (i := 5) (N := some 95) (v := undef) (a' := ?_) #[true, true, true, true, true, true, false, false, false, false, false, false, false, false, false, false] rfl rfl (any_of HT_.out (by kernel_rfl)) (fun _ _ _ h => h) (Or.inr ⟨by rfl, rfl⟩) ?_ ?_
                      rotate_left; · (simp only [Act.put, List.setIfInBounds_toArray, List.set_cons_zero, List.set_cons_succ, i64_w, i32_w]; rfl)
                      refine pure_ (i := 6) (N := some 96) (v := undef) (a' := ?_) #[true, true, true, true, true, true, true, false, false, false, false, false, false, false, false, false] rfl rfl (any_of HT_.out (by kernel_rfl)) (fun _ _ _ h => h) (Or.inr ⟨by rfl, rfl⟩) ?_ ?_
                      rotate_left; · (simp only [Act.put, List.setIfInBounds_toArray, List.set_cons_zero, List.set_cons_succ, i64_w, i32_w]; rfl)
                      refine pure_ (i := 7) (N := some 97) (v := undef) (a' := ?_) #[true, true, true, true, true, true, true, true, false, false, false, false, false, false, false, false] rfl rfl (any_of HT_.out (by kernel_rfl)) (fun _ _ _ h => h) (Or.inr ⟨by rfl, rfl⟩) ?_ ?_
                      rotate_left; · (simp only [Act.put, List.setIfInBounds_toArray, List.set_cons_zero, List.set_cons_succ, i64_w, i32_w]; rfl)
                      refine pure_ (i := 8) (N := some 98) (v := undef) (a' := ?_) #[true, true, true, true, true, true, true, true, true, false, false, false, false, false, false, false] rfl rfl (any_of HT_.out (by kernel_rfl)) (fun _ _ _ h => h) (Or.inr ⟨by rfl, rfl⟩) ?_ ?_
                      rotate_left; · (simp only [Act.put, List.setIfInBounds_toArray, List.set_cons_zero, List.set_cons_succ, i64_w, i32_w]; rfl)
                      refine pure_ (i := 9) (N := some 99) (v := undef) (a' := ?_) #[true, true, true, true, true, true, true, true, true, true, false, false, false, false, false, false] rfl rfl (any_of HT_.out (by kernel_rfl)) (fun _ _ _ h => h) (Or.inr ⟨by rfl, rfl⟩) ?_ ?_
                      rotate_left; · (simp only [Act.put, List.setIfInBounds_toArray, List.set_cons_zero, List.set_cons_succ, i64_w, i32_w]; rfl)
                      refine pure_ (i := 10) (N := some 100) (v := undef) (a' := ?_) #[true, true, true, true, true, true, true, true, true, true, true, false, false, false, false, false] rfl rfl (any_of HT_.out (by kernel_rfl)) (fun _ _ _ h => h) (Or.inr ⟨by rfl, rfl⟩) ?_ ?_
                      rotate_left; · (simp only [Act.put, List.setIfInBounds_toArray, List.set_cons_zero, List.set_cons_succ, i64_w, i32_w]; rfl)
                      refine pure_ (i := 11) (N := some 101) (v := undef) (a' := ?_) #[true, true, true, true, true, true, true, true, true, true, true, true, false, false, false, false] rfl rfl (any_of HT_.out (by kernel_rfl)) (fun _ _ _ h => h) (Or.inr ⟨by rfl, rfl⟩) ?_ ?_
                      rotate_left; · (simp only [Act.put, List.setIfInBounds_toArray, List.set_cons_zero, List.set_cons_succ, i64_w, i32_w]; rfl)
                      refine pure_ (i := 12) (N := some 102) (v := undef) (a' := ?_) #[true, true, true, true, true, true, true, true, true, true, true, true, true, false, false, false] rfl rfl (any_of HT_.out (by kernel_rfl)) (fun _ _ _ h => h) (Or.inr ⟨by rfl, rfl⟩) ?_ ?_
                      rotate_left; · (simp only [Act.put, List.setIfInBounds_toArray, List.set_cons_zero, List.set_cons_succ, i64_w, i32_w]; rfl)
                      refine pure_ (i := 13) (N := some 103) (v := undef) (a' := ?_) #[true, true, true, true, true, true, true, true, true, true, true, true, true, true, false, false] rfl rfl (any_of HT_.out (by kernel_rfl)) (fun _ _ _ h => h) (Or.inr ⟨by rfl, rfl⟩) ?_ ?_
                      rotate_left; · (simp only [Act.put, List.setIfInBounds_toArray, List.set_cons_zero, List.set_cons_succ, i64_w, i32_w]; rfl)
                      refine pure_ (i := 14) (N := some 104) (v := ?_) (a' := ?_) #[true, true, true, true, true, true, true, true, true, true, true, true, true, true, true, false] rfl rfl (any_of HT_.out (by kernel_rfl)) (fun _ _ _ h => h) (Or.inl ⟨by rfl, ?_⟩) ?_ ?_
                      rotate_left
                      · intro w'; go_simp; with_reducible rfl
                      rotate_left; · (simp only [Act.put, List.setIfInBounds_toArray, List.set_cons_zero, List.set_cons_succ, i64_w, i32_w]; rfl)
                      refine pure_ (i := 15) (N := some 6) (v := ?_) (a' := ?_) #[true, true, true, true, true, true, true, true, true, true, true, true, true, true, true, true] rfl rfl (any_of HT_.out (by kernel_rfl)) (fun _ _ _ h => h) (Or.inl ⟨by rfl, ?_⟩) ?_ ?_
                      rotate_left
                      · intro w'; go_simp; with_reducible rfl
                      rotate_left; · (simp only [Act.put, List.setIfInBounds_toArray, List.set_cons_zero, List.set_cons_succ, i64_w, i32_w]; rfl)
                      refine done_ (done_of HT_.out (by kernel_rfl)) ?_
                      try go_wp2
                      go_ret
                      exact ⟨by first | rfl | (simp [errW_none, errW_some] <;> rfl) | (simp [*, errW_none, errW_some] <;> rfl), by repeat (first | (with_reducible first | exact HB.out | apply below_alloc | apply pw_below_drewN | apply below_drew1) | exact HB.out)⟩

/-- THE ONE PURE STATEMENT of gemotlaw13_TreeLow: yours. -/
def gemotlaw13_TreeLow.Pure : Prop := ∀ (a0 : Int) (l1 : List Int) (a2 : Int), (Lit.int .i64 a0).wf = true → l1.length ≤ maxLen → l1.length * 8 ≤ 140737488351232 → (∀ x ∈ l1, (Lit.int .i64 x).wf = true) → (Lit.int .i64 a2).wf = true → ∃ k, gemotlaw13_TreeLow.f k a0 l1 a2 = some true
theorem gemotlaw13_TreeLow.walk (P : gemotlaw13_TreeLow.Pure) (a0 : Int) (a1 : Option Addr) (len1 cap1 : Nat) (z1 : List Int) (a2 : Int) (w : World) (w0 : (Lit.int .i64 a0).wf = true) (w1 : (a1 = none ∧ len1 = 0 ∧ cap1 = 0 ∧ z1 = []) ∨ ∃ x, a1 = some x ∧ len1 ≤ cap1 ∧ cap1 ≤ maxLen ∧ z1.length = cap1 ∧ (∀ i, i < z1.length → w.cell? (x.add i) = some (.int .i64 (z1.getD i 0))) ∧ ∀ n ∈ z1, (Lit.int .i64 n).wf = true) (y1 : len1 * 8 ≤ 140737488351232) (w2 : (Lit.int .i64 a2).wf = true) :
    Calls Tryd.prog 6 #[.int .i64 a0, .slice a1 len1 cap1, .int .i64 a2] w fun e w' => e = .returned (.bool true) ∧ Below w.heap.size w w' := by
  obtain ⟨l1, rfl, hr1, hm1, hw1, hc1⟩ := ReadsInt.ofRowC w1; obtain ⟨k, h⟩ := P a0 l1 a2 w0 hm1 y1 hw1 w2
  refine (gemotlaw13_TreeLow.calls k a0 _ _ l1 a2 true w (Kd.C_of_reads (d := (0 : Int)) (h1 := fun _ => rfl) hr1) hc1 h).mono ?_
  rintro e w' ⟨rfl, hd⟩; exact ⟨rfl, hd⟩

end Go.Proofs.YtiofobdmkkbmlaaDoor.F
