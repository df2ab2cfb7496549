-- Laid by mk.py (a program of this session) over the seat's translation.
import Derived.Test.YtiofobdmkkbmlaaDoorF0
import Derived.Test.YtiofobdmkkbmlaaDoorF12
import Derived.Test.YtiofobdmkkbmlaaDoorF19
import Derived.Test.YtiofobdmkkbmlaaDoorF21
import Derived.Test.YtiofobdmkkbmlaaDoorF23
import Derived.Test.YtiofobdmkkbmlaaDoorF25
import Derived.Test.YtiofobdmkkbmlaaDoorF27
import Derived.Test.YtiofobdmkkbmlaaDoorF29
import Derived.Test.YtiofobdmkkbmlaaDoorF9
namespace Go.Proofs.YtiofobdmkkbmlaaDoor.F
open Go.RowKit Go.Proofs.YtiofobdmkkbmlaaDoorW.PrintWords Go.Proofs.YtiofobdmkkbmlaaDoorW.PrintLast Go.Proofs.YtiofobdmkkbmlaaDoorW.PrintMore
attribute [local go_sem] max2_int min2_int max_two min_two max_three min_three max_four min_four
set_option linter.unusedVariables false
set_option linter.unusedSimpArgs false

/-! ### gemotlaw13_TreeMerged: function 7 -/
mutual
def gemotlaw13_TreeMerged.l0 : Nat → Int → ByteArray → List Int → Int → Option (Bool)
  | 0, _, _, _, _ => none
  | k + 1, x1, x6, x7, x8 => if x8 ≤ 8 then (if 0 ≤ (wrap64 (x8 - 1)) then (if (Go.bits .and .i64 (shr .i64 x1 (wrap64 (x8 - 1))) 1) = 1 then ((tree_Members.f x6).bind fun t1003 => ((gemotref10_Has.f t1003 x8).bind fun t1006 => (if t1006 = true then (gemotlaw13_TreeMerged.l0 k x1 x6 x7 (wrap64 (x8 + 1))) else (if x7.length < 17592186044416 then (gemotlaw13_TreeMerged.l0 k x1 x6 (x7 ++ [x8]) (wrap64 (x8 + 1))) else (none))))) else (gemotlaw13_TreeMerged.l0 k x1 x6 x7 (wrap64 (x8 + 1)))) else (none)) else (if (x7.length : Int) = 0 then ((tree_Merge.f x6 x6).bind fun bt1010 => (some (bt1010.2 == 1))) else ((tree_Build.f k x7).bind fun bt1012 => ((tree_Merge.f x6 bt1012.1).bind fun bt1014 => ((tree_Merge.f bt1012.1 x6).bind fun bt1016 => (if bt1014.2 = 0 then (if bt1016.2 = 0 then (if bt1014.1.toList = bt1016.1.toList then ((tree_Depth.f bt1014.1).bind fun t1018 => ((tree_Depth.f x6).bind fun t1019 => ((tree_Depth.f bt1012.1).bind fun t1020 => (if t1018 = (wrap64 (1 + (mx t1019 t1020))) then ((tree_Members.f bt1014.1).bind fun t1021 => ((tree_Members.f x6).bind fun t1024 => (gemotlaw13_TreeMerged.j1 k x6 x7 bt1014.1 ((t1021.length : Int) != (wrap64 ((t1024.length : Int) + (x7.length : Int))))))) else (gemotlaw13_TreeMerged.j1 k x6 x7 bt1014.1 true))))) else (gemotlaw13_TreeMerged.j1 k x6 x7 bt1014.1 true)) else (gemotlaw13_TreeMerged.j1 k x6 x7 bt1014.1 true)) else (gemotlaw13_TreeMerged.j1 k x6 x7 bt1014.1 true))))))
def gemotlaw13_TreeMerged.j1 : Nat → ByteArray → List Int → ByteArray → Bool → Option (Bool)
  | 0, _, _, _, _ => none
  | k + 1, x6, x7, x13, x105 => if x105 = true then (none) else (gemotlaw13_TreeMerged.l1 k x6 x7 x13 0)
def gemotlaw13_TreeMerged.l1 : Nat → ByteArray → List Int → ByteArray → Int → Option (Bool)
  | 0, _, _, _, _ => none
  | k + 1, x6, x7, x13, x17 => if x17 < (x7.length : Int) then (if 0 ≤ x17 then ((tree_Leave.f x13 (rd x7 x17)).bind fun bt1028 => (if bt1028.2 = 0 then (gemotlaw13_TreeMerged.l1 k x6 x7 bt1028.1 (wrap64 (x17 + 1))) else (none))) else (none)) else (some (x13.toList == x6.toList))
end
def gemotlaw13_TreeMerged.f (k : Nat) (l0 : List Int) (a1 : Int) : Option (Bool) := (gemotlaw13_shown.f k).bind fun t1001 => (if t1001 = true then ((gemotlaw13_made.f k l0).bind fun t1002 => (gemotlaw13_TreeMerged.l0 k a1 t1002 ([] : List Int) 1)) else (none))
theorem gemotlaw13_TreeMerged.mono_l : ∀ k, (∀ y0 y1 y2 y3, LeO (gemotlaw13_TreeMerged.l0 k y0 y1 y2 y3) (gemotlaw13_TreeMerged.l0 (k + 1) y0 y1 y2 y3)) ∧ (∀ y0 y1 y2 y3, LeO (gemotlaw13_TreeMerged.j1 k y0 y1 y2 y3) (gemotlaw13_TreeMerged.j1 (k + 1) y0 y1 y2 y3)) ∧ (∀ y0 y1 y2 y3, LeO (gemotlaw13_TreeMerged.l1 k y0 y1 y2 y3) (gemotlaw13_TreeMerged.l1 (k + 1) y0 y1 y2 y3))
  | 0 => ⟨fun _ _ _ _ r h => by simp [gemotlaw13_TreeMerged.l0] at h, fun _ _ _ _ r h => by simp [gemotlaw13_TreeMerged.j1] at h, fun _ _ _ _ r h => by simp [gemotlaw13_TreeMerged.l1] at h⟩
  | k + 1 => by
    obtain ⟨ih0, ih1, ih2⟩ := gemotlaw13_TreeMerged.mono_l k; refine ⟨?_, ?_, ?_⟩
    · intro y0 y1 y2 y3; unfold gemotlaw13_TreeMerged.l0
      repeat' first
      | (with_reducible exact ih0 _ _ _ _)
      | (with_reducible exact ih1 _ _ _ _)
      | (with_reducible exact ih2 _ _ _ _)
      | (with_reducible exact gemotlaw13_made.mono _ _)
      | (with_reducible exact gemotlaw13_shown.mono _)
      | (with_reducible exact tree_Build.mono _ _)
      | (with_reducible exact LeO.refl _)
      | (with_reducible exact LeO.none _)
      | (with_reducible refine LeO.ite ?_ ?_)
      | (with_reducible refine LeO.bind ?_ (fun _ => ?_))
      | exact ih0 _ _ _ _
      | exact ih1 _ _ _ _
      | exact ih2 _ _ _ _
      | exact gemotlaw13_made.mono _ _
      | exact gemotlaw13_shown.mono _
      | exact tree_Build.mono _ _
      | exact LeO.none _
      | refine LeO.ite ?_ ?_
      | refine LeO.bind ?_ (fun _ => ?_)
    · intro y0 y1 y2 y3; unfold gemotlaw13_TreeMerged.j1
      repeat' first
      | (with_reducible exact ih0 _ _ _ _)
      | (with_reducible exact ih1 _ _ _ _)
      | (with_reducible exact ih2 _ _ _ _)
      | (with_reducible exact gemotlaw13_made.mono _ _)
      | (with_reducible exact gemotlaw13_shown.mono _)
      | (with_reducible exact tree_Build.mono _ _)
      | (with_reducible exact LeO.refl _)
      | (with_reducible exact LeO.none _)
      | (with_reducible refine LeO.ite ?_ ?_)
      | (with_reducible refine LeO.bind ?_ (fun _ => ?_))
      | exact ih0 _ _ _ _
      | exact ih1 _ _ _ _
      | exact ih2 _ _ _ _
      | exact gemotlaw13_made.mono _ _
      | exact gemotlaw13_shown.mono _
      | exact tree_Build.mono _ _
      | exact LeO.none _
      | refine LeO.ite ?_ ?_
      | refine LeO.bind ?_ (fun _ => ?_)
    · intro y0 y1 y2 y3; unfold gemotlaw13_TreeMerged.l1
      repeat' first
      | (with_reducible exact ih0 _ _ _ _)
      | (with_reducible exact ih1 _ _ _ _)
      | (with_reducible exact ih2 _ _ _ _)
      | (with_reducible exact gemotlaw13_made.mono _ _)
      | (with_reducible exact gemotlaw13_shown.mono _)
      | (with_reducible exact tree_Build.mono _ _)
      | (with_reducible exact LeO.refl _)
      | (with_reducible exact LeO.none _)
      | (with_reducible refine LeO.ite ?_ ?_)
      | (with_reducible refine LeO.bind ?_ (fun _ => ?_))
      | exact ih0 _ _ _ _
      | exact ih1 _ _ _ _
      | exact ih2 _ _ _ _
      | exact gemotlaw13_made.mono _ _
      | exact gemotlaw13_shown.mono _
      | exact tree_Build.mono _ _
      | exact LeO.none _
      | refine LeO.ite ?_ ?_
      | refine LeO.bind ?_ (fun _ => ?_)
theorem gemotlaw13_TreeMerged.mono : ∀ a0 a1 k, LeO (gemotlaw13_TreeMerged.f k a0 a1) (gemotlaw13_TreeMerged.f (k + 1) a0 a1) := by
  intro a0 a1 k; obtain ⟨ih0, ih1, ih2⟩ := gemotlaw13_TreeMerged.mono_l k; unfold gemotlaw13_TreeMerged.f
  repeat' first
      | (with_reducible exact ih0 _ _ _ _)
      | (with_reducible exact ih1 _ _ _ _)
      | (with_reducible exact ih2 _ _ _ _)
      | (with_reducible exact gemotlaw13_made.mono _ _)
      | (with_reducible exact gemotlaw13_shown.mono _)
      | (with_reducible exact tree_Build.mono _ _)
      | (with_reducible exact LeO.refl _)
      | (with_reducible exact LeO.none _)
      | (with_reducible refine LeO.ite ?_ ?_)
      | (with_reducible refine LeO.bind ?_ (fun _ => ?_))
      | exact ih0 _ _ _ _
      | exact ih1 _ _ _ _
      | exact ih2 _ _ _ _
      | exact gemotlaw13_made.mono _ _
      | exact gemotlaw13_shown.mono _
      | exact tree_Build.mono _ _
      | exact LeO.none _
      | refine LeO.ite ?_ ?_
      | refine LeO.bind ?_ (fun _ => ?_)
set_option maxHeartbeats 8000000 in
set_option maxRecDepth 100000 in
theorem gemotlaw13_TreeMerged.calls (k : Nat) (A0 : Option Addr) (c0 : Nat) (l0 : List Int) (a1 : Int) (r : Bool) (w : World) (hr0 : Kd.C (Kd.int .i64) w A0 l0.length l0) (hc0 : l0.length ≤ c0) (h : gemotlaw13_TreeMerged.f k l0 a1 = some r) :
    Calls Tryd.prog 7 #[.slice A0 l0.length c0, .int .i64 a1] w fun e w' => e = .returned (.bool r) ∧ Below w.heap.size w w' := by
  have HR0 := Aside0.mk hr0
  have HC0 := Aside0.mk hc0
  clear hr0 hc0; have HB := Aside0.mk (Below.refl w.heap.size w)
  have H : ((gemotlaw13_shown.f k).bind fun t1001 => (if t1001 = true then ((gemotlaw13_made.f k l0).bind fun t1002 => (gemotlaw13_TreeMerged.l0 k a1 t1002 ([] : List Int) 1)) else (none))) = some r := h
  clear h; replace H := Option.bind_eq_some_iff.mp H
  obtain ⟨t1001, A30, H⟩ := H; replace H : (if t1001 = true then ((gemotlaw13_made.f k l0).bind fun t1002 => (gemotlaw13_TreeMerged.l0 k a1 t1002 ([] : List Int) 1)) else (none)) = some r := H
  have A3 := Aside0.mk A30
  clear A30; by_cases c4 : t1001 = true
  · subst c4; have H1 : ((gemotlaw13_made.f k l0).bind fun t1002 => (gemotlaw13_TreeMerged.l0 k a1 t1002 ([] : List Int) 1)) = some r := by rw [if_pos rfl] at H; exact H
    clear H; have H := H1; clear H1; replace H := Option.bind_eq_some_iff.mp H
    obtain ⟨t1002, A50, H⟩ := H; replace H : (gemotlaw13_TreeMerged.l0 k a1 t1002 ([] : List Int) 1) = some r := H
    have A5 := Aside0.mk A50
    clear A50; have H' := Aside0.mk H
    clear H; go_enter Tryd.func7, Tryd.ntmps7
    go_wp2_with (first | ((with_reducible refine gate_callee (f := 9) rfl ?_); refine goesL_ (some 18) rfl rfl Tryd.func9 (by kernel_rfl) rfl #[] rfl (by simp only [List.map_toArray, List.map_cons, List.map_nil] <;> rfl) ?_; (with_reducible refine (gemotlaw13_shown.calls k  true _ A3.out).mono ?_); rintro e w6 ⟨rfl, hb⟩; refine ⟨_, rfl, ?_⟩; have n0_ := Aside0.mk (below_step (by repeat with_reducible first | exact HB.out | apply below_alloc | apply pw_below_drewN | apply below_drew1) hb); clear HB; have HB := n0_; clear n0_; (try clear hb)) | ((with_reducible refine gate_callee (f := 27) rfl ?_); refine goesL_ (some 22) rfl rfl Tryd.func27 (by kernel_rfl) rfl #[.slice A0 l0.length c0] rfl (by simp only [List.map_toArray, List.map_cons, List.map_nil] <;> rfl) ?_; (with_reducible refine (gemotlaw13_made.calls k _ _ l0 t1002 _ ?side1 ?side2 A5.out).mono ?_); (case side1 => repeat (first | exact (Kd.C_below HR0.out HB.out) | (with_reducible refine Kd.C_alloc ?_ _) | (with_reducible refine Kd.C_drewN ?_ _) | (with_reducible refine Kd.C_drew ?_))); (case side2 => exact HC0.out); rintro e w7 ⟨rfl, hb⟩; refine ⟨_, rfl, ?_⟩; have n0_ := Aside0.mk (below_step (by repeat with_reducible first | exact HB.out | apply below_alloc | apply pw_below_drewN | apply below_drew1) hb); clear HB; have HB := n0_; clear n0_; (try clear hb)))
    go_loopg [7, 8] k (fun kq v7 v8 w' => ∃ (x7_1 : List Int) (x8_1 : Int), v8 = .int .i64 x8_1 ∧ Aside0 (gemotlaw13_TreeMerged.l0 kq a1 t1002 x7_1 x8_1 = some r) ∧ Aside0 (kq ≤ k) ∧ Aside0 (Kd.R (Kd.int .i64) 3 w' w.heap.size (fun _ => True) v7 x7_1) ∧ Aside0 (Below w.heap.size w w'))
    case atStart => exact ⟨(([] : List Int)), (1), (by first | rfl | (simp; done) | (simp [*]; done)), H', ⟨Nat.le_refl _⟩, ⟨by first | exact Kd.R_nil _ _ _ _ _ | exact Kd.N_nil _ _ _ _ _ | exact Kd.V_nil _ _ _ _ _ | exact Kd.Q_nil _ _ _ _ _ | exact Kd.S_nil _ _ _ _ _⟩, ⟨by repeat (first | (with_reducible first | exact HB.out | apply below_alloc | apply pw_below_drewN | apply below_drew1) | exact HB.out)⟩⟩
    case round =>
      clear H'; try clear c2
      try clear p2
      try clear c4
      try clear c7
      obtain ⟨x7_1, x8_1, rfl, HA, HK1, HO_7, HB⟩ := hrel; cases gk with
      | zero => exact absurd HA.out (by simp [gemotlaw13_TreeMerged.l0])
      | succ k1 =>
        have H := HA.out; clear HA; simp only [gemotlaw13_TreeMerged.l0] at H; by_cases c8 : x8_1 ≤ 8
        · rw [if_pos c8] at H
          have c8b0 : decide (x8_1 ≤ 8) = true := decide_eq_true c8
          clear c8; obtain ⟨ji9, hji9⟩ : ∃ j_ : Int, (wrap64 (x8_1 - 1)) = j_ := ⟨_, rfl⟩
          replace H : (if 0 ≤ (ji9) then (if (Go.bits .and .i64 (shr .i64 a1 (ji9)) 1) = 1 then ((tree_Members.f t1002).bind fun t1003 => ((gemotref10_Has.f t1003 x8_1).bind fun t1006 => (if t1006 = true then (gemotlaw13_TreeMerged.l0 k1 a1 t1002 x7_1 (wrap64 (x8_1 + 1))) else (if x7_1.length < 17592186044416 then (gemotlaw13_TreeMerged.l0 k1 a1 t1002 (x7_1 ++ [x8_1]) (wrap64 (x8_1 + 1))) else (none))))) else (gemotlaw13_TreeMerged.l0 k1 a1 t1002 x7_1 (wrap64 (x8_1 + 1)))) else (none)) = some r := by first | (rw [hji9] at H; exact H) | (simp only [hji9] at H ⊢; exact H)
          have hji9w : (IntKind.i64.wrap (x8_1 - 1)) = ji9 := (i64_w _).trans hji9
          by_cases c10 : 0 ≤ (ji9)
          · rw [if_pos c10] at H
            have c10b0 := eq_true c10
            have c10b1 : decide (0 ≤ (ji9)) = true := decide_eq_true c10
            clear c10; obtain ⟨ji11, hji11⟩ : ∃ j_ : Int, (shr .i64 a1 (ji9)) = j_ := ⟨_, rfl⟩
            replace H : (if (Go.bits .and .i64 (ji11) 1) = 1 then ((tree_Members.f t1002).bind fun t1003 => ((gemotref10_Has.f t1003 x8_1).bind fun t1006 => (if t1006 = true then (gemotlaw13_TreeMerged.l0 k1 a1 t1002 x7_1 (wrap64 (x8_1 + 1))) else (if x7_1.length < 17592186044416 then (gemotlaw13_TreeMerged.l0 k1 a1 t1002 (x7_1 ++ [x8_1]) (wrap64 (x8_1 + 1))) else (none))))) else (gemotlaw13_TreeMerged.l0 k1 a1 t1002 x7_1 (wrap64 (x8_1 + 1)))) = some r := by first | (rw [hji11] at H; exact H) | (simp only [hji11] at H ⊢; exact H)
            have hji11_ : (a1 / 2 ^ min (ji9).toNat 64) = ji11 := hji11
            have hji11z : (ji9) ≤ 64 → (a1 / 2 ^ (ji9).toNat) = ji11 := shr_small hji11
            by_cases c12 : (Go.bits .and .i64 (ji11) 1) = 1
            · rw [if_pos c12] at H
              have c12b0 : ((Go.bits .and .i64 (ji11) 1) == 1) = true := beq_iff_eq.mpr c12
              have c12b1 : ((Go.bits .and .i64 (ji11) 1) != 1) = false := bne_eq_false_iff_eq.mpr c12
              clear c12; replace H := Option.bind_eq_some_iff.mp H
              obtain ⟨t1003, A130, H⟩ := H; replace H : ((gemotref10_Has.f t1003 x8_1).bind fun t1006 => (if t1006 = true then (gemotlaw13_TreeMerged.l0 k1 a1 t1002 x7_1 (wrap64 (x8_1 + 1))) else (if x7_1.length < 17592186044416 then (gemotlaw13_TreeMerged.l0 k1 a1 t1002 (x7_1 ++ [x8_1]) (wrap64 (x8_1 + 1))) else (none)))) = some r := H
              have A13 := Aside0.mk A130
              clear A130; replace H := Option.bind_eq_some_iff.mp H
              obtain ⟨t1006, A140, H⟩ := H; replace H : (if t1006 = true then (gemotlaw13_TreeMerged.l0 k1 a1 t1002 x7_1 (wrap64 (x8_1 + 1))) else (if x7_1.length < 17592186044416 then (gemotlaw13_TreeMerged.l0 k1 a1 t1002 (x7_1 ++ [x8_1]) (wrap64 (x8_1 + 1))) else (none))) = some r := H
              have A14 := Aside0.mk A140
              clear A140; by_cases c15 : t1006 = true
              · subst c15; have H1 : (gemotlaw13_TreeMerged.l0 k1 a1 t1002 x7_1 (wrap64 (x8_1 + 1))) = some r := by rw [if_pos rfl] at H; exact H
                clear H; have H := H1; clear H1; have H' := Aside0.mk H
                clear H; go_wp2_with (first | (go_at_call 19; (with_reducible refine (tree_Members.calls t1002 t1003 _ A13.out).mono ?_); rintro e w16 ⟨v1004, rfl, ho0, hb⟩; have n0_ := Aside0.mk (Kd.R_elder' (by (with_reducible repeat (first | apply Kd.R_alloc | apply Kd.R_drewN | apply Kd.R_drew)); exact HO_7.out) (Kd.R_base ho0) hb); have n1_ := Aside0.mk (Kd.R_lower (Kd.R_new' ho0 (Kd.R_lt (by (with_reducible repeat (first | apply Kd.R_alloc | apply Kd.R_drewN | apply Kd.R_drew)); exact HO_7.out))) (below_size (by repeat with_reducible first | exact HB.out | apply below_alloc | apply pw_below_drewN | apply below_drew1))); have n2_ := Aside0.mk (below_step (by repeat with_reducible first | exact HB.out | apply below_alloc | apply pw_below_drewN | apply below_drew1) hb); clear HO_7; clear HB; have HO_7 := n0_; have HO1005 := n1_; have HB := n2_; clear n0_ n1_ n2_; (try clear hb); (try clear ho0); obtain ⟨Ao17, co17, eo17⟩ := Kd.R_slice HO1005.out; subst eo17) | (go_at_call 29; (with_reducible refine (gemotref10_Has.calls _ _ t1003 x8_1 true _ ?side1 ?side2 A14.out).mono ?_); (case side1 => repeat (first | exact (Kd.R_reads' HO1005.out).2.2 | (with_reducible refine Kd.C_alloc ?_ _) | (with_reducible refine Kd.C_drewN ?_ _) | (with_reducible refine Kd.C_drew ?_))); (case side2 => exact (Kd.R_reads' HO1005.out).2.1); rintro e w' ⟨rfl, ⟨nd, rfl⟩⟩))
                go_roundg k1
                case measure => have := HK1.out; omega
                case rel => exact ⟨(x7_1), (wrap64 (x8_1 + 1)), (by first | rfl | (simp; done) | (simp [*]; done)), H', ⟨by have := HK1.out; omega⟩, ⟨by (with_reducible repeat (first | apply Kd.R_alloc | apply Kd.R_drewN | apply Kd.R_drew)); exact Kd.R_mono HO_7.out (fun _ hk => trivial)⟩, ⟨by repeat (first | (with_reducible first | exact HB.out | apply below_alloc | apply pw_below_drewN | apply below_drew1) | exact HB.out)⟩⟩
              · replace c15 := Bool.eq_false_iff.mpr c15
                subst c15; have H1 : (if x7_1.length < 17592186044416 then (gemotlaw13_TreeMerged.l0 k1 a1 t1002 (x7_1 ++ [x8_1]) (wrap64 (x8_1 + 1))) else (none)) = some r := by rw [if_neg (show ¬ (false = true) by decide)] at H; exact H
                clear H; have H := H1; clear H1; by_cases c18 : x7_1.length < 17592186044416
                · rw [if_pos c18] at H
                  have LMc18 := Aside0.mk c18
                  clear c18; obtain ⟨y1007, hy1007⟩ : ∃ y_ : List Int, y_ = (x7_1 ++ [x8_1]) := ⟨_, rfl⟩
                  replace H : (gemotlaw13_TreeMerged.l0 k1 a1 t1002 y1007 (wrap64 (x8_1 + 1))) = some r := by first | (rw [hy1007]; with_reducible exact H) | (have H2_ := (Option.bind_some _ _).symm.trans H; rw [hy1007]; with_reducible exact H2_) | (have H2_ := (Option.bind_some _ _).symm.trans H; with_reducible exact H2_) | with_reducible exact H | (rw [hy1007]; exact H) | exact H
                  have Ny1007 := Aside0.mk hy1007
                  clear hy1007; have H' := Aside0.mk H
                  clear H; go_wp2_with (first | (go_at_call 19; (with_reducible refine (tree_Members.calls t1002 t1003 _ A13.out).mono ?_); rintro e w19 ⟨v1004, rfl, ho0, hb⟩; have n0_ := Aside0.mk (Kd.R_elder' (by (with_reducible repeat (first | apply Kd.R_alloc | apply Kd.R_drewN | apply Kd.R_drew)); exact HO_7.out) (Kd.R_base ho0) hb); have n1_ := Aside0.mk (Kd.R_lower (Kd.R_new' ho0 (Kd.R_lt (by (with_reducible repeat (first | apply Kd.R_alloc | apply Kd.R_drewN | apply Kd.R_drew)); exact HO_7.out))) (below_size (by repeat with_reducible first | exact HB.out | apply below_alloc | apply pw_below_drewN | apply below_drew1))); have n2_ := Aside0.mk (below_step (by repeat with_reducible first | exact HB.out | apply below_alloc | apply pw_below_drewN | apply below_drew1) hb); clear HO_7; clear HB; have HO_7 := n0_; have HO1005 := n1_; have HB := n2_; clear n0_ n1_ n2_; (try clear hb); (try clear ho0); obtain ⟨Ao20, co20, eo20⟩ := Kd.R_slice HO1005.out; subst eo20) | (go_at_call 29; (with_reducible refine (gemotref10_Has.calls _ _ t1003 x8_1 false _ ?side1 ?side2 A14.out).mono ?_); (case side1 => repeat (first | exact (Kd.R_reads' HO1005.out).2.2 | (with_reducible refine Kd.C_alloc ?_ _) | (with_reducible refine Kd.C_drewN ?_ _) | (with_reducible refine Kd.C_drew ?_))); (case side2 => exact (Kd.R_reads' HO1005.out).2.1); rintro e w' ⟨rfl, ⟨nd, rfl⟩⟩) | ((with_reducible refine gate_builtin (b := .append) (xs := #[.tmp 40, .tmp 42]) rfl ?_); at_builtin; refine Kd.R_append (Kd.int .i64) (w0 := w) w.heap.size rfl (.tmp 40) (.tmp 42) 34 3 (.int .i64 0) 8 rfl Tryd.underlying34 info3 rfl (by decide) (by omega) u7 x7_1 x8_1 [.int .i64 x8_1] (fun k_ => some k_ ≠ (.slice Ao20 t1003.length co20 : Value).ownBlock) (fun _ => False) rfl rfl ?aP (fun _ hk => hk.elim) ?aF ?aO ?aB ?aS ?aL ?_; (case aP => exact rfl); (case aB => exact (by repeat with_reducible first | exact HB.out | apply below_alloc | apply pw_below_drewN | apply below_drew1)); (case aF => exact (fun k_ hk => Kd.fresh' (Kd.R_lt (by (with_reducible repeat (first | apply Kd.R_alloc | apply Kd.R_drewN | apply Kd.R_drew)); exact HO1005.out)) k_ hk)); (case aO => exact (by (with_reducible repeat (first | apply Kd.R_alloc | apply Kd.R_drewN | apply Kd.R_drew)); exact Kd.R_mono HO_7.out (fun _ hk => hk.2))); (case aS => exact (below_size (by repeat with_reducible first | exact HB.out | apply below_alloc | apply pw_below_drewN | apply below_drew1))); (case aL => have := LMc18.out; omega); intro v1008 w21 ho hb hg hat; rw [← Ny1007.out] at ho; have n0_ := Aside0.mk (Kd.R_after (ok := (fun _ => True)) (by (with_reducible repeat (first | apply Kd.R_alloc | apply Kd.R_drewN | apply Kd.R_drew)); exact HO1005.out) hg hat); have n1_ := Aside0.mk (hb); have n2_ := Aside0.mk (ho); clear HO1005; clear HB; clear HO_7; have HO1005 := n0_; have HB := n1_; have HO1009 := n2_; clear n0_ n1_ n2_; clear ho hb hg hat))
                  go_roundg k1
                  case measure => have := HK1.out; omega
                  case rel => exact ⟨(y1007), (wrap64 (x8_1 + 1)), (by first | rfl | (simp; done) | (simp [*]; done)), H', ⟨by have := HK1.out; omega⟩, ⟨by (with_reducible repeat (first | apply Kd.R_alloc | apply Kd.R_drewN | apply Kd.R_drew)); exact Kd.R_mono HO1009.out (fun _ hk => trivial)⟩, ⟨by repeat (first | (with_reducible first | exact HB.out | apply below_alloc | apply pw_below_drewN | apply below_drew1) | exact HB.out)⟩⟩
                · rw [if_neg c18] at H
                  exact absurd H (by simp)
            · rw [if_neg c12] at H
              have c12b0 : ((Go.bits .and .i64 (ji11) 1) == 1) = false := beq_eq_false_iff_ne.mpr c12
              have c12b1 : ((Go.bits .and .i64 (ji11) 1) != 1) = true := bne_iff_ne.mpr c12
              have H' := Aside0.mk H
              clear H; go_wp2; go_roundg k1
              case measure => have := HK1.out; omega
              case rel => exact ⟨(x7_1), (wrap64 (x8_1 + 1)), (by first | rfl | (simp; done) | (simp [*]; done)), H', ⟨by have := HK1.out; omega⟩, ⟨by (with_reducible repeat (first | apply Kd.R_alloc | apply Kd.R_drewN | apply Kd.R_drew)); exact HO_7.out⟩, ⟨by repeat (first | (with_reducible first | exact HB.out | apply below_alloc | apply pw_below_drewN | apply below_drew1) | exact HB.out)⟩⟩
          · rw [if_neg c10] at H
            exact absurd H (by simp)
        · rw [if_neg c8] at H
          have c8b0 : decide (x8_1 ≤ 8) = false := decide_eq_false c8
          clear c8; by_cases c22 : (x7_1.length : Int) = 0
          · rw [if_pos c22] at H
            have c22b0 : ((x7_1.length : Int) == 0) = true := beq_iff_eq.mpr c22
            have c22b1 : ((x7_1.length : Int) != 0) = false := bne_eq_false_iff_eq.mpr c22
            clear c22; replace H := Option.bind_eq_some_iff.mp H
            obtain ⟨⟨t1010, t1011⟩, A230, H⟩ := H
            replace H : (some (t1011 == 1)) = some r := H
            have A23 := Aside0.mk A230
            clear A230; obtain rfl := Option.some.inj H
            obtain ⟨Ao24, co24, eo24⟩ := Kd.R_slice HO_7.out; subst eo24; go_wp2_with (first | ((with_reducible refine gate_callee (f := 23) rfl ?_); refine goesL_ (some 50) rfl rfl Tryd.func23 (by kernel_rfl) rfl #[.string t1002, .string t1002] rfl (by simp only [List.map_toArray, List.map_cons, List.map_nil] <;> rfl) ?_; (with_reducible refine (tree_Merge.calls t1002 t1002 t1010 t1011 _ A23.out).mono ?_); rintro e w25 ⟨rfl, hb⟩; refine ⟨_, rfl, ?_⟩; have n0_ := Aside0.mk (Kd.R_below (by (with_reducible repeat (first | apply Kd.R_alloc | apply Kd.R_drewN | apply Kd.R_drew)); exact HO_7.out) hb); have n1_ := Aside0.mk (below_step (by repeat with_reducible first | exact HB.out | apply below_alloc | apply pw_below_drewN | apply below_drew1) hb); clear HO_7; clear HB; have HO_7 := n0_; have HB := n1_; clear n0_ n1_; (try clear hb)))
            go_ret
            exact ⟨by first | rfl | (simp [errW_none, errW_some] <;> rfl) | (simp [*, errW_none, errW_some] <;> rfl), by repeat (first | (with_reducible first | exact HB.out | apply below_alloc | apply pw_below_drewN | apply below_drew1) | exact HB.out)⟩
          · rw [if_neg c22] at H
            have c22b0 : ((x7_1.length : Int) == 0) = false := beq_eq_false_iff_ne.mpr c22
            have c22b1 : ((x7_1.length : Int) != 0) = true := bne_iff_ne.mpr c22
            have c22b2 : ¬ (x7_1 = []) := fun h_ => c22 (by rw [h_]; rfl)
            replace H := Option.bind_eq_some_iff.mp H
            obtain ⟨⟨t1012, t1013⟩, A260, H⟩ := H
            replace H : ((tree_Merge.f t1002 t1012).bind fun bt1014 => ((tree_Merge.f t1012 t1002).bind fun bt1016 => (if bt1014.2 = 0 then (if bt1016.2 = 0 then (if bt1014.1.toList = bt1016.1.toList then ((tree_Depth.f bt1014.1).bind fun t1018 => ((tree_Depth.f t1002).bind fun t1019 => ((tree_Depth.f t1012).bind fun t1020 => (if t1018 = (wrap64 (1 + (mx t1019 t1020))) then ((tree_Members.f bt1014.1).bind fun t1021 => ((tree_Members.f t1002).bind fun t1024 => (gemotlaw13_TreeMerged.j1 k1 t1002 x7_1 bt1014.1 ((t1021.length : Int) != (wrap64 ((t1024.length : Int) + (x7_1.length : Int))))))) else (gemotlaw13_TreeMerged.j1 k1 t1002 x7_1 bt1014.1 true))))) else (gemotlaw13_TreeMerged.j1 k1 t1002 x7_1 bt1014.1 true)) else (gemotlaw13_TreeMerged.j1 k1 t1002 x7_1 bt1014.1 true)) else (gemotlaw13_TreeMerged.j1 k1 t1002 x7_1 bt1014.1 true)))) = some r := H
            have A26 := Aside0.mk A260
            clear A260; replace H := Option.bind_eq_some_iff.mp H
            obtain ⟨⟨t1014, t1015⟩, A270, H⟩ := H
            replace H : ((tree_Merge.f t1012 t1002).bind fun bt1016 => (if t1015 = 0 then (if bt1016.2 = 0 then (if t1014.toList = bt1016.1.toList then ((tree_Depth.f t1014).bind fun t1018 => ((tree_Depth.f t1002).bind fun t1019 => ((tree_Depth.f t1012).bind fun t1020 => (if t1018 = (wrap64 (1 + (mx t1019 t1020))) then ((tree_Members.f t1014).bind fun t1021 => ((tree_Members.f t1002).bind fun t1024 => (gemotlaw13_TreeMerged.j1 k1 t1002 x7_1 t1014 ((t1021.length : Int) != (wrap64 ((t1024.length : Int) + (x7_1.length : Int))))))) else (gemotlaw13_TreeMerged.j1 k1 t1002 x7_1 t1014 true))))) else (gemotlaw13_TreeMerged.j1 k1 t1002 x7_1 t1014 true)) else (gemotlaw13_TreeMerged.j1 k1 t1002 x7_1 t1014 true)) else (gemotlaw13_TreeMerged.j1 k1 t1002 x7_1 t1014 true))) = some r := H
            have A27 := Aside0.mk A270
            clear A270; replace H := Option.bind_eq_some_iff.mp H
            obtain ⟨⟨t1016, t1017⟩, A280, H⟩ := H
            replace H : (if t1015 = 0 then (if t1017 = 0 then (if t1014.toList = t1016.toList then ((tree_Depth.f t1014).bind fun t1018 => ((tree_Depth.f t1002).bind fun t1019 => ((tree_Depth.f t1012).bind fun t1020 => (if t1018 = (wrap64 (1 + (mx t1019 t1020))) then ((tree_Members.f t1014).bind fun t1021 => ((tree_Members.f t1002).bind fun t1024 => (gemotlaw13_TreeMerged.j1 k1 t1002 x7_1 t1014 ((t1021.length : Int) != (wrap64 ((t1024.length : Int) + (x7_1.length : Int))))))) else (gemotlaw13_TreeMerged.j1 k1 t1002 x7_1 t1014 true))))) else (gemotlaw13_TreeMerged.j1 k1 t1002 x7_1 t1014 true)) else (gemotlaw13_TreeMerged.j1 k1 t1002 x7_1 t1014 true)) else (gemotlaw13_TreeMerged.j1 k1 t1002 x7_1 t1014 true)) = some r := H
            have A28 := Aside0.mk A280
            clear A280; have HC29 := Aside0.mk H
            clear H; obtain ⟨Ao30, co30, eo30⟩ := Kd.R_slice HO_7.out; subst eo30; go_upto_region 17 with (first | ((with_reducible refine gate_callee (f := 25) rfl ?_); refine goesL_ (some 57) rfl rfl Tryd.func25 (by kernel_rfl) rfl #[.slice Ao30 x7_1.length co30] rfl (by simp only [List.map_toArray, List.map_cons, List.map_nil] <;> rfl) ?_; (with_reducible refine (tree_Build.calls k1 _ _ x7_1 t1012 t1013 _ ?side1 ?side2 A26.out).mono ?_); (case side1 => repeat (first | exact (Kd.R_reads' HO_7.out).2.2 | (with_reducible refine Kd.C_alloc ?_ _) | (with_reducible refine Kd.C_drewN ?_ _) | (with_reducible refine Kd.C_drew ?_))); (case side2 => exact (Kd.R_reads' HO_7.out).2.1); rintro e w31 ⟨rfl, hb⟩; refine ⟨_, rfl, ?_⟩; have n0_ := Aside0.mk (Kd.R_below (by (with_reducible repeat (first | apply Kd.R_alloc | apply Kd.R_drewN | apply Kd.R_drew)); exact HO_7.out) hb); have n1_ := Aside0.mk (below_step (by repeat with_reducible first | exact HB.out | apply below_alloc | apply pw_below_drewN | apply below_drew1) hb); clear HO_7; clear HB; have HO_7 := n0_; have HB := n1_; clear n0_ n1_; (try clear hb)) | ((with_reducible refine gate_callee (f := 23) rfl ?_); refine goesL_ (some 63) rfl rfl Tryd.func23 (by kernel_rfl) rfl #[.string t1002, .string t1012] rfl (by simp only [List.map_toArray, List.map_cons, List.map_nil] <;> rfl) ?_; (with_reducible refine (tree_Merge.calls t1002 t1012 t1014 t1015 _ A27.out).mono ?_); rintro e w32 ⟨rfl, hb⟩; refine ⟨_, rfl, ?_⟩; have n0_ := Aside0.mk (Kd.R_below (by (with_reducible repeat (first | apply Kd.R_alloc | apply Kd.R_drewN | apply Kd.R_drew)); exact HO_7.out) hb); have n1_ := Aside0.mk (below_step (by repeat with_reducible first | exact HB.out | apply below_alloc | apply pw_below_drewN | apply below_drew1) hb); clear HO_7; clear HB; have HO_7 := n0_; have HB := n1_; clear n0_ n1_; (try clear hb)) | ((with_reducible refine gate_callee (f := 23) rfl ?_); refine goesL_ (some 69) rfl rfl Tryd.func23 (by kernel_rfl) rfl #[.string t1012, .string t1002] rfl (by simp only [List.map_toArray, List.map_cons, List.map_nil] <;> rfl) ?_; (with_reducible refine (tree_Merge.calls t1012 t1002 t1016 t1017 _ A28.out).mono ?_); rintro e w33 ⟨rfl, hb⟩; refine ⟨_, rfl, ?_⟩; have n0_ := Aside0.mk (Kd.R_below (by (with_reducible repeat (first | apply Kd.R_alloc | apply Kd.R_drewN | apply Kd.R_drew)); exact HO_7.out) hb); have n1_ := Aside0.mk (below_step (by repeat with_reducible first | exact HB.out | apply below_alloc | apply pw_below_drewN | apply below_drew1) hb); clear HO_7; clear HB; have HO_7 := n0_; have HB := n1_; clear n0_ n1_; (try clear hb)))
            (try simp only [Act.put, List.setIfInBounds_toArray, List.set_cons_zero, List.set_cons_succ]); go_cut [105] (fun v105 wc => ∃ (kq : Nat) (x105_28 : Bool), v105 = .bool x105_28 ∧ Aside0 (gemotlaw13_TreeMerged.j1 kq t1002 x7_1 t1014 x105_28 = some r) ∧ Aside0 (kq ≤ k1) ∧ Aside0 (Kd.R (Kd.int .i64) 3 wc w.heap.size (fun _ => True) (.slice Ao30 x7_1.length co30) x7_1) ∧ Aside0 (Below w.heap.size w wc))
            case first =>
              have H := HC29.out; clear HC29; by_cases c34 : t1015 = 0
              · rw [if_pos c34] at H
                have c34b0 : (t1015 == 0) = true := beq_iff_eq.mpr c34
                have c34b1 : (t1015 != 0) = false := bne_eq_false_iff_eq.mpr c34
                clear c34; (first | rw [c34b0] | (simp only [i64_w, i32_w]; rw [c34b0]) | skip); by_cases c35 : t1017 = 0
                · rw [if_pos c35] at H
                  have c35b0 : (t1017 == 0) = true := beq_iff_eq.mpr c35
                  have c35b1 : (t1017 != 0) = false := bne_eq_false_iff_eq.mpr c35
                  clear c35; by_cases c36 : t1014.toList = t1016.toList
                  · rw [if_pos c36] at H
                    have c36b0 : (t1014.toList == t1016.toList) = true := beq_iff_eq.mpr c36
                    have c36b1 : (t1014.toList != t1016.toList) = false := bne_eq_false_iff_eq.mpr c36
                    clear c36; replace H := Option.bind_eq_some_iff.mp H
                    obtain ⟨t1018, A370, H⟩ := H; replace H : ((tree_Depth.f t1002).bind fun t1019 => ((tree_Depth.f t1012).bind fun t1020 => (if t1018 = (wrap64 (1 + (mx t1019 t1020))) then ((tree_Members.f t1014).bind fun t1021 => ((tree_Members.f t1002).bind fun t1024 => (gemotlaw13_TreeMerged.j1 k1 t1002 x7_1 t1014 ((t1021.length : Int) != (wrap64 ((t1024.length : Int) + (x7_1.length : Int))))))) else (gemotlaw13_TreeMerged.j1 k1 t1002 x7_1 t1014 true)))) = some r := H
                    have A37 := Aside0.mk A370
                    clear A370; replace H := Option.bind_eq_some_iff.mp H
                    obtain ⟨t1019, A380, H⟩ := H; replace H : ((tree_Depth.f t1012).bind fun t1020 => (if t1018 = (wrap64 (1 + (mx t1019 t1020))) then ((tree_Members.f t1014).bind fun t1021 => ((tree_Members.f t1002).bind fun t1024 => (gemotlaw13_TreeMerged.j1 k1 t1002 x7_1 t1014 ((t1021.length : Int) != (wrap64 ((t1024.length : Int) + (x7_1.length : Int))))))) else (gemotlaw13_TreeMerged.j1 k1 t1002 x7_1 t1014 true))) = some r := H
                    have A38 := Aside0.mk A380
                    clear A380; replace H := Option.bind_eq_some_iff.mp H
                    obtain ⟨t1020, A390, H⟩ := H; replace H : (if t1018 = (wrap64 (1 + (mx t1019 t1020))) then ((tree_Members.f t1014).bind fun t1021 => ((tree_Members.f t1002).bind fun t1024 => (gemotlaw13_TreeMerged.j1 k1 t1002 x7_1 t1014 ((t1021.length : Int) != (wrap64 ((t1024.length : Int) + (x7_1.length : Int))))))) else (gemotlaw13_TreeMerged.j1 k1 t1002 x7_1 t1014 true)) = some r := H
                    have A39 := Aside0.mk A390
                    clear A390; obtain ⟨ji40, hji40⟩ : ∃ j_ : Int, (mx t1019 t1020) = j_ := ⟨_, rfl⟩
                    replace H : (if t1018 = (wrap64 (1 + (ji40))) then ((tree_Members.f t1014).bind fun t1021 => ((tree_Members.f t1002).bind fun t1024 => (gemotlaw13_TreeMerged.j1 k1 t1002 x7_1 t1014 ((t1021.length : Int) != (wrap64 ((t1024.length : Int) + (x7_1.length : Int))))))) else (gemotlaw13_TreeMerged.j1 k1 t1002 x7_1 t1014 true)) = some r := by first | (rw [hji40] at H; exact H) | (simp only [hji40] at H ⊢; exact H)
                    (try rw [hji40] at A37); (try rw [hji40] at A38); (try rw [hji40] at A39); have hji40_ : (if t1019 < t1020 then t1020 else t1019) = ji40 := hji40
                    by_cases c41 : t1018 = (wrap64 (1 + (ji40)))
                    · rw [if_pos c41] at H
                      have c41b0 : (t1018 == (wrap64 (1 + (ji40)))) = true := beq_iff_eq.mpr c41
                      have c41b1 : (t1018 != (wrap64 (1 + (ji40)))) = false := bne_eq_false_iff_eq.mpr c41
                      clear c41; replace H := Option.bind_eq_some_iff.mp H
                      obtain ⟨t1021, A420, H⟩ := H; replace H : ((tree_Members.f t1002).bind fun t1024 => (gemotlaw13_TreeMerged.j1 k1 t1002 x7_1 t1014 ((t1021.length : Int) != (wrap64 ((t1024.length : Int) + (x7_1.length : Int)))))) = some r := H
                      have A42 := Aside0.mk A420
                      clear A420; replace H := Option.bind_eq_some_iff.mp H
                      obtain ⟨t1024, A430, H⟩ := H; replace H : (gemotlaw13_TreeMerged.j1 k1 t1002 x7_1 t1014 ((t1021.length : Int) != (wrap64 ((t1024.length : Int) + (x7_1.length : Int))))) = some r := H
                      have A43 := Aside0.mk A430
                      clear A430; have H' := Aside0.mk H
                      clear H; go_wp2_with (first | (go_at_call 21; (with_reducible refine (tree_Depth.calls t1014 t1018 _ A37.out).mono ?_); rintro e w44 ⟨rfl, hb⟩; have n0_ := Aside0.mk (Kd.R_below (by (with_reducible repeat (first | apply Kd.R_alloc | apply Kd.R_drewN | apply Kd.R_drew)); exact HO_7.out) hb); have n1_ := Aside0.mk (below_step (by repeat with_reducible first | exact HB.out | apply below_alloc | apply pw_below_drewN | apply below_drew1) hb); clear HO_7; clear HB; have HO_7 := n0_; have HB := n1_; clear n0_ n1_; (try clear hb)) | (go_at_call 21; (with_reducible refine (tree_Depth.calls t1002 t1019 _ A38.out).mono ?_); rintro e w45 ⟨rfl, hb⟩; have n0_ := Aside0.mk (Kd.R_below (by (with_reducible repeat (first | apply Kd.R_alloc | apply Kd.R_drewN | apply Kd.R_drew)); exact HO_7.out) hb); have n1_ := Aside0.mk (below_step (by repeat with_reducible first | exact HB.out | apply below_alloc | apply pw_below_drewN | apply below_drew1) hb); clear HO_7; clear HB; have HO_7 := n0_; have HB := n1_; clear n0_ n1_; (try clear hb)) | (go_at_call 21; (with_reducible refine (tree_Depth.calls t1012 t1020 _ A39.out).mono ?_); rintro e w46 ⟨rfl, hb⟩; have n0_ := Aside0.mk (Kd.R_below (by (with_reducible repeat (first | apply Kd.R_alloc | apply Kd.R_drewN | apply Kd.R_drew)); exact HO_7.out) hb); have n1_ := Aside0.mk (below_step (by repeat with_reducible first | exact HB.out | apply below_alloc | apply pw_below_drewN | apply below_drew1) hb); clear HO_7; clear HB; have HO_7 := n0_; have HB := n1_; clear n0_ n1_; (try clear hb)) | (go_at_call 19; (with_reducible refine (tree_Members.calls t1014 t1021 _ A42.out).mono ?_); rintro e w47 ⟨v1022, rfl, ho0, hb⟩; have n0_ := Aside0.mk (Kd.R_elder' (by (with_reducible repeat (first | apply Kd.R_alloc | apply Kd.R_drewN | apply Kd.R_drew)); exact HO_7.out) (Kd.R_base ho0) hb); have n1_ := Aside0.mk (Kd.R_lower (Kd.R_new' ho0 (Kd.R_lt (by (with_reducible repeat (first | apply Kd.R_alloc | apply Kd.R_drewN | apply Kd.R_drew)); exact HO_7.out))) (below_size (by repeat with_reducible first | exact HB.out | apply below_alloc | apply pw_below_drewN | apply below_drew1))); have n2_ := Aside0.mk (below_step (by repeat with_reducible first | exact HB.out | apply below_alloc | apply pw_below_drewN | apply below_drew1) hb); clear HO_7; clear HB; have HO_7 := n0_; have HO1023 := n1_; have HB := n2_; clear n0_ n1_ n2_; (try clear hb); (try clear ho0); obtain ⟨Ao48, co48, eo48⟩ := Kd.R_slice HO1023.out; subst eo48) | (go_at_call 19; (with_reducible refine (tree_Members.calls t1002 t1024 _ A43.out).mono ?_); rintro e w49 ⟨v1025, rfl, ho0, hb⟩; have n0_ := Aside0.mk (Kd.R_elder' (by (with_reducible repeat (first | apply Kd.R_alloc | apply Kd.R_drewN | apply Kd.R_drew)); exact HO_7.out) (Kd.R_base ho0) hb); have n1_ := Aside0.mk (Kd.R_elder' (by (with_reducible repeat (first | apply Kd.R_alloc | apply Kd.R_drewN | apply Kd.R_drew)); exact HO1023.out) (Kd.R_base ho0) hb); have n2_ := Aside0.mk (Kd.R_lower (Kd.R_new' (Kd.R_new' ho0 (Kd.R_lt (by (with_reducible repeat (first | apply Kd.R_alloc | apply Kd.R_drewN | apply Kd.R_drew)); exact HO_7.out))) (Kd.R_lt (by (with_reducible repeat (first | apply Kd.R_alloc | apply Kd.R_drewN | apply Kd.R_drew)); exact HO1023.out))) (below_size (by repeat with_reducible first | exact HB.out | apply below_alloc | apply pw_below_drewN | apply below_drew1))); have n3_ := Aside0.mk (below_step (by repeat with_reducible first | exact HB.out | apply below_alloc | apply pw_below_drewN | apply below_drew1) hb); clear HO_7; clear HO1023; clear HB; have HO_7 := n0_; have HO1023 := n1_; have HO1026 := n2_; have HB := n3_; clear n0_ n1_ n2_ n3_; (try clear hb); (try clear ho0); obtain ⟨Ao50, co50, eo50⟩ := Kd.R_slice HO1026.out; subst eo50))
                      go_meet
                      case rel => exact ⟨_, (((t1021.length : Int) != (wrap64 ((t1024.length : Int) + (x7_1.length : Int))))), (by first | rfl | (simp; done) | (simp [*]; done)), H', ⟨by have := HK1.out; first | omega | exact Nat.le_refl _⟩, ⟨by (with_reducible repeat (first | apply Kd.R_alloc | apply Kd.R_drewN | apply Kd.R_drew)); exact Kd.R_mono HO_7.out (fun _ hk => trivial)⟩, ⟨by repeat (first | (with_reducible first | exact HB.out | apply below_alloc | apply pw_below_drewN | apply below_drew1) | exact HB.out)⟩⟩
                    · rw [if_neg c41] at H
                      have c41b0 : (t1018 == (wrap64 (1 + (ji40)))) = false := beq_eq_false_iff_ne.mpr c41
                      have c41b1 : (t1018 != (wrap64 (1 + (ji40)))) = true := bne_iff_ne.mpr c41
                      have H' := Aside0.mk H
                      clear H; go_wp2_with (first | (go_at_call 21; (with_reducible refine (tree_Depth.calls t1014 t1018 _ A37.out).mono ?_); rintro e w51 ⟨rfl, hb⟩; have n0_ := Aside0.mk (Kd.R_below (by (with_reducible repeat (first | apply Kd.R_alloc | apply Kd.R_drewN | apply Kd.R_drew)); exact HO_7.out) hb); have n1_ := Aside0.mk (below_step (by repeat with_reducible first | exact HB.out | apply below_alloc | apply pw_below_drewN | apply below_drew1) hb); clear HO_7; clear HB; have HO_7 := n0_; have HB := n1_; clear n0_ n1_; (try clear hb)) | (go_at_call 21; (with_reducible refine (tree_Depth.calls t1002 t1019 _ A38.out).mono ?_); rintro e w52 ⟨rfl, hb⟩; have n0_ := Aside0.mk (Kd.R_below (by (with_reducible repeat (first | apply Kd.R_alloc | apply Kd.R_drewN | apply Kd.R_drew)); exact HO_7.out) hb); have n1_ := Aside0.mk (below_step (by repeat with_reducible first | exact HB.out | apply below_alloc | apply pw_below_drewN | apply below_drew1) hb); clear HO_7; clear HB; have HO_7 := n0_; have HB := n1_; clear n0_ n1_; (try clear hb)) | (go_at_call 21; (with_reducible refine (tree_Depth.calls t1012 t1020 _ A39.out).mono ?_); rintro e w53 ⟨rfl, hb⟩; have n0_ := Aside0.mk (Kd.R_below (by (with_reducible repeat (first | apply Kd.R_alloc | apply Kd.R_drewN | apply Kd.R_drew)); exact HO_7.out) hb); have n1_ := Aside0.mk (below_step (by repeat with_reducible first | exact HB.out | apply below_alloc | apply pw_below_drewN | apply below_drew1) hb); clear HO_7; clear HB; have HO_7 := n0_; have HB := n1_; clear n0_ n1_; (try clear hb)))
                      go_meet
                      case rel => exact ⟨_, (true), (by first | rfl | (simp; done) | (simp [*]; done)), H', ⟨by have := HK1.out; first | omega | exact Nat.le_refl _⟩, ⟨by (with_reducible repeat (first | apply Kd.R_alloc | apply Kd.R_drewN | apply Kd.R_drew)); exact HO_7.out⟩, ⟨by repeat (first | (with_reducible first | exact HB.out | apply below_alloc | apply pw_below_drewN | apply below_drew1) | exact HB.out)⟩⟩
                  · rw [if_neg c36] at H
                    have c36b0 : (t1014.toList == t1016.toList) = false := beq_eq_false_iff_ne.mpr c36
                    have c36b1 : (t1014.toList != t1016.toList) = true := bne_iff_ne.mpr c36
                    have H' := Aside0.mk H
                    clear H; go_wp2; go_meet
                    case rel => exact ⟨_, (true), (by first | rfl | (simp; done) | (simp [*]; done)), H', ⟨by have := HK1.out; first | omega | exact Nat.le_refl _⟩, ⟨by (with_reducible repeat (first | apply Kd.R_alloc | apply Kd.R_drewN | apply Kd.R_drew)); exact HO_7.out⟩, ⟨by repeat (first | (with_reducible first | exact HB.out | apply below_alloc | apply pw_below_drewN | apply below_drew1) | exact HB.out)⟩⟩
                · rw [if_neg c35] at H
                  have c35b0 : (t1017 == 0) = false := beq_eq_false_iff_ne.mpr c35
                  have c35b1 : (t1017 != 0) = true := bne_iff_ne.mpr c35
                  have H' := Aside0.mk H
                  clear H; go_wp2; go_meet
                  case rel => exact ⟨_, (true), (by first | rfl | (simp; done) | (simp [*]; done)), H', ⟨by have := HK1.out; first | omega | exact Nat.le_refl _⟩, ⟨by (with_reducible repeat (first | apply Kd.R_alloc | apply Kd.R_drewN | apply Kd.R_drew)); exact HO_7.out⟩, ⟨by repeat (first | (with_reducible first | exact HB.out | apply below_alloc | apply pw_below_drewN | apply below_drew1) | exact HB.out)⟩⟩
              · rw [if_neg c34] at H
                have c34b0 : (t1015 == 0) = false := beq_eq_false_iff_ne.mpr c34
                have c34b1 : (t1015 != 0) = true := bne_iff_ne.mpr c34
                (first | rw [c34b0] | (simp only [i64_w, i32_w]; rw [c34b0]) | skip); have H' := Aside0.mk H
                clear H; go_wp2; go_meet
                case rel => exact ⟨_, (true), (by first | rfl | (simp; done) | (simp [*]; done)), H', ⟨by have := HK1.out; first | omega | exact Nat.le_refl _⟩, ⟨by (with_reducible repeat (first | apply Kd.R_alloc | apply Kd.R_drewN | apply Kd.R_drew)); exact HO_7.out⟩, ⟨by repeat (first | (with_reducible first | exact HB.out | apply below_alloc | apply pw_below_drewN | apply below_drew1) | exact HB.out)⟩⟩
            case rest =>
              clear HC29; try clear c1
              try clear c2
              try clear p2
              try clear c3
              try clear c4
              try clear p6
              try clear c7
              try clear c8
              try clear c8b0
              try clear c9
              try clear c10
              try clear c10b0
              try clear c10b1
              try clear c12
              try clear c12b0
              try clear c12b1
              try clear c15
              try clear c18
              try clear c22
              try clear c22b0
              try clear c22b1
              try clear c22b2
              try clear c23
              try clear c25
              try clear c27
              try clear c34
              try clear c34b0
              try clear c34b1
              try clear c35
              try clear c35b0
              try clear c35b1
              try clear c36
              try clear c36b0
              try clear c36b1
              try clear c41
              try clear c41b0
              try clear c41b1
              try clear p2
              obtain ⟨kq, x105_28, rfl, HA, HJ28, HO_7, HB⟩ := hcut; cases kq with
              | zero => exact absurd HA.out (by simp [gemotlaw13_TreeMerged.j1])
              | succ kj28 =>
                have H := HA.out; clear HA; simp only [gemotlaw13_TreeMerged.j1] at H; by_cases c54 : x105_28 = true
                · subst c54; have H1 : (none) = some r := by rw [if_pos rfl] at H; exact H
                  exact absurd H1 (by simp)
                · replace c54 := Bool.eq_false_iff.mpr c54
                  subst c54; have H1 : (gemotlaw13_TreeMerged.l1 kj28 t1002 x7_1 t1014 0) = some r := by rw [if_neg (show ¬ (false = true) by decide)] at H; exact H
                  clear H; have H := H1; clear H1; have H' := Aside0.mk H
                  clear H; go_wp2; go_loopg [13, 17] kj28 (fun kq v13 v17 w' => ∃ (x13_3 : ByteArray) (x17_3 : Int), v13 = .string x13_3 ∧ v17 = .int .i64 x17_3 ∧ Aside0 (gemotlaw13_TreeMerged.l1 kq t1002 x7_1 x13_3 x17_3 = some r) ∧ Aside0 (kq ≤ kj28) ∧ Aside0 (Kd.R (Kd.int .i64) 3 w' w.heap.size (fun _ => True) (.slice Ao30 x7_1.length co30) x7_1) ∧ Aside0 (Below w.heap.size w w'))
                  case atStart => exact ⟨(t1014), (0), (by first | rfl | (simp; done) | (simp [*]; done)), (by first | rfl | (simp; done) | (simp [*]; done)), H', ⟨Nat.le_refl _⟩, ⟨by (with_reducible repeat (first | apply Kd.R_alloc | apply Kd.R_drewN | apply Kd.R_drew)); exact HO_7.out⟩, ⟨by repeat (first | (with_reducible first | exact HB.out | apply below_alloc | apply pw_below_drewN | apply below_drew1) | exact HB.out)⟩⟩
                  case round =>
                    clear H'; try clear c1
                    try clear c2
                    try clear p2
                    try clear c3
                    try clear c4
                    try clear c5
                    try clear p6
                    try clear c7
                    try clear c8
                    try clear c8b0
                    try clear c9
                    try clear c10
                    try clear c10b0
                    try clear c10b1
                    try clear c12
                    try clear c12b0
                    try clear c12b1
                    try clear c15
                    try clear c18
                    try clear c22
                    try clear c22b0
                    try clear c22b1
                    try clear c22b2
                    try clear c23
                    try clear c25
                    try clear c27
                    try clear c34
                    try clear c34b0
                    try clear c34b1
                    try clear c35
                    try clear c35b0
                    try clear c35b1
                    try clear c36
                    try clear c36b0
                    try clear c36b1
                    try clear c41
                    try clear c41b0
                    try clear c41b1
                    try clear c54
                    try clear p2
                    try clear p6
                    obtain ⟨x13_3, x17_3, rfl, rfl, HA, HK3, HO_7, HB⟩ := hrel; cases gk with
                    | zero => exact absurd HA.out (by simp [gemotlaw13_TreeMerged.l1])
                    | succ k3 =>
                      have H := HA.out; clear HA; simp only [gemotlaw13_TreeMerged.l1] at H; by_cases c55 : x17_3 < (x7_1.length : Int)
                      · rw [if_pos c55] at H
                        have c55b0 : decide (x17_3 < (x7_1.length : Int)) = true := decide_eq_true c55
                        clear c55; by_cases c56 : 0 ≤ x17_3
                        · rw [if_pos c56] at H
                          have c56b0 : decide (0 ≤ x17_3) = true := decide_eq_true c56
                          clear c56; replace H := Option.bind_eq_some_iff.mp H
                          obtain ⟨⟨t1028, t1029⟩, A570, H⟩ := H
                          replace H : (if t1029 = 0 then (gemotlaw13_TreeMerged.l1 k3 t1002 x7_1 t1028 (wrap64 (x17_3 + 1))) else (none)) = some r := H
                          have A57 := Aside0.mk A570
                          clear A570; by_cases c58 : t1029 = 0
                          · rw [if_pos c58] at H
                            have c58b0 : (t1029 == 0) = true := beq_iff_eq.mpr c58
                            have c58b1 : (t1029 != 0) = false := bne_eq_false_iff_eq.mpr c58
                            clear c58; have H' := Aside0.mk H
                            clear H; have p1027 : 0 ≤ (x17_3 : Int) := of_decide_eq_true (by first | (with_reducible assumption) | assumption)
                            have q1027 : x17_3 < (x7_1.length : Int) := of_decide_eq_true (by first | (with_reducible assumption) | assumption)
                            obtain ⟨ad1027, e1027, hx1027_0⟩ := Kd.at_int (Kd.R_reads' HO_7.out).2.2 x17_3 p1027 q1027
                            cases e1027
                            replace p1027 := eq_true p1027
                            replace q1027 := eq_true q1027
                            go_wp2_with (first | ((with_reducible refine gate_callee (f := 12) rfl ?_); refine goesL_ (some 118) rfl rfl Tryd.func12 (by kernel_rfl) rfl #[.string x13_3, .int .i64 (rd x7_1 x17_3)] rfl (by simp only [List.map_toArray, List.map_cons, List.map_nil] <;> rfl) ?_; (with_reducible refine (tree_Leave.calls x13_3 (rd x7_1 x17_3) t1028 t1029 _ A57.out).mono ?_); rintro e w59 ⟨rfl, hb⟩; refine ⟨_, rfl, ?_⟩; have n0_ := Aside0.mk (Kd.R_below (by (with_reducible repeat (first | apply Kd.R_alloc | apply Kd.R_drewN | apply Kd.R_drew)); exact HO_7.out) hb); have n1_ := Aside0.mk (below_step (by repeat with_reducible first | exact HB.out | apply below_alloc | apply pw_below_drewN | apply below_drew1) hb); clear HO_7; clear HB; have HO_7 := n0_; have HB := n1_; clear n0_ n1_; (try clear hb)))
                            go_roundg k3
                            case measure => have := HK1.out; have := HJ28.out; have := HK3.out; omega
                            case rel => exact ⟨(t1028), (wrap64 (x17_3 + 1)), (by first | rfl | (simp; done) | (simp [*]; done)), (by first | rfl | (simp; done) | (simp [*]; done)), H', ⟨by have := HK1.out; have := HJ28.out; have := HK3.out; omega⟩, ⟨by (with_reducible repeat (first | apply Kd.R_alloc | apply Kd.R_drewN | apply Kd.R_drew)); exact HO_7.out⟩, ⟨by repeat (first | (with_reducible first | exact HB.out | apply below_alloc | apply pw_below_drewN | apply below_drew1) | exact HB.out)⟩⟩
                          · rw [if_neg c58] at H
                            exact absurd H (by simp)
                        · rw [if_neg c56] at H
                          exact absurd H (by simp)
                      · rw [if_neg c55] at H
                        have c55b0 : decide (x17_3 < (x7_1.length : Int)) = false := decide_eq_false c55
                        clear c55; obtain rfl := Option.some.inj H
                        go_wp2; go_ret
                        exact ⟨by first | rfl | (simp [errW_none, errW_some] <;> rfl) | (simp [*, errW_none, errW_some] <;> rfl), by repeat (first | (with_reducible first | exact HB.out | apply below_alloc | apply pw_below_drewN | apply below_drew1) | exact HB.out)⟩
  · replace c4 := Bool.eq_false_iff.mpr c4
    subst c4; have H1 : (none) = some r := by rw [if_neg (show ¬ (false = true) by decide)] at H; exact H
    exact absurd H1 (by simp)

/-- THE ONE PURE STATEMENT of gemotlaw13_TreeMerged: yours. -/
def gemotlaw13_TreeMerged.Pure : Prop := ∀ (l0 : List Int) (a1 : Int), l0.length ≤ maxLen → l0.length * 8 ≤ 140737488351232 → (∀ x ∈ l0, (Lit.int .i64 x).wf = true) → (Lit.int .i64 a1).wf = true → ∃ k, gemotlaw13_TreeMerged.f k l0 a1 = some true
theorem gemotlaw13_TreeMerged.walk (P : gemotlaw13_TreeMerged.Pure) (a0 : Option Addr) (len0 cap0 : Nat) (z0 : List Int) (a1 : Int) (w : World) (w0 : (a0 = none ∧ len0 = 0 ∧ cap0 = 0 ∧ z0 = []) ∨ ∃ x, a0 = some x ∧ len0 ≤ cap0 ∧ cap0 ≤ maxLen ∧ z0.length = cap0 ∧ (∀ i, i < z0.length → w.cell? (x.add i) = some (.int .i64 (z0.getD i 0))) ∧ ∀ n ∈ z0, (Lit.int .i64 n).wf = true) (y0 : len0 * 8 ≤ 140737488351232) (w1 : (Lit.int .i64 a1).wf = true) :
    Calls Tryd.prog 7 #[.slice a0 len0 cap0, .int .i64 a1] w fun e w' => e = .returned (.bool true) ∧ Below w.heap.size w w' := by
  obtain ⟨l0, rfl, hr0, hm0, hw0, hc0⟩ := ReadsInt.ofRowC w0; obtain ⟨k, h⟩ := P l0 a1 hm0 y0 hw0 w1
  refine (gemotlaw13_TreeMerged.calls k _ _ l0 a1 true w (Kd.C_of_reads (d := (0 : Int)) (h1 := fun _ => rfl) hr0) hc0 h).mono ?_
  rintro e w' ⟨rfl, hd⟩; exact ⟨rfl, hd⟩

end Go.Proofs.YtiofobdmkkbmlaaDoor.F
