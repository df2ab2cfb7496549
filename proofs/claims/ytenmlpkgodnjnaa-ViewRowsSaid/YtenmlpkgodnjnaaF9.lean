-- Laid by mk.py (a program of this session) over the seat's translation.
import Derived.Test.YtenmlpkgodnjnaaF0
import Derived.Test.YtenmlpkgodnjnaaF11
import Derived.Test.YtenmlpkgodnjnaaF25
import Derived.Test.YtenmlpkgodnjnaaF26
import Derived.Test.YtenmlpkgodnjnaaF28
import Derived.Test.YtenmlpkgodnjnaaF29
import Derived.Test.YtenmlpkgodnjnaaF30
import Derived.Test.YtenmlpkgodnjnaaF32
namespace Go.Proofs.Ytenmlpkgodnjnaa.F
open Go.RowKit Go.Proofs.YtenmlpkgodnjnaaW.PrintWords Go.Proofs.YtenmlpkgodnjnaaW.PrintLast Go.Proofs.YtenmlpkgodnjnaaW.PrintMore
attribute [local go_sem] max2_int min2_int max_two min_two max_three min_three max_four min_four
set_option linter.unusedVariables false
set_option linter.unusedSimpArgs false

/-! ### gemotlaw10_ViewRows: function 9 -/
mutual
def gemotlaw10_ViewRows.l0 : Nat → Int → Int → Int → Bool → List Int → List Int → Int → Option (Bool)
  | 0, _, _, _, _, _, _, _ => none
  | k + 1, x0, x1, x2, x7, x8, x9, x10 => if x10 ≤ 8 then (if 0 ≤ (wrap64 (x10 - 1)) then (if (Go.bits .and .i64 (shr .i64 x0 (wrap64 (x10 - 1))) 1) = 1 then (if x8.length < 17592186044416 then ((some (x8 ++ [x10] : List Int)).bind fun y453 => (if (Go.bits .and .i64 (shr .i64 x1 (wrap64 (x10 - 1))) 1) = 1 then (if x9.length < 17592186044416 then (gemotlaw10_ViewRows.l0 k x0 x1 x2 x7 y453 (x9 ++ [x10]) (wrap64 (x10 + 1))) else (none)) else (gemotlaw10_ViewRows.l0 k x0 x1 x2 x7 y453 x9 (wrap64 (x10 + 1))))) else (none)) else (if (Go.bits .and .i64 (shr .i64 x1 (wrap64 (x10 - 1))) 1) = 1 then (if x9.length < 17592186044416 then (gemotlaw10_ViewRows.l0 k x0 x1 x2 x7 x8 (x9 ++ [x10]) (wrap64 (x10 + 1))) else (none)) else (gemotlaw10_ViewRows.l0 k x0 x1 x2 x7 x8 x9 (wrap64 (x10 + 1))))) else (none)) else ((view_Both.f x8 x9).bind fun t462 => ((view_Without.f x8 x9).bind fun t465 => (if x7 = true then ((view_Row.f k x8).bind fun t468 => (if (t468 != (decide ((x8.length : Int) > 0))) = true then (gemotlaw10_ViewRows.j1 k x2 x8 true) else (if (wrap64 ((t462.length : Int) + (t465.length : Int))) = (x8.length : Int) then ((view_Row.f k t462).bind fun t469 => (if (t469 != (decide ((t462.length : Int) > 0))) = true then (gemotlaw10_ViewRows.j1 k x2 x8 true) else ((view_Row.f k t465).bind fun t470 => (if (t470 != (decide ((t465.length : Int) > 0))) = true then (gemotlaw10_ViewRows.j1 k x2 x8 true) else ((view_Both.f x9 x8).bind fun t471 => ((view_Same.f k t462 t471).bind fun t474 => (gemotlaw10_ViewRows.j1 k x2 x8 (!t474)))))))) else (gemotlaw10_ViewRows.j1 k x2 x8 true)))) else (gemotlaw10_ViewRows.j1 k x2 x8 true))))
def gemotlaw10_ViewRows.j1 : Nat → Int → List Int → Bool → Option (Bool)
  | 0, _, _, _ => none
  | k + 1, x2, x8, x90 => if x90 = true then (some false) else (if (x8.length : Int) = 0 then ((view_Right.f k 0 0 ([] : List Int)).bind fun t475 => (some (!t475))) else (if 0 < (x8.length : Int) then ((view_Term.f k x2 (rd x8 0) x8).bind fun bt478 => ((view_Right.f k x2 (rd x8 0) x8).bind fun t480 => (if x2 ≥ 0 then (if (t480 == (decide (x2 ≤ 2147483647))) = true then ((view_Right.f k x2 (rd x8 0) x8).bind fun t481 => (some ((bt478.2 == 0) == t481))) else (some false)) else (if (t480 == false) = true then ((view_Right.f k x2 (rd x8 0) x8).bind fun t482 => (some ((bt478.2 == 0) == t482))) else (some false))))) else (none)))
end
def gemotlaw10_ViewRows.f (k : Nat) (a0 : Int) (a1 : Int) (a2 : Int) : Option (Bool) := (gemotlaw10_shown.f).bind fun t452 => (gemotlaw10_ViewRows.l0 k a0 a1 a2 t452 ([] : List Int) ([] : List Int) 1)
theorem gemotlaw10_ViewRows.mono_l : ∀ k, (∀ y0 y1 y2 y3 y4 y5 y6, LeO (gemotlaw10_ViewRows.l0 k y0 y1 y2 y3 y4 y5 y6) (gemotlaw10_ViewRows.l0 (k + 1) y0 y1 y2 y3 y4 y5 y6)) ∧ (∀ y0 y1 y2, LeO (gemotlaw10_ViewRows.j1 k y0 y1 y2) (gemotlaw10_ViewRows.j1 (k + 1) y0 y1 y2))
  | 0 => ⟨fun _ _ _ _ _ _ _ r h => by simp [gemotlaw10_ViewRows.l0] at h, fun _ _ _ r h => by simp [gemotlaw10_ViewRows.j1] at h⟩
  | k + 1 => by
    obtain ⟨ih0, ih1⟩ := gemotlaw10_ViewRows.mono_l k
    refine ⟨?_, ?_⟩
    · intro y0 y1 y2 y3 y4 y5 y6
      unfold gemotlaw10_ViewRows.l0
      repeat' first
      | (with_reducible exact ih0 _ _ _ _ _ _ _)
      | (with_reducible exact ih1 _ _ _)
      | (with_reducible exact view_Right.mono _ _ _ _)
      | (with_reducible exact view_Row.mono _ _)
      | (with_reducible exact view_Same.mono _ _ _)
      | (with_reducible exact view_Term.mono _ _ _ _)
      | (with_reducible exact LeO.refl _)
      | (with_reducible exact LeO.none _)
      | (with_reducible refine LeO.ite ?_ ?_)
      | (with_reducible refine LeO.bind ?_ (fun _ => ?_))
      | exact ih0 _ _ _ _ _ _ _
      | exact ih1 _ _ _
      | exact view_Right.mono _ _ _ _
      | exact view_Row.mono _ _
      | exact view_Same.mono _ _ _
      | exact view_Term.mono _ _ _ _
      | exact LeO.none _
      | refine LeO.ite ?_ ?_
      | refine LeO.bind ?_ (fun _ => ?_)
    · intro y0 y1 y2
      unfold gemotlaw10_ViewRows.j1
      repeat' first
      | (with_reducible exact ih0 _ _ _ _ _ _ _)
      | (with_reducible exact ih1 _ _ _)
      | (with_reducible exact view_Right.mono _ _ _ _)
      | (with_reducible exact view_Row.mono _ _)
      | (with_reducible exact view_Same.mono _ _ _)
      | (with_reducible exact view_Term.mono _ _ _ _)
      | (with_reducible exact LeO.refl _)
      | (with_reducible exact LeO.none _)
      | (with_reducible refine LeO.ite ?_ ?_)
      | (with_reducible refine LeO.bind ?_ (fun _ => ?_))
      | exact ih0 _ _ _ _ _ _ _
      | exact ih1 _ _ _
      | exact view_Right.mono _ _ _ _
      | exact view_Row.mono _ _
      | exact view_Same.mono _ _ _
      | exact view_Term.mono _ _ _ _
      | exact LeO.none _
      | refine LeO.ite ?_ ?_
      | refine LeO.bind ?_ (fun _ => ?_)
theorem gemotlaw10_ViewRows.mono : ∀ a0 a1 a2 k, LeO (gemotlaw10_ViewRows.f k a0 a1 a2) (gemotlaw10_ViewRows.f (k + 1) a0 a1 a2) := by
  intro a0 a1 a2 k
  obtain ⟨ih0, ih1⟩ := gemotlaw10_ViewRows.mono_l k
  unfold gemotlaw10_ViewRows.f
  repeat' first
      | (with_reducible exact ih0 _ _ _ _ _ _ _)
      | (with_reducible exact ih1 _ _ _)
      | (with_reducible exact view_Right.mono _ _ _ _)
      | (with_reducible exact view_Row.mono _ _)
      | (with_reducible exact view_Same.mono _ _ _)
      | (with_reducible exact view_Term.mono _ _ _ _)
      | (with_reducible exact LeO.refl _)
      | (with_reducible exact LeO.none _)
      | (with_reducible refine LeO.ite ?_ ?_)
      | (with_reducible refine LeO.bind ?_ (fun _ => ?_))
      | exact ih0 _ _ _ _ _ _ _
      | exact ih1 _ _ _
      | exact view_Right.mono _ _ _ _
      | exact view_Row.mono _ _
      | exact view_Same.mono _ _ _
      | exact view_Term.mono _ _ _ _
      | exact LeO.none _
      | refine LeO.ite ?_ ?_
      | refine LeO.bind ?_ (fun _ => ?_)
set_option maxHeartbeats 8000000 in
set_option maxRecDepth 100000 in
theorem gemotlaw10_ViewRows.calls (k : Nat) (a0 : Int) (a1 : Int) (a2 : Int) (r : Bool) (w : World) (h : gemotlaw10_ViewRows.f k a0 a1 a2 = some r) :
    Calls Try.prog 9 #[.int .i64 a0, .int .i64 a1, .int .i64 a2] w fun e w' => e = .returned (.bool r) ∧ Below w.heap.size w w' := by
  have hu53 := Try.underlying53
  have hu23 := Try.underlying23
  have HB := Aside0.mk (Below.refl w.heap.size w)
  have H : ((gemotlaw10_shown.f).bind fun t452 => (gemotlaw10_ViewRows.l0 k a0 a1 a2 t452 ([] : List Int) ([] : List Int) 1)) = some r := h
  clear h
  replace H := Option.bind_eq_some_iff.mp H
  obtain ⟨t452, A40, H⟩ := H
  replace H : (gemotlaw10_ViewRows.l0 k a0 a1 a2 t452 ([] : List Int) ([] : List Int) 1) = some r := H
  have A4 := Aside0.mk A40
  clear A40
  have H' := Aside0.mk H
  clear H
  go_enter Try.func9, Try.ntmps9
  go_wp2_with (first | ((with_reducible refine gate_callee (f := 11) rfl ?_); refine goesL_ (some 16) rfl rfl Try.func11 (by kernel_rfl) rfl #[] rfl (by (try simp only [List.map_toArray, List.map_cons, List.map_nil]); first | done | rfl | (simp only [List.length_drop, List.length_take]; rfl)) ?_; (with_reducible refine (gemotlaw10_shown.calls  t452 _ A4.out).mono ?_); rintro e w5 ⟨rfl, hb⟩; refine ⟨_, rfl, ?_⟩; have n0_ := Aside0.mk (below_step (by repeat (first | (with_reducible first | exact HB.out | apply below_alloc | apply pw_below_drewN | apply below_drew1) | exact HB.out)) hb); clear HB; have HB := n0_; clear n0_; (try clear hb); (try clear hb2); (try clear hk); (try clear hi)))
  go_loopg [8, 9, 10] k (fun kq v8 v9 v10 w' => ∃ (x8_1 : List Int) (x9_1 : List Int) (x10_1 : Int), v10 = .int .i64 x10_1 ∧ Aside0 (gemotlaw10_ViewRows.l0 kq a0 a1 a2 t452 x8_1 x9_1 x10_1 = some r) ∧ Aside0 (kq ≤ k) ∧ Aside0 (Kd.R (Kd.int .i64) 3 w' w.heap.size (fun k_ => some k_ ≠ (v9 : Value).ownBlock) v8 x8_1) ∧ Aside0 (Kd.R (Kd.int .i64) 3 w' w.heap.size (fun k_ => some k_ ≠ (v8 : Value).ownBlock) v9 x9_1) ∧ Aside0 (Below w.heap.size w w'))
  case atStart => exact ⟨(([] : List Int)), (([] : List Int)), (1), (by first | rfl | (simp; done) | (simp [*]; done)), H', ⟨Nat.le_refl _⟩, ⟨by first | exact Kd.R_nil _ _ _ _ _ | exact Kd.N_nil _ _ _ _ _ | exact Kd.V_nil _ _ _ _ _ | exact Kd.Q_nil _ _ _ _ _ | exact Kd.S_nil _ _ _ _ _⟩, ⟨by first | exact Kd.R_nil _ _ _ _ _ | exact Kd.N_nil _ _ _ _ _ | exact Kd.V_nil _ _ _ _ _ | exact Kd.Q_nil _ _ _ _ _ | exact Kd.S_nil _ _ _ _ _⟩, ⟨by repeat (first | (with_reducible first | exact HB.out | apply below_alloc | apply pw_below_drewN | apply below_drew1) | exact HB.out)⟩⟩
  case round =>
    clear H'
    try clear c1
    try clear p2
    obtain ⟨x8_1, x9_1, x10_1, rfl, HA, HK1, HO_8, HO_9, HB⟩ := hrel
    cases gk with
    | zero => exact absurd HA.out (by simp [gemotlaw10_ViewRows.l0])
    | succ k1 =>
      have H := HA.out
      clear HA
      simp only [gemotlaw10_ViewRows.l0] at H
      by_cases c6 : x10_1 ≤ 8
      · rw [if_pos c6] at H
        have c6b0 : decide (x10_1 ≤ 8) = true := decide_eq_true c6
        clear c6
        obtain ⟨ji7, hji7⟩ : ∃ j_ : Int, (wrap64 (x10_1 - 1)) = j_ := ⟨_, rfl⟩
        replace H : (if 0 ≤ (ji7) then (if (Go.bits .and .i64 (shr .i64 a0 (ji7)) 1) = 1 then (if x8_1.length < 17592186044416 then ((some (x8_1 ++ [x10_1] : List Int)).bind fun y453 => (if (Go.bits .and .i64 (shr .i64 a1 (ji7)) 1) = 1 then (if x9_1.length < 17592186044416 then (gemotlaw10_ViewRows.l0 k1 a0 a1 a2 t452 y453 (x9_1 ++ [x10_1]) (wrap64 (x10_1 + 1))) else (none)) else (gemotlaw10_ViewRows.l0 k1 a0 a1 a2 t452 y453 x9_1 (wrap64 (x10_1 + 1))))) else (none)) else (if (Go.bits .and .i64 (shr .i64 a1 (ji7)) 1) = 1 then (if x9_1.length < 17592186044416 then (gemotlaw10_ViewRows.l0 k1 a0 a1 a2 t452 x8_1 (x9_1 ++ [x10_1]) (wrap64 (x10_1 + 1))) else (none)) else (gemotlaw10_ViewRows.l0 k1 a0 a1 a2 t452 x8_1 x9_1 (wrap64 (x10_1 + 1))))) else (none)) = some r := by first | (rw [hji7] at H; exact H) | (simp only [hji7] at H ⊢; exact H)
        have hji7w : (IntKind.i64.wrap (x10_1 - 1)) = ji7 := (i64_w _).trans hji7
        by_cases c8 : 0 ≤ (ji7)
        · rw [if_pos c8] at H
          have c8b0 := eq_true c8
          have c8b1 : decide (0 ≤ (ji7)) = true := decide_eq_true c8
          clear c8
          obtain ⟨ji9, hji9⟩ : ∃ j_ : Int, (shr .i64 a0 (ji7)) = j_ := ⟨_, rfl⟩
          replace H : (if (Go.bits .and .i64 (ji9) 1) = 1 then (if x8_1.length < 17592186044416 then ((some (x8_1 ++ [x10_1] : List Int)).bind fun y453 => (if (Go.bits .and .i64 (shr .i64 a1 (ji7)) 1) = 1 then (if x9_1.length < 17592186044416 then (gemotlaw10_ViewRows.l0 k1 a0 a1 a2 t452 y453 (x9_1 ++ [x10_1]) (wrap64 (x10_1 + 1))) else (none)) else (gemotlaw10_ViewRows.l0 k1 a0 a1 a2 t452 y453 x9_1 (wrap64 (x10_1 + 1))))) else (none)) else (if (Go.bits .and .i64 (shr .i64 a1 (ji7)) 1) = 1 then (if x9_1.length < 17592186044416 then (gemotlaw10_ViewRows.l0 k1 a0 a1 a2 t452 x8_1 (x9_1 ++ [x10_1]) (wrap64 (x10_1 + 1))) else (none)) else (gemotlaw10_ViewRows.l0 k1 a0 a1 a2 t452 x8_1 x9_1 (wrap64 (x10_1 + 1))))) = some r := by first | (rw [hji9] at H; exact H) | (simp only [hji9] at H ⊢; exact H)
          have hji9_ : (a0 / 2 ^ min (ji7).toNat 64) = ji9 := hji9
          have hji9z : (ji7) ≤ 64 → (a0 / 2 ^ (ji7).toNat) = ji9 := shr_small hji9
          by_cases c10 : (Go.bits .and .i64 (ji9) 1) = 1
          · rw [if_pos c10] at H
            have c10b0 : ((Go.bits .and .i64 (ji9) 1) == 1) = true := beq_iff_eq.mpr c10
            have c10b1 : ((Go.bits .and .i64 (ji9) 1) != 1) = false := bne_eq_false_iff_eq.mpr c10
            clear c10
            by_cases c11 : x8_1.length < 17592186044416
            · rw [if_pos c11] at H
              have LMc11 := Aside0.mk c11
              clear c11
              obtain ⟨y453, hy453⟩ : ∃ y_ : List Int, y_ = (x8_1 ++ [x10_1]) := ⟨_, rfl⟩
              replace H : (if (Go.bits .and .i64 (shr .i64 a1 (ji7)) 1) = 1 then (if x9_1.length < 17592186044416 then (gemotlaw10_ViewRows.l0 k1 a0 a1 a2 t452 y453 (x9_1 ++ [x10_1]) (wrap64 (x10_1 + 1))) else (none)) else (gemotlaw10_ViewRows.l0 k1 a0 a1 a2 t452 y453 x9_1 (wrap64 (x10_1 + 1)))) = some r := by first | (rw [hy453]; with_reducible exact H) | (have H2_ := (Option.bind_some _ _).symm.trans H; rw [hy453]; with_reducible exact H2_) | (have H2_ := (Option.bind_some _ _).symm.trans H; with_reducible exact H2_) | with_reducible exact H | (rw [hy453]; exact H) | exact H
              have Ny453 := Aside0.mk hy453
              clear hy453
              have c12b0 := eq_true (of_decide_eq_true (by first | (with_reducible assumption) | assumption) : 0 ≤ (ji7))
              obtain ⟨ji13, hji13⟩ : ∃ j_ : Int, (shr .i64 a1 (ji7)) = j_ := ⟨_, rfl⟩
              replace H : (if (Go.bits .and .i64 (ji13) 1) = 1 then (if x9_1.length < 17592186044416 then (gemotlaw10_ViewRows.l0 k1 a0 a1 a2 t452 y453 (x9_1 ++ [x10_1]) (wrap64 (x10_1 + 1))) else (none)) else (gemotlaw10_ViewRows.l0 k1 a0 a1 a2 t452 y453 x9_1 (wrap64 (x10_1 + 1)))) = some r := by first | (rw [hji13] at H; exact H) | (simp only [hji13] at H ⊢; exact H)
              have hji13_ : (a1 / 2 ^ min (ji7).toNat 64) = ji13 := hji13
              have hji13z : (ji7) ≤ 64 → (a1 / 2 ^ (ji7).toNat) = ji13 := shr_small hji13
              by_cases c14 : (Go.bits .and .i64 (ji13) 1) = 1
              · rw [if_pos c14] at H
                have c14b0 : ((Go.bits .and .i64 (ji13) 1) == 1) = true := beq_iff_eq.mpr c14
                have c14b1 : ((Go.bits .and .i64 (ji13) 1) != 1) = false := bne_eq_false_iff_eq.mpr c14
                clear c14
                by_cases c15 : x9_1.length < 17592186044416
                · rw [if_pos c15] at H
                  have LMc15 := Aside0.mk c15
                  clear c15
                  obtain ⟨y456, hy456⟩ : ∃ y_ : List Int, y_ = (x9_1 ++ [x10_1]) := ⟨_, rfl⟩
                  replace H : (gemotlaw10_ViewRows.l0 k1 a0 a1 a2 t452 y453 y456 (wrap64 (x10_1 + 1))) = some r := by first | (rw [hy456]; with_reducible exact H) | (have H2_ := (Option.bind_some _ _).symm.trans H; rw [hy456]; with_reducible exact H2_) | (have H2_ := (Option.bind_some _ _).symm.trans H; with_reducible exact H2_) | with_reducible exact H | (rw [hy456]; exact H) | exact H
                  have Ny456 := Aside0.mk hy456
                  clear hy456
                  have H' := Aside0.mk H
                  clear H
                  go_wp2_with (first | ((with_reducible refine gate_builtin (b := .append) (xs := #[.tmp 27, .tmp 29]) rfl ?_); (try (refine gate_guard (by rfl) ?_; dsimp only)); at_builtin; refine Kd.R_append (Kd.int .i64) (w0 := w) w.heap.size rfl (.tmp 27) (.tmp 29) 28 3 (.int .i64 0) 8 rfl Try.underlying28 info3 rfl (by decide) (by omega) u8 x8_1 x10_1 [.int .i64 x10_1] (fun k_ => some k_ ≠ (u9 : Value).ownBlock) (fun _ => False) rfl rfl ?aP (fun _ hk => hk.elim) ?aF ?aO ?aB ?aS ?aL ?_; (case aP => exact rfl); (case aB => exact (by repeat (first | (with_reducible first | exact HB.out | apply below_alloc | apply pw_below_drewN | apply below_drew1) | exact HB.out))); (case aF => exact (fun k_ hk => Kd.fresh' (Kd.R_lt (by (with_reducible repeat (first | apply Kd.R_alloc | apply Kd.R_drewN | apply Kd.R_drew)); exact HO_9.out)) k_ hk)); (case aO => exact (by (with_reducible repeat (first | apply Kd.R_alloc | apply Kd.R_drewN | apply Kd.R_drew)); exact HO_8.out)); (case aS => exact (below_size (by repeat (first | (with_reducible first | exact HB.out | apply below_alloc | apply pw_below_drewN | apply below_drew1) | exact HB.out)))); (case aL => have := LMc11.out; omega); intro v454 w16 ho hb hg hat; rw [← Ny453.out] at ho; have n0_ := Aside0.mk (Kd.R_after (ok := (fun _ => True)) (by (with_reducible repeat (first | apply Kd.R_alloc | apply Kd.R_drewN | apply Kd.R_drew)); exact Kd.R_mono HO_9.out (fun _ hk => ⟨trivial, hk⟩)) hg hat); have n1_ := Aside0.mk (hb); have n2_ := Aside0.mk (ho); clear HO_9; clear HB; clear HO_8; have HO_9 := n0_; have HB := n1_; have HO455 := n2_; clear n0_ n1_ n2_; clear ho hb hg hat) | ((with_reducible refine gate_builtin (b := .append) (xs := #[.tmp 37, .tmp 39]) rfl ?_); (try (refine gate_guard (by rfl) ?_; dsimp only)); at_builtin; refine Kd.R_append (Kd.int .i64) (w0 := w) w.heap.size rfl (.tmp 37) (.tmp 39) 28 3 (.int .i64 0) 8 rfl Try.underlying28 info3 rfl (by decide) (by omega) u9 x9_1 x10_1 [.int .i64 x10_1] (fun k_ => some k_ ≠ (v454 : Value).ownBlock) (fun _ => False) rfl rfl ?aP (fun _ hk => hk.elim) ?aF ?aO ?aB ?aS ?aL ?_; (case aP => exact rfl); (case aB => exact (by repeat (first | (with_reducible first | exact HB.out | apply below_alloc | apply pw_below_drewN | apply below_drew1) | exact HB.out))); (case aF => exact (fun k_ hk => Kd.fresh' (Kd.R_lt (by (with_reducible repeat (first | apply Kd.R_alloc | apply Kd.R_drewN | apply Kd.R_drew)); exact HO455.out)) k_ hk)); (case aO => exact (by (with_reducible repeat (first | apply Kd.R_alloc | apply Kd.R_drewN | apply Kd.R_drew)); exact Kd.R_mono HO_9.out (fun _ hk => hk.2))); (case aS => exact (below_size (by repeat (first | (with_reducible first | exact HB.out | apply below_alloc | apply pw_below_drewN | apply below_drew1) | exact HB.out)))); (case aL => have := LMc15.out; omega); intro v457 w17 ho hb hg hat; rw [← Ny456.out] at ho; have n0_ := Aside0.mk (Kd.R_after (ok := (fun _ => True)) (by (with_reducible repeat (first | apply Kd.R_alloc | apply Kd.R_drewN | apply Kd.R_drew)); exact Kd.R_mono HO455.out (fun _ hk => ⟨trivial, hk⟩)) hg hat); have n1_ := Aside0.mk (hb); have n2_ := Aside0.mk (ho); clear HO455; clear HB; clear HO_9; have HO455 := n0_; have HB := n1_; have HO458 := n2_; clear n0_ n1_ n2_; clear ho hb hg hat))
                  go_roundg k1
                  case measure => have := HK1.out; omega
                  case rel => exact ⟨(y453), (y456), (wrap64 (x10_1 + 1)), (by first | rfl | (simp; done) | (simp [*]; done)), H', ⟨by have := HK1.out; omega⟩, ⟨by (with_reducible repeat (first | apply Kd.R_alloc | apply Kd.R_drewN | apply Kd.R_drew)); exact Kd.R_mono HO455.out (fun _ hk => hk.2)⟩, ⟨by (with_reducible repeat (first | apply Kd.R_alloc | apply Kd.R_drewN | apply Kd.R_drew)); exact HO458.out⟩, ⟨by repeat (first | (with_reducible first | exact HB.out | apply below_alloc | apply pw_below_drewN | apply below_drew1) | exact HB.out)⟩⟩
                · rw [if_neg c15] at H
                  exact absurd H (by simp)
              · rw [if_neg c14] at H
                have c14b0 : ((Go.bits .and .i64 (ji13) 1) == 1) = false := beq_eq_false_iff_ne.mpr c14
                have c14b1 : ((Go.bits .and .i64 (ji13) 1) != 1) = true := bne_iff_ne.mpr c14
                have H' := Aside0.mk H
                clear H
                go_wp2_with (first | ((with_reducible refine gate_builtin (b := .append) (xs := #[.tmp 27, .tmp 29]) rfl ?_); (try (refine gate_guard (by rfl) ?_; dsimp only)); at_builtin; refine Kd.R_append (Kd.int .i64) (w0 := w) w.heap.size rfl (.tmp 27) (.tmp 29) 28 3 (.int .i64 0) 8 rfl Try.underlying28 info3 rfl (by decide) (by omega) u8 x8_1 x10_1 [.int .i64 x10_1] (fun k_ => some k_ ≠ (u9 : Value).ownBlock) (fun _ => False) rfl rfl ?aP (fun _ hk => hk.elim) ?aF ?aO ?aB ?aS ?aL ?_; (case aP => exact rfl); (case aB => exact (by repeat (first | (with_reducible first | exact HB.out | apply below_alloc | apply pw_below_drewN | apply below_drew1) | exact HB.out))); (case aF => exact (fun k_ hk => Kd.fresh' (Kd.R_lt (by (with_reducible repeat (first | apply Kd.R_alloc | apply Kd.R_drewN | apply Kd.R_drew)); exact HO_9.out)) k_ hk)); (case aO => exact (by (with_reducible repeat (first | apply Kd.R_alloc | apply Kd.R_drewN | apply Kd.R_drew)); exact HO_8.out)); (case aS => exact (below_size (by repeat (first | (with_reducible first | exact HB.out | apply below_alloc | apply pw_below_drewN | apply below_drew1) | exact HB.out)))); (case aL => have := LMc11.out; omega); intro v454 w18 ho hb hg hat; rw [← Ny453.out] at ho; have n0_ := Aside0.mk (Kd.R_after (ok := (fun _ => True)) (by (with_reducible repeat (first | apply Kd.R_alloc | apply Kd.R_drewN | apply Kd.R_drew)); exact Kd.R_mono HO_9.out (fun _ hk => ⟨trivial, hk⟩)) hg hat); have n1_ := Aside0.mk (hb); have n2_ := Aside0.mk (ho); clear HO_9; clear HB; clear HO_8; have HO_9 := n0_; have HB := n1_; have HO455 := n2_; clear n0_ n1_ n2_; clear ho hb hg hat))
                go_roundg k1
                case measure => have := HK1.out; omega
                case rel => exact ⟨(y453), (x9_1), (wrap64 (x10_1 + 1)), (by first | rfl | (simp; done) | (simp [*]; done)), H', ⟨by have := HK1.out; omega⟩, ⟨by (with_reducible repeat (first | apply Kd.R_alloc | apply Kd.R_drewN | apply Kd.R_drew)); exact HO455.out⟩, ⟨by (with_reducible repeat (first | apply Kd.R_alloc | apply Kd.R_drewN | apply Kd.R_drew)); exact Kd.R_mono HO_9.out (fun _ hk => hk.2)⟩, ⟨by repeat (first | (with_reducible first | exact HB.out | apply below_alloc | apply pw_below_drewN | apply below_drew1) | exact HB.out)⟩⟩
            · rw [if_neg c11] at H
              exact absurd H (by simp)
          · rw [if_neg c10] at H
            have c10b0 : ((Go.bits .and .i64 (ji9) 1) == 1) = false := beq_eq_false_iff_ne.mpr c10
            have c10b1 : ((Go.bits .and .i64 (ji9) 1) != 1) = true := bne_iff_ne.mpr c10
            have c19b0 := eq_true (of_decide_eq_true (by first | (with_reducible assumption) | assumption) : 0 ≤ (ji7))
            obtain ⟨ji20, hji20⟩ : ∃ j_ : Int, (shr .i64 a1 (ji7)) = j_ := ⟨_, rfl⟩
            replace H : (if (Go.bits .and .i64 (ji20) 1) = 1 then (if x9_1.length < 17592186044416 then (gemotlaw10_ViewRows.l0 k1 a0 a1 a2 t452 x8_1 (x9_1 ++ [x10_1]) (wrap64 (x10_1 + 1))) else (none)) else (gemotlaw10_ViewRows.l0 k1 a0 a1 a2 t452 x8_1 x9_1 (wrap64 (x10_1 + 1)))) = some r := by first | (rw [hji20] at H; exact H) | (simp only [hji20] at H ⊢; exact H)
            have hji20_ : (a1 / 2 ^ min (ji7).toNat 64) = ji20 := hji20
            have hji20z : (ji7) ≤ 64 → (a1 / 2 ^ (ji7).toNat) = ji20 := shr_small hji20
            by_cases c21 : (Go.bits .and .i64 (ji20) 1) = 1
            · rw [if_pos c21] at H
              have c21b0 : ((Go.bits .and .i64 (ji20) 1) == 1) = true := beq_iff_eq.mpr c21
              have c21b1 : ((Go.bits .and .i64 (ji20) 1) != 1) = false := bne_eq_false_iff_eq.mpr c21
              clear c21
              by_cases c22 : x9_1.length < 17592186044416
              · rw [if_pos c22] at H
                have LMc22 := Aside0.mk c22
                clear c22
                obtain ⟨y459, hy459⟩ : ∃ y_ : List Int, y_ = (x9_1 ++ [x10_1]) := ⟨_, rfl⟩
                replace H : (gemotlaw10_ViewRows.l0 k1 a0 a1 a2 t452 x8_1 y459 (wrap64 (x10_1 + 1))) = some r := by first | (rw [hy459]; with_reducible exact H) | (have H2_ := (Option.bind_some _ _).symm.trans H; rw [hy459]; with_reducible exact H2_) | (have H2_ := (Option.bind_some _ _).symm.trans H; with_reducible exact H2_) | with_reducible exact H | (rw [hy459]; exact H) | exact H
                have Ny459 := Aside0.mk hy459
                clear hy459
                have H' := Aside0.mk H
                clear H
                go_wp2_with (first | ((with_reducible refine gate_builtin (b := .append) (xs := #[.tmp 37, .tmp 39]) rfl ?_); (try (refine gate_guard (by rfl) ?_; dsimp only)); at_builtin; refine Kd.R_append (Kd.int .i64) (w0 := w) w.heap.size rfl (.tmp 37) (.tmp 39) 28 3 (.int .i64 0) 8 rfl Try.underlying28 info3 rfl (by decide) (by omega) u9 x9_1 x10_1 [.int .i64 x10_1] (fun k_ => some k_ ≠ (u8 : Value).ownBlock) (fun _ => False) rfl rfl ?aP (fun _ hk => hk.elim) ?aF ?aO ?aB ?aS ?aL ?_; (case aP => exact rfl); (case aB => exact (by repeat (first | (with_reducible first | exact HB.out | apply below_alloc | apply pw_below_drewN | apply below_drew1) | exact HB.out))); (case aF => exact (fun k_ hk => Kd.fresh' (Kd.R_lt (by (with_reducible repeat (first | apply Kd.R_alloc | apply Kd.R_drewN | apply Kd.R_drew)); exact HO_8.out)) k_ hk)); (case aO => exact (by (with_reducible repeat (first | apply Kd.R_alloc | apply Kd.R_drewN | apply Kd.R_drew)); exact HO_9.out)); (case aS => exact (below_size (by repeat (first | (with_reducible first | exact HB.out | apply below_alloc | apply pw_below_drewN | apply below_drew1) | exact HB.out)))); (case aL => have := LMc22.out; omega); intro v460 w23 ho hb hg hat; rw [← Ny459.out] at ho; have n0_ := Aside0.mk (Kd.R_after (ok := (fun _ => True)) (by (with_reducible repeat (first | apply Kd.R_alloc | apply Kd.R_drewN | apply Kd.R_drew)); exact Kd.R_mono HO_8.out (fun _ hk => ⟨trivial, hk⟩)) hg hat); have n1_ := Aside0.mk (hb); have n2_ := Aside0.mk (ho); clear HO_8; clear HB; clear HO_9; have HO_8 := n0_; have HB := n1_; have HO461 := n2_; clear n0_ n1_ n2_; clear ho hb hg hat))
                go_roundg k1
                case measure => have := HK1.out; omega
                case rel => exact ⟨(x8_1), (y459), (wrap64 (x10_1 + 1)), (by first | rfl | (simp; done) | (simp [*]; done)), H', ⟨by have := HK1.out; omega⟩, ⟨by (with_reducible repeat (first | apply Kd.R_alloc | apply Kd.R_drewN | apply Kd.R_drew)); exact Kd.R_mono HO_8.out (fun _ hk => hk.2)⟩, ⟨by (with_reducible repeat (first | apply Kd.R_alloc | apply Kd.R_drewN | apply Kd.R_drew)); exact HO461.out⟩, ⟨by repeat (first | (with_reducible first | exact HB.out | apply below_alloc | apply pw_below_drewN | apply below_drew1) | exact HB.out)⟩⟩
              · rw [if_neg c22] at H
                exact absurd H (by simp)
            · rw [if_neg c21] at H
              have c21b0 : ((Go.bits .and .i64 (ji20) 1) == 1) = false := beq_eq_false_iff_ne.mpr c21
              have c21b1 : ((Go.bits .and .i64 (ji20) 1) != 1) = true := bne_iff_ne.mpr c21
              have H' := Aside0.mk H
              clear H
              go_wp2
              go_roundg k1
              case measure => have := HK1.out; omega
              case rel => exact ⟨(x8_1), (x9_1), (wrap64 (x10_1 + 1)), (by first | rfl | (simp; done) | (simp [*]; done)), H', ⟨by have := HK1.out; omega⟩, ⟨by (with_reducible repeat (first | apply Kd.R_alloc | apply Kd.R_drewN | apply Kd.R_drew)); exact HO_8.out⟩, ⟨by (with_reducible repeat (first | apply Kd.R_alloc | apply Kd.R_drewN | apply Kd.R_drew)); exact HO_9.out⟩, ⟨by repeat (first | (with_reducible first | exact HB.out | apply below_alloc | apply pw_below_drewN | apply below_drew1) | exact HB.out)⟩⟩
        · rw [if_neg c8] at H
          exact absurd H (by simp)
      · rw [if_neg c6] at H
        have c6b0 : decide (x10_1 ≤ 8) = false := decide_eq_false c6
        clear c6
        replace H := Option.bind_eq_some_iff.mp H
        obtain ⟨t462, A240, H⟩ := H
        replace H : ((view_Without.f x8_1 x9_1).bind fun t465 => (if t452 = true then ((view_Row.f k1 x8_1).bind fun t468 => (if (t468 != (decide ((x8_1.length : Int) > 0))) = true then (gemotlaw10_ViewRows.j1 k1 a2 x8_1 true) else (if (wrap64 ((t462.length : Int) + (t465.length : Int))) = (x8_1.length : Int) then ((view_Row.f k1 t462).bind fun t469 => (if (t469 != (decide ((t462.length : Int) > 0))) = true then (gemotlaw10_ViewRows.j1 k1 a2 x8_1 true) else ((view_Row.f k1 t465).bind fun t470 => (if (t470 != (decide ((t465.length : Int) > 0))) = true then (gemotlaw10_ViewRows.j1 k1 a2 x8_1 true) else ((view_Both.f x9_1 x8_1).bind fun t471 => ((view_Same.f k1 t462 t471).bind fun t474 => (gemotlaw10_ViewRows.j1 k1 a2 x8_1 (!t474)))))))) else (gemotlaw10_ViewRows.j1 k1 a2 x8_1 true)))) else (gemotlaw10_ViewRows.j1 k1 a2 x8_1 true))) = some r := H
        have A24 := Aside0.mk A240
        clear A240
        replace H := Option.bind_eq_some_iff.mp H
        obtain ⟨t465, A250, H⟩ := H
        replace H : (if t452 = true then ((view_Row.f k1 x8_1).bind fun t468 => (if (t468 != (decide ((x8_1.length : Int) > 0))) = true then (gemotlaw10_ViewRows.j1 k1 a2 x8_1 true) else (if (wrap64 ((t462.length : Int) + (t465.length : Int))) = (x8_1.length : Int) then ((view_Row.f k1 t462).bind fun t469 => (if (t469 != (decide ((t462.length : Int) > 0))) = true then (gemotlaw10_ViewRows.j1 k1 a2 x8_1 true) else ((view_Row.f k1 t465).bind fun t470 => (if (t470 != (decide ((t465.length : Int) > 0))) = true then (gemotlaw10_ViewRows.j1 k1 a2 x8_1 true) else ((view_Both.f x9_1 x8_1).bind fun t471 => ((view_Same.f k1 t462 t471).bind fun t474 => (gemotlaw10_ViewRows.j1 k1 a2 x8_1 (!t474)))))))) else (gemotlaw10_ViewRows.j1 k1 a2 x8_1 true)))) else (gemotlaw10_ViewRows.j1 k1 a2 x8_1 true)) = some r := H
        have A25 := Aside0.mk A250
        clear A250
        have HC26 := Aside0.mk H
        clear H
        obtain ⟨Ao27, co27, eo27⟩ := Kd.R_slice HO_8.out
        subst eo27
        obtain ⟨Ao28, co28, eo28⟩ := Kd.R_slice HO_9.out
        subst eo28
        go_upto_region 13 with (first | ((with_reducible refine gate_callee (f := 25) rfl ?_); refine goesL_ (some 43) rfl rfl Try.func25 (by kernel_rfl) rfl #[.slice Ao27 x8_1.length co27, .slice Ao28 x9_1.length co28] rfl (by (try simp only [List.map_toArray, List.map_cons, List.map_nil]); first | done | rfl | (simp only [List.length_drop, List.length_take]; rfl)) ?_; (with_reducible refine (view_Both.calls _ _ x8_1 _ _ x9_1 t462 _ ?side1 ?side2 ?side3 ?side4 A24.out).mono ?_); (case side1 => repeat (first | exact (Kd.R_reads' HO_8.out).2.2 | (with_reducible refine Kd.C_alloc ?_ _) | (with_reducible refine Kd.C_drewN ?_ _) | (with_reducible refine Kd.C_drew ?_))); (case side2 => exact (Kd.R_reads' HO_8.out).2.1); (case side3 => repeat (first | exact (Kd.R_reads' HO_9.out).2.2 | (with_reducible refine Kd.C_alloc ?_ _) | (with_reducible refine Kd.C_drewN ?_ _) | (with_reducible refine Kd.C_drew ?_))); (case side4 => exact (Kd.R_reads' HO_9.out).2.1); rintro e w29 ⟨v463, rfl, ho0, hb⟩; refine ⟨_, rfl, ?_⟩; have n0_ := Aside0.mk (Kd.R_elder' (by (with_reducible repeat (first | apply Kd.R_alloc | apply Kd.R_drewN | apply Kd.R_drew)); exact HO_8.out) (Kd.R_base ho0) hb); have n1_ := Aside0.mk (Kd.R_elder' (by (with_reducible repeat (first | apply Kd.R_alloc | apply Kd.R_drewN | apply Kd.R_drew)); exact HO_9.out) (Kd.R_base ho0) hb); have n2_ := Aside0.mk (Kd.R_lower (Kd.R_new' (Kd.R_new' ho0 (Kd.R_lt (by (with_reducible repeat (first | apply Kd.R_alloc | apply Kd.R_drewN | apply Kd.R_drew)); exact HO_8.out))) (Kd.R_lt (by (with_reducible repeat (first | apply Kd.R_alloc | apply Kd.R_drewN | apply Kd.R_drew)); exact HO_9.out))) (below_size (by repeat (first | (with_reducible first | exact HB.out | apply below_alloc | apply pw_below_drewN | apply below_drew1) | exact HB.out)))); have n3_ := Aside0.mk (below_step (by repeat (first | (with_reducible first | exact HB.out | apply below_alloc | apply pw_below_drewN | apply below_drew1) | exact HB.out)) hb); clear HO_8; clear HO_9; clear HB; have HO_8 := n0_; have HO_9 := n1_; have HO464 := n2_; have HB := n3_; clear n0_ n1_ n2_ n3_; (try clear hb); (try clear hb2); (try clear hk); (try clear hi); (try clear ho0)) | ((with_reducible refine gate_callee (f := 26) rfl ?_); refine goesL_ (some 46) rfl rfl Try.func26 (by kernel_rfl) rfl #[.slice Ao27 x8_1.length co27, .slice Ao28 x9_1.length co28] rfl (by (try simp only [List.map_toArray, List.map_cons, List.map_nil]); first | done | rfl | (simp only [List.length_drop, List.length_take]; rfl)) ?_; (with_reducible refine (view_Without.calls _ _ x8_1 _ _ x9_1 t465 _ ?side1 ?side2 ?side3 ?side4 A25.out).mono ?_); (case side1 => repeat (first | exact (Kd.R_reads' HO_8.out).2.2 | (with_reducible refine Kd.C_alloc ?_ _) | (with_reducible refine Kd.C_drewN ?_ _) | (with_reducible refine Kd.C_drew ?_))); (case side2 => exact (Kd.R_reads' HO_8.out).2.1); (case side3 => repeat (first | exact (Kd.R_reads' HO_9.out).2.2 | (with_reducible refine Kd.C_alloc ?_ _) | (with_reducible refine Kd.C_drewN ?_ _) | (with_reducible refine Kd.C_drew ?_))); (case side4 => exact (Kd.R_reads' HO_9.out).2.1); rintro e w30 ⟨v466, rfl, ho0, hb⟩; refine ⟨_, rfl, ?_⟩; have n0_ := Aside0.mk (Kd.R_elder' (by (with_reducible repeat (first | apply Kd.R_alloc | apply Kd.R_drewN | apply Kd.R_drew)); exact HO_8.out) (Kd.R_base ho0) hb); have n1_ := Aside0.mk (Kd.R_elder' (by (with_reducible repeat (first | apply Kd.R_alloc | apply Kd.R_drewN | apply Kd.R_drew)); exact HO_9.out) (Kd.R_base ho0) hb); have n2_ := Aside0.mk (Kd.R_elder' (by (with_reducible repeat (first | apply Kd.R_alloc | apply Kd.R_drewN | apply Kd.R_drew)); exact HO464.out) (Kd.R_base ho0) hb); have n3_ := Aside0.mk (Kd.R_lower (Kd.R_new' (Kd.R_new' (Kd.R_new' ho0 (Kd.R_lt (by (with_reducible repeat (first | apply Kd.R_alloc | apply Kd.R_drewN | apply Kd.R_drew)); exact HO_8.out))) (Kd.R_lt (by (with_reducible repeat (first | apply Kd.R_alloc | apply Kd.R_drewN | apply Kd.R_drew)); exact HO_9.out))) (Kd.R_lt (by (with_reducible repeat (first | apply Kd.R_alloc | apply Kd.R_drewN | apply Kd.R_drew)); exact HO464.out))) (below_size (by repeat (first | (with_reducible first | exact HB.out | apply below_alloc | apply pw_below_drewN | apply below_drew1) | exact HB.out)))); have n4_ := Aside0.mk (below_step (by repeat (first | (with_reducible first | exact HB.out | apply below_alloc | apply pw_below_drewN | apply below_drew1) | exact HB.out)) hb); clear HO_8; clear HO_9; clear HO464; clear HB; have HO_8 := n0_; have HO_9 := n1_; have HO464 := n2_; have HO467 := n3_; have HB := n4_; clear n0_ n1_ n2_ n3_ n4_; (try clear hb); (try clear hb2); (try clear hk); (try clear hi); (try clear ho0)))
        (try simp only [Act.put, List.setIfInBounds_toArray, List.set_cons_zero, List.set_cons_succ])
        go_cut [90] (fun v90 wc => ∃ (kq : Nat) (x90_25 : Bool), v90 = .bool x90_25 ∧ Aside0 (gemotlaw10_ViewRows.j1 kq a2 x8_1 x90_25 = some r) ∧ Aside0 (kq ≤ k1) ∧ Aside0 (Kd.R (Kd.int .i64) 3 wc w.heap.size (fun _ => True) (.slice Ao27 x8_1.length co27) x8_1) ∧ Aside0 (Below w.heap.size w wc))
        case first =>
          have H := HC26.out
          clear HC26
          obtain ⟨Ao464, co464, eo464⟩ := Kd.R_slice HO464.out
          subst eo464
          obtain ⟨Ao467, co467, eo467⟩ := Kd.R_slice HO467.out
          subst eo467
          by_cases c31 : t452 = true
          · subst c31
            have H1 : ((view_Row.f k1 x8_1).bind fun t468 => (if (t468 != (decide ((x8_1.length : Int) > 0))) = true then (gemotlaw10_ViewRows.j1 k1 a2 x8_1 true) else (if (wrap64 ((t462.length : Int) + (t465.length : Int))) = (x8_1.length : Int) then ((view_Row.f k1 t462).bind fun t469 => (if (t469 != (decide ((t462.length : Int) > 0))) = true then (gemotlaw10_ViewRows.j1 k1 a2 x8_1 true) else ((view_Row.f k1 t465).bind fun t470 => (if (t470 != (decide ((t465.length : Int) > 0))) = true then (gemotlaw10_ViewRows.j1 k1 a2 x8_1 true) else ((view_Both.f x9_1 x8_1).bind fun t471 => ((view_Same.f k1 t462 t471).bind fun t474 => (gemotlaw10_ViewRows.j1 k1 a2 x8_1 (!t474)))))))) else (gemotlaw10_ViewRows.j1 k1 a2 x8_1 true)))) = some r := by rw [if_pos rfl] at H; exact H
            clear H
            have H := H1
            clear H1
            replace H := Option.bind_eq_some_iff.mp H
            obtain ⟨t468, A320, H⟩ := H
            replace H : (if (t468 != (decide ((x8_1.length : Int) > 0))) = true then (gemotlaw10_ViewRows.j1 k1 a2 x8_1 true) else (if (wrap64 ((t462.length : Int) + (t465.length : Int))) = (x8_1.length : Int) then ((view_Row.f k1 t462).bind fun t469 => (if (t469 != (decide ((t462.length : Int) > 0))) = true then (gemotlaw10_ViewRows.j1 k1 a2 x8_1 true) else ((view_Row.f k1 t465).bind fun t470 => (if (t470 != (decide ((t465.length : Int) > 0))) = true then (gemotlaw10_ViewRows.j1 k1 a2 x8_1 true) else ((view_Both.f x9_1 x8_1).bind fun t471 => ((view_Same.f k1 t462 t471).bind fun t474 => (gemotlaw10_ViewRows.j1 k1 a2 x8_1 (!t474)))))))) else (gemotlaw10_ViewRows.j1 k1 a2 x8_1 true))) = some r := H
            have A32 := Aside0.mk A320
            clear A320
            by_cases c33 : (t468 != (decide ((x8_1.length : Int) > 0))) = true
            · rw [if_pos c33] at H
              have c33b0 : (t468 != (decide ((x8_1.length : Int) > 0))) = true := c33
              have c33n0 : ¬ (t468 = decide (0 < x8_1.length)) := by simpa using c33b0
              have c33n1 : (t468 == decide (0 < x8_1.length)) = false := by simpa using c33b0
              have c33n2 : (t468 != decide (0 < x8_1.length)) = true := by simpa using c33b0
              (try (have c33b1 : decide (t468 = (decide ((x8_1.length : Int) > 0))) = false := by simpa using c33))
              (try (have c33b2 : (t468 == (decide ((x8_1.length : Int) > 0))) = false := by simpa using c33))
              (try (have c33b3 : ¬ (t468 = (decide ((x8_1.length : Int) > 0))) := by simpa using c33))
              clear c33
              (first | rw [c33b0] | (simp only [i64_w, i32_w]; rw [c33b0]) | skip)
              have H' := Aside0.mk H
              clear H
              go_wp2_with (first | (go_at_call 32; (with_reducible refine (view_Row.calls k1 _ _ x8_1 t468 _ ?side1 ?side2 A32.out).mono ?_); (case side1 => repeat (first | exact (Kd.R_reads' HO_8.out).2.2 | (with_reducible refine Kd.C_alloc ?_ _) | (with_reducible refine Kd.C_drewN ?_ _) | (with_reducible refine Kd.C_drew ?_))); (case side2 => exact (Kd.R_reads' HO_8.out).2.1); rintro e w' ⟨rfl, ⟨nd, rfl⟩⟩))
              go_meet
              case rel => exact ⟨_, (true), (by first | rfl | (simp; done) | (simp [*]; done)), H', ⟨by have := HK1.out; first | omega | exact Nat.le_refl _⟩, ⟨by (with_reducible repeat (first | apply Kd.R_alloc | apply Kd.R_drewN | apply Kd.R_drew)); exact Kd.R_mono HO_8.out (fun _ hk => trivial)⟩, ⟨by repeat (first | (with_reducible first | exact HB.out | apply below_alloc | apply pw_below_drewN | apply below_drew1) | exact HB.out)⟩⟩
            · rw [if_neg c33] at H
              have c33b0 : (t468 != (decide ((x8_1.length : Int) > 0))) = false := by simpa using c33
              have c33n0 : t468 = decide (0 < x8_1.length) := by simpa using c33b0
              have c33n1 : (t468 == decide (0 < x8_1.length)) = true := by simpa using c33b0
              have c33n2 : (t468 != decide (0 < x8_1.length)) = false := by simpa using c33b0
              (try (have c33b1 : decide (t468 = (decide ((x8_1.length : Int) > 0))) = true := by simpa using c33))
              (try (have c33b2 : (t468 == (decide ((x8_1.length : Int) > 0))) = true := by simpa using c33))
              clear c33
              (first | rw [c33b0] | (simp only [i64_w, i32_w]; rw [c33b0]) | skip)
              by_cases c34 : (wrap64 ((t462.length : Int) + (t465.length : Int))) = (x8_1.length : Int)
              · rw [if_pos c34] at H
                have c34b0 : ((wrap64 ((t462.length : Int) + (t465.length : Int))) == (x8_1.length : Int)) = true := beq_iff_eq.mpr c34
                have c34b1 : ((wrap64 ((t462.length : Int) + (t465.length : Int))) != (x8_1.length : Int)) = false := bne_eq_false_iff_eq.mpr c34
                clear c34
                replace H := Option.bind_eq_some_iff.mp H
                obtain ⟨t469, A350, H⟩ := H
                replace H : (if (t469 != (decide ((t462.length : Int) > 0))) = true then (gemotlaw10_ViewRows.j1 k1 a2 x8_1 true) else ((view_Row.f k1 t465).bind fun t470 => (if (t470 != (decide ((t465.length : Int) > 0))) = true then (gemotlaw10_ViewRows.j1 k1 a2 x8_1 true) else ((view_Both.f x9_1 x8_1).bind fun t471 => ((view_Same.f k1 t462 t471).bind fun t474 => (gemotlaw10_ViewRows.j1 k1 a2 x8_1 (!t474))))))) = some r := H
                have A35 := Aside0.mk A350
                clear A350
                by_cases c36 : (t469 != (decide ((t462.length : Int) > 0))) = true
                · rw [if_pos c36] at H
                  have c36b0 : (t469 != (decide ((t462.length : Int) > 0))) = true := c36
                  have c36n0 : ¬ (t469 = decide (0 < t462.length)) := by simpa using c36b0
                  have c36n1 : (t469 == decide (0 < t462.length)) = false := by simpa using c36b0
                  have c36n2 : (t469 != decide (0 < t462.length)) = true := by simpa using c36b0
                  (try (have c36b1 : decide (t469 = (decide ((t462.length : Int) > 0))) = false := by simpa using c36))
                  (try (have c36b2 : (t469 == (decide ((t462.length : Int) > 0))) = false := by simpa using c36))
                  (try (have c36b3 : ¬ (t469 = (decide ((t462.length : Int) > 0))) := by simpa using c36))
                  clear c36
                  have H' := Aside0.mk H
                  clear H
                  go_wp2_with (first | (go_at_call 32; (with_reducible refine (view_Row.calls k1 _ _ x8_1 t468 _ ?side1 ?side2 A32.out).mono ?_); (case side1 => repeat (first | exact (Kd.R_reads' HO_8.out).2.2 | (with_reducible refine Kd.C_alloc ?_ _) | (with_reducible refine Kd.C_drewN ?_ _) | (with_reducible refine Kd.C_drew ?_))); (case side2 => exact (Kd.R_reads' HO_8.out).2.1); rintro e w' ⟨rfl, ⟨nd, rfl⟩⟩) | (go_at_call 32; (with_reducible refine (view_Row.calls k1 _ _ t462 t469 _ ?side1 ?side2 A35.out).mono ?_); (case side1 => repeat (first | exact (Kd.R_reads' HO464.out).2.2 | (with_reducible refine Kd.C_alloc ?_ _) | (with_reducible refine Kd.C_drewN ?_ _) | (with_reducible refine Kd.C_drew ?_))); (case side2 => exact (Kd.R_reads' HO464.out).2.1); rintro e w' ⟨rfl, ⟨nd, rfl⟩⟩))
                  go_meet
                  case rel => exact ⟨_, (true), (by first | rfl | (simp; done) | (simp [*]; done)), H', ⟨by have := HK1.out; first | omega | exact Nat.le_refl _⟩, ⟨by (with_reducible repeat (first | apply Kd.R_alloc | apply Kd.R_drewN | apply Kd.R_drew)); exact Kd.R_mono HO_8.out (fun _ hk => trivial)⟩, ⟨by repeat (first | (with_reducible first | exact HB.out | apply below_alloc | apply pw_below_drewN | apply below_drew1) | exact HB.out)⟩⟩
                · rw [if_neg c36] at H
                  have c36b0 : (t469 != (decide ((t462.length : Int) > 0))) = false := by simpa using c36
                  have c36n0 : t469 = decide (0 < t462.length) := by simpa using c36b0
                  have c36n1 : (t469 == decide (0 < t462.length)) = true := by simpa using c36b0
                  have c36n2 : (t469 != decide (0 < t462.length)) = false := by simpa using c36b0
                  (try (have c36b1 : decide (t469 = (decide ((t462.length : Int) > 0))) = true := by simpa using c36))
                  (try (have c36b2 : (t469 == (decide ((t462.length : Int) > 0))) = true := by simpa using c36))
                  clear c36
                  replace H := Option.bind_eq_some_iff.mp H
                  obtain ⟨t470, A390, H⟩ := H
                  replace H : (if (t470 != (decide ((t465.length : Int) > 0))) = true then (gemotlaw10_ViewRows.j1 k1 a2 x8_1 true) else ((view_Both.f x9_1 x8_1).bind fun t471 => ((view_Same.f k1 t462 t471).bind fun t474 => (gemotlaw10_ViewRows.j1 k1 a2 x8_1 (!t474))))) = some r := H
                  have A39 := Aside0.mk A390
                  clear A390
                  by_cases c40 : (t470 != (decide ((t465.length : Int) > 0))) = true
                  · rw [if_pos c40] at H
                    have c40b0 : (t470 != (decide ((t465.length : Int) > 0))) = true := c40
                    have c40n0 : ¬ (t470 = decide (0 < t465.length)) := by simpa using c40b0
                    have c40n1 : (t470 == decide (0 < t465.length)) = false := by simpa using c40b0
                    have c40n2 : (t470 != decide (0 < t465.length)) = true := by simpa using c40b0
                    (try (have c40b1 : decide (t470 = (decide ((t465.length : Int) > 0))) = false := by simpa using c40))
                    (try (have c40b2 : (t470 == (decide ((t465.length : Int) > 0))) = false := by simpa using c40))
                    (try (have c40b3 : ¬ (t470 = (decide ((t465.length : Int) > 0))) := by simpa using c40))
                    clear c40
                    have H' := Aside0.mk H
                    clear H
                    go_wp2_with (first | (go_at_call 32; (with_reducible refine (view_Row.calls k1 _ _ x8_1 t468 _ ?side1 ?side2 A32.out).mono ?_); (case side1 => repeat (first | exact (Kd.R_reads' HO_8.out).2.2 | (with_reducible refine Kd.C_alloc ?_ _) | (with_reducible refine Kd.C_drewN ?_ _) | (with_reducible refine Kd.C_drew ?_))); (case side2 => exact (Kd.R_reads' HO_8.out).2.1); rintro e w' ⟨rfl, ⟨nd, rfl⟩⟩) | (go_at_call 32; (with_reducible refine (view_Row.calls k1 _ _ t462 t469 _ ?side1 ?side2 A35.out).mono ?_); (case side1 => repeat (first | exact (Kd.R_reads' HO464.out).2.2 | (with_reducible refine Kd.C_alloc ?_ _) | (with_reducible refine Kd.C_drewN ?_ _) | (with_reducible refine Kd.C_drew ?_))); (case side2 => exact (Kd.R_reads' HO464.out).2.1); rintro e w' ⟨rfl, ⟨nd, rfl⟩⟩) | (go_at_call 32; (with_reducible refine (view_Row.calls k1 _ _ t465 t470 _ ?side1 ?side2 A39.out).mono ?_); (case side1 => repeat (first | exact (Kd.R_reads' HO467.out).2.2 | (with_reducible refine Kd.C_alloc ?_ _) | (with_reducible refine Kd.C_drewN ?_ _) | (with_reducible refine Kd.C_drew ?_))); (case side2 => exact (Kd.R_reads' HO467.out).2.1); rintro e w' ⟨rfl, ⟨nd, rfl⟩⟩))
                    go_meet
                    case rel => exact ⟨_, (true), (by first | rfl | (simp; done) | (simp [*]; done)), H', ⟨by have := HK1.out; first | omega | exact Nat.le_refl _⟩, ⟨by (with_reducible repeat (first | apply Kd.R_alloc | apply Kd.R_drewN | apply Kd.R_drew)); exact Kd.R_mono HO_8.out (fun _ hk => trivial)⟩, ⟨by repeat (first | (with_reducible first | exact HB.out | apply below_alloc | apply pw_below_drewN | apply below_drew1) | exact HB.out)⟩⟩
                  · rw [if_neg c40] at H
                    have c40b0 : (t470 != (decide ((t465.length : Int) > 0))) = false := by simpa using c40
                    have c40n0 : t470 = decide (0 < t465.length) := by simpa using c40b0
                    have c40n1 : (t470 == decide (0 < t465.length)) = true := by simpa using c40b0
                    have c40n2 : (t470 != decide (0 < t465.length)) = false := by simpa using c40b0
                    (try (have c40b1 : decide (t470 = (decide ((t465.length : Int) > 0))) = true := by simpa using c40))
                    (try (have c40b2 : (t470 == (decide ((t465.length : Int) > 0))) = true := by simpa using c40))
                    clear c40
                    replace H := Option.bind_eq_some_iff.mp H
                    obtain ⟨t471, A430, H⟩ := H
                    replace H : ((view_Same.f k1 t462 t471).bind fun t474 => (gemotlaw10_ViewRows.j1 k1 a2 x8_1 (!t474))) = some r := H
                    have A43 := Aside0.mk A430
                    clear A430
                    replace H := Option.bind_eq_some_iff.mp H
                    obtain ⟨t474, A440, H⟩ := H
                    replace H : (gemotlaw10_ViewRows.j1 k1 a2 x8_1 (!t474)) = some r := H
                    have A44 := Aside0.mk A440
                    clear A440
                    have H' := Aside0.mk H
                    clear H
                    go_wp2_with (first | (go_at_call 32; (with_reducible refine (view_Row.calls k1 _ _ x8_1 t468 _ ?side1 ?side2 A32.out).mono ?_); (case side1 => repeat (first | exact (Kd.R_reads' HO_8.out).2.2 | (with_reducible refine Kd.C_alloc ?_ _) | (with_reducible refine Kd.C_drewN ?_ _) | (with_reducible refine Kd.C_drew ?_))); (case side2 => exact (Kd.R_reads' HO_8.out).2.1); rintro e w' ⟨rfl, ⟨nd, rfl⟩⟩) | (go_at_call 32; (with_reducible refine (view_Row.calls k1 _ _ t462 t469 _ ?side1 ?side2 A35.out).mono ?_); (case side1 => repeat (first | exact (Kd.R_reads' HO464.out).2.2 | (with_reducible refine Kd.C_alloc ?_ _) | (with_reducible refine Kd.C_drewN ?_ _) | (with_reducible refine Kd.C_drew ?_))); (case side2 => exact (Kd.R_reads' HO464.out).2.1); rintro e w' ⟨rfl, ⟨nd, rfl⟩⟩) | (go_at_call 32; (with_reducible refine (view_Row.calls k1 _ _ t465 t470 _ ?side1 ?side2 A39.out).mono ?_); (case side1 => repeat (first | exact (Kd.R_reads' HO467.out).2.2 | (with_reducible refine Kd.C_alloc ?_ _) | (with_reducible refine Kd.C_drewN ?_ _) | (with_reducible refine Kd.C_drew ?_))); (case side2 => exact (Kd.R_reads' HO467.out).2.1); rintro e w' ⟨rfl, ⟨nd, rfl⟩⟩) | (go_at_call 25; (with_reducible refine (view_Both.calls _ _ x9_1 _ _ x8_1 t471 _ ?side1 ?side2 ?side3 ?side4 A43.out).mono ?_); (case side1 => repeat (first | exact (Kd.R_reads' HO_9.out).2.2 | (with_reducible refine Kd.C_alloc ?_ _) | (with_reducible refine Kd.C_drewN ?_ _) | (with_reducible refine Kd.C_drew ?_))); (case side2 => exact (Kd.R_reads' HO_9.out).2.1); (case side3 => repeat (first | exact (Kd.R_reads' HO_8.out).2.2 | (with_reducible refine Kd.C_alloc ?_ _) | (with_reducible refine Kd.C_drewN ?_ _) | (with_reducible refine Kd.C_drew ?_))); (case side4 => exact (Kd.R_reads' HO_8.out).2.1); rintro e w47 ⟨v472, rfl, ho0, hb⟩; have n0_ := Aside0.mk (Kd.R_elder' (by (with_reducible repeat (first | apply Kd.R_alloc | apply Kd.R_drewN | apply Kd.R_drew)); exact HO_8.out) (Kd.R_base ho0) hb); have n1_ := Aside0.mk (Kd.R_elder' (by (with_reducible repeat (first | apply Kd.R_alloc | apply Kd.R_drewN | apply Kd.R_drew)); exact HO_9.out) (Kd.R_base ho0) hb); have n2_ := Aside0.mk (Kd.R_elder' (by (with_reducible repeat (first | apply Kd.R_alloc | apply Kd.R_drewN | apply Kd.R_drew)); exact HO464.out) (Kd.R_base ho0) hb); have n3_ := Aside0.mk (Kd.R_elder' (by (with_reducible repeat (first | apply Kd.R_alloc | apply Kd.R_drewN | apply Kd.R_drew)); exact HO467.out) (Kd.R_base ho0) hb); have n4_ := Aside0.mk (Kd.R_lower (Kd.R_new' (Kd.R_new' (Kd.R_new' (Kd.R_new' ho0 (Kd.R_lt (by (with_reducible repeat (first | apply Kd.R_alloc | apply Kd.R_drewN | apply Kd.R_drew)); exact HO_8.out))) (Kd.R_lt (by (with_reducible repeat (first | apply Kd.R_alloc | apply Kd.R_drewN | apply Kd.R_drew)); exact HO_9.out))) (Kd.R_lt (by (with_reducible repeat (first | apply Kd.R_alloc | apply Kd.R_drewN | apply Kd.R_drew)); exact HO464.out))) (Kd.R_lt (by (with_reducible repeat (first | apply Kd.R_alloc | apply Kd.R_drewN | apply Kd.R_drew)); exact HO467.out))) (below_size (by repeat (first | (with_reducible first | exact HB.out | apply below_alloc | apply pw_below_drewN | apply below_drew1) | exact HB.out)))); have n5_ := Aside0.mk (below_step (by repeat (first | (with_reducible first | exact HB.out | apply below_alloc | apply pw_below_drewN | apply below_drew1) | exact HB.out)) hb); clear HO_8; clear HO_9; clear HO464; clear HO467; clear HB; have HO_8 := n0_; have HO_9 := n1_; have HO464 := n2_; have HO467 := n3_; have HO473 := n4_; have HB := n5_; clear n0_ n1_ n2_ n3_ n4_ n5_; (try clear hb); (try clear hb2); (try clear hk); (try clear hi); (try clear ho0); obtain ⟨Ao48, co48, eo48⟩ := Kd.R_slice HO473.out; subst eo48) | (go_at_call 30; (with_reducible refine (view_Same.calls k1 _ _ t462 _ _ t471 t474 _ ?side1 ?side2 ?side3 ?side4 A44.out).mono ?_); (case side1 => repeat (first | exact (Kd.R_reads' HO464.out).2.2 | (with_reducible refine Kd.C_alloc ?_ _) | (with_reducible refine Kd.C_drewN ?_ _) | (with_reducible refine Kd.C_drew ?_))); (case side2 => exact (Kd.R_reads' HO464.out).2.1); (case side3 => repeat (first | exact (Kd.R_reads' HO473.out).2.2 | (with_reducible refine Kd.C_alloc ?_ _) | (with_reducible refine Kd.C_drewN ?_ _) | (with_reducible refine Kd.C_drew ?_))); (case side4 => exact (Kd.R_reads' HO473.out).2.1); rintro e w' ⟨rfl, ⟨nd, rfl⟩⟩))
                    go_meet
                    case rel => exact ⟨_, (!t474), (by first | rfl | (simp; done) | (simp [*]; done)), H', ⟨by have := HK1.out; first | omega | exact Nat.le_refl _⟩, ⟨by (with_reducible repeat (first | apply Kd.R_alloc | apply Kd.R_drewN | apply Kd.R_drew)); exact Kd.R_mono HO_8.out (fun _ hk => trivial)⟩, ⟨by repeat (first | (with_reducible first | exact HB.out | apply below_alloc | apply pw_below_drewN | apply below_drew1) | exact HB.out)⟩⟩
              · rw [if_neg c34] at H
                have c34b0 : ((wrap64 ((t462.length : Int) + (t465.length : Int))) == (x8_1.length : Int)) = false := beq_eq_false_iff_ne.mpr c34
                have c34b1 : ((wrap64 ((t462.length : Int) + (t465.length : Int))) != (x8_1.length : Int)) = true := bne_iff_ne.mpr c34
                have H' := Aside0.mk H
                clear H
                go_wp2_with (first | (go_at_call 32; (with_reducible refine (view_Row.calls k1 _ _ x8_1 t468 _ ?side1 ?side2 A32.out).mono ?_); (case side1 => repeat (first | exact (Kd.R_reads' HO_8.out).2.2 | (with_reducible refine Kd.C_alloc ?_ _) | (with_reducible refine Kd.C_drewN ?_ _) | (with_reducible refine Kd.C_drew ?_))); (case side2 => exact (Kd.R_reads' HO_8.out).2.1); rintro e w' ⟨rfl, ⟨nd, rfl⟩⟩))
                go_meet
                case rel => exact ⟨_, (true), (by first | rfl | (simp; done) | (simp [*]; done)), H', ⟨by have := HK1.out; first | omega | exact Nat.le_refl _⟩, ⟨by (with_reducible repeat (first | apply Kd.R_alloc | apply Kd.R_drewN | apply Kd.R_drew)); exact Kd.R_mono HO_8.out (fun _ hk => trivial)⟩, ⟨by repeat (first | (with_reducible first | exact HB.out | apply below_alloc | apply pw_below_drewN | apply below_drew1) | exact HB.out)⟩⟩
          · replace c31 := Bool.eq_false_iff.mpr c31
            subst c31
            have H1 : (gemotlaw10_ViewRows.j1 k1 a2 x8_1 true) = some r := by rw [if_neg (show ¬ (false = true) by decide)] at H; exact H
            clear H
            have H := H1
            clear H1
            have H' := Aside0.mk H
            clear H
            go_wp2
            go_meet
            case rel => exact ⟨_, (true), (by first | rfl | (simp; done) | (simp [*]; done)), H', ⟨by have := HK1.out; first | omega | exact Nat.le_refl _⟩, ⟨by (with_reducible repeat (first | apply Kd.R_alloc | apply Kd.R_drewN | apply Kd.R_drew)); exact Kd.R_mono HO_8.out (fun _ hk => trivial)⟩, ⟨by repeat (first | (with_reducible first | exact HB.out | apply below_alloc | apply pw_below_drewN | apply below_drew1) | exact HB.out)⟩⟩
        case rest =>
          clear HC26
          try clear c1
          try clear c2
          try clear p2
          try clear c3
          try clear c4
          try clear c6
          try clear c6b0
          try clear p6
          try clear c8
          try clear c8b0
          try clear c8b1
          try clear c9
          try clear c10
          try clear c10b0
          try clear c10b1
          try clear c11
          try clear c12
          try clear c12b0
          try clear c14
          try clear c14b0
          try clear c14b1
          try clear c15
          try clear c19
          try clear c19b0
          try clear c21
          try clear c21b0
          try clear c21b1
          try clear c22
          try clear c25
          try clear c26
          try clear c31
          try clear c33
          try clear c33b0
          try clear c33b1
          try clear c33b2
          try clear c34
          try clear c34b0
          try clear c34b1
          try clear c36
          try clear c36b0
          try clear c36b1
          try clear c36b2
          try clear c40
          try clear c40b0
          try clear c40b1
          try clear c40b2
          try clear p2
          obtain ⟨kq, x90_25, rfl, HA, HJ25, HO_8, HB⟩ := hcut
          cases kq with
          | zero => exact absurd HA.out (by simp [gemotlaw10_ViewRows.j1])
          | succ kj25 =>
            have H := HA.out
            clear HA
            simp only [gemotlaw10_ViewRows.j1] at H
            by_cases c51 : x90_25 = true
            · subst c51
              have H1 : (some false) = some r := by rw [if_pos rfl] at H; exact H
              clear H
              have H := H1
              clear H1
              obtain rfl := Option.some.inj H
              go_wp2
              go_ret
              exact ⟨by first | rfl | (simp [errW_none, errW_some] <;> rfl) | (simp [*, errW_none, errW_some] <;> rfl), by repeat (first | (with_reducible first | exact HB.out | apply below_alloc | apply pw_below_drewN | apply below_drew1) | exact HB.out)⟩
            · replace c51 := Bool.eq_false_iff.mpr c51
              subst c51
              have H1 : (if (x8_1.length : Int) = 0 then ((view_Right.f kj25 0 0 ([] : List Int)).bind fun t475 => (some (!t475))) else (if 0 < (x8_1.length : Int) then ((view_Term.f kj25 a2 (rd x8_1 0) x8_1).bind fun bt478 => ((view_Right.f kj25 a2 (rd x8_1 0) x8_1).bind fun t480 => (if a2 ≥ 0 then (if (t480 == (decide (a2 ≤ 2147483647))) = true then ((view_Right.f kj25 a2 (rd x8_1 0) x8_1).bind fun t481 => (some ((bt478.2 == 0) == t481))) else (some false)) else (if (t480 == false) = true then ((view_Right.f kj25 a2 (rd x8_1 0) x8_1).bind fun t482 => (some ((bt478.2 == 0) == t482))) else (some false))))) else (none))) = some r := by rw [if_neg (show ¬ (false = true) by decide)] at H; exact H
              clear H
              have H := H1
              clear H1
              by_cases c52 : (x8_1.length : Int) = 0
              · rw [if_pos c52] at H
                have c52b0 : ((x8_1.length : Int) == 0) = true := beq_iff_eq.mpr c52
                have c52b1 : ((x8_1.length : Int) != 0) = false := bne_eq_false_iff_eq.mpr c52
                clear c52
                replace H := Option.bind_eq_some_iff.mp H
                obtain ⟨t475, A530, H⟩ := H
                replace H : (some (!t475)) = some r := H
                have A53 := Aside0.mk A530
                clear A530
                obtain rfl := Option.some.inj H
                go_wp2_with (first | ((with_reducible refine gate_callee (f := 29) rfl ?_); refine goesL_ (some 95) rfl rfl Try.func29 (by kernel_rfl) rfl #[.agg #[.int .i64 0, .int .i64 0, .slice none 0 0]] rfl (by (try simp only [List.map_toArray, List.map_cons, List.map_nil]); first | done | rfl | (simp only [List.length_drop, List.length_take]; rfl)) ?_; (refine (view_Right.calls kj25 0 0 _ _ ([] : List Int) t475 _ ?side1 ?side2 A53.out).mono ?_); (case side1 => exact Kd.C_nil _ _); (case side2 => exact Nat.le_refl _); rintro e w54 ⟨rfl, hb⟩; refine ⟨_, rfl, ?_⟩; have n0_ := Aside0.mk (Kd.R_below (by (with_reducible repeat (first | apply Kd.R_alloc | apply Kd.R_drewN | apply Kd.R_drew)); exact HO_8.out) hb); have n1_ := Aside0.mk (below_step (by repeat (first | (with_reducible first | exact HB.out | apply below_alloc | apply pw_below_drewN | apply below_drew1) | exact HB.out)) hb); clear HO_8; clear HB; have HO_8 := n0_; have HB := n1_; clear n0_ n1_; (try clear hb); (try clear hb2); (try clear hk); (try clear hi)))
                go_ret
                exact ⟨by first | rfl | (simp [errW_none, errW_some] <;> rfl) | (simp [*, errW_none, errW_some] <;> rfl), by repeat (first | (with_reducible first | exact HB.out | apply below_alloc | apply pw_below_drewN | apply below_drew1) | exact HB.out)⟩
              · rw [if_neg c52] at H
                have c52b0 : ((x8_1.length : Int) == 0) = false := beq_eq_false_iff_ne.mpr c52
                have c52b1 : ((x8_1.length : Int) != 0) = true := bne_iff_ne.mpr c52
                have c52b2 : ¬ (x8_1 = []) := fun h_ => c52 (by rw [h_]; rfl)
                by_cases c55 : 0 < (x8_1.length : Int)
                · rw [if_pos c55] at H
                  have c55b0 : decide (0 < (x8_1.length : Int)) = true := decide_eq_true c55
                  have c55b1 : decide (0 < x8_1.length) = true := decide_eq_true (by omega)
                  clear c55
                  replace H := Option.bind_eq_some_iff.mp H
                  obtain ⟨⟨t478, t479⟩, A560, H⟩ := H
                  replace H : ((view_Right.f kj25 a2 (rd x8_1 0) x8_1).bind fun t480 => (if a2 ≥ 0 then (if (t480 == (decide (a2 ≤ 2147483647))) = true then ((view_Right.f kj25 a2 (rd x8_1 0) x8_1).bind fun t481 => (some ((t479 == 0) == t481))) else (some false)) else (if (t480 == false) = true then ((view_Right.f kj25 a2 (rd x8_1 0) x8_1).bind fun t482 => (some ((t479 == 0) == t482))) else (some false)))) = some r := H
                  have A56 := Aside0.mk A560
                  clear A560
                  replace H := Option.bind_eq_some_iff.mp H
                  obtain ⟨t480, A570, H⟩ := H
                  replace H : (if a2 ≥ 0 then (if (t480 == (decide (a2 ≤ 2147483647))) = true then ((view_Right.f kj25 a2 (rd x8_1 0) x8_1).bind fun t481 => (some ((t479 == 0) == t481))) else (some false)) else (if (t480 == false) = true then ((view_Right.f kj25 a2 (rd x8_1 0) x8_1).bind fun t482 => (some ((t479 == 0) == t482))) else (some false))) = some r := H
                  have A57 := Aside0.mk A570
                  clear A570
                  by_cases c58 : a2 ≥ 0
                  · rw [if_pos c58] at H
                    have c58b0 : decide (0 ≤ a2) = true := decide_eq_true c58
                    clear c58
                    by_cases c59 : (t480 == (decide (a2 ≤ 2147483647))) = true
                    · rw [if_pos c59] at H
                      have c59b0 : (t480 == (decide (a2 ≤ 2147483647))) = true := c59
                      (try (have c59b1 : decide (t480 = (decide (a2 ≤ 2147483647))) = true := by simpa using c59))
                      (try (have c59b2 : (t480 == (decide (a2 ≤ 2147483647))) = true := by simpa using c59))
                      clear c59
                      replace H := Option.bind_eq_some_iff.mp H
                      obtain ⟨t481, A600, H⟩ := H
                      replace H : (some ((t479 == 0) == t481)) = some r := H
                      have A60 := Aside0.mk A600
                      clear A600
                      obtain rfl := Option.some.inj H
                      have p476 : 0 ≤ (0 : Int) := (by omega)
                      have q476 : 0 < (x8_1.length : Int) := of_decide_eq_true (by first | (with_reducible assumption) | assumption)
                      obtain ⟨ad476, e476, hx476_0⟩ := Kd.at_int (Kd.R_reads' HO_8.out).2.2 0 p476 q476
                      cases e476
                      have qi476 : (0 < x8_1.length) = True := eq_true (by omega)
                      (try rw [show ((0 : Int)).toNat = 0 from rfl] at hx476_0)
                      (try rw [Addr.add_zero'] at hx476_0)
                      replace p476 := eq_true p476
                      replace q476 := eq_true q476
                      go_wp2_with (first | ((with_reducible refine gate_dst (N := 13) rfl ?_); (try (refine gate_guard (by rfl) ?_; dsimp only)); refine box_event ?hg (N := 13) ?hd (cs := #[.int .i64 0, .int .i64 0, .slice none 0 0]) (t := 53) ?hr ?_; (case hd => rfl); (case hg => rfl); (case hr => first | (go_simp; done) | (go_simp; rfl)); intro gb477 hg w61 hbox hb; have n0_ := Aside0.mk (Kd.R_below (by (with_reducible repeat (first | apply Kd.R_alloc | apply Kd.R_drewN | apply Kd.R_drew)); exact HO_8.out) hb); have n1_ := Aside0.mk (below_step (by repeat (first | (with_reducible first | exact HB.out | apply below_alloc | apply pw_below_drewN | apply below_drew1) | exact HB.out)) hb); have n2_ := Aside0.mk (hbox); have n3_ := Aside0.mk ((by rw [hg]; exact (below_size (by repeat (first | (with_reducible first | exact HB.out | apply below_alloc | apply pw_below_drewN | apply below_drew1) | exact HB.out))) : w.heap.size ≤ gb477)); have n4_ := Aside0.mk ((by rw [hg]; exact (below_size (by repeat (first | (with_reducible first | exact HB.out | apply below_alloc | apply pw_below_drewN | apply below_drew1) | exact HB.out))) : w.heap.size ≤ gb477)); clear HO_8; clear HB; have HO_8 := n0_; have HB := n1_; have BK477 := n2_; have GW477 := n3_; have GE477 := n4_; clear n0_ n1_ n2_ n3_ n4_; clear hb hbox hg; have hcz62_0 : w61.cell? ⟨gb477, 0, none⟩ = some (.int .i64 0) := (blk_cell BK477.out 0).trans rfl; have hcz62_1 : w61.cell? ⟨gb477, 1, none⟩ = some (.int .i64 0) := (blk_cell BK477.out 1).trans rfl; have hcz62_2 : w61.cell? ⟨gb477, 2, none⟩ = some (.slice none 0 0) := (blk_cell BK477.out 2).trans rfl; have hfz62_0 := blk_frozen BK477.out 0; have hfz62_1 := blk_frozen BK477.out 1; have hfz62_2 := blk_frozen BK477.out 2) | ((with_reducible refine gate_callee (f := 28) rfl ?_); refine goesL_ (some 106) rfl rfl Try.func28 (by kernel_rfl) rfl #[.agg #[.int .i64 a2, .int .i64 (rd x8_1 0), .slice (some ad476) x8_1.length co27]] rfl (by (try simp only [List.map_toArray, List.map_cons, List.map_nil]); first | done | rfl | (simp only [List.length_drop, List.length_take]; rfl)) ?_; (with_reducible refine (view_Term.calls kj25 a2 (rd x8_1 0) _ _ x8_1 t478 t479 _ ?side1 ?side2 A56.out).mono ?_); (case side1 => refine (Kd.R_reads' (e := 3) (base := w.heap.size) (ok := fun k_ => True) (n := x8_1.length) (c := co27) ?_).2.2; exact (by (with_reducible repeat (first | apply Kd.R_alloc | apply Kd.R_drewN | apply Kd.R_drew)); exact (Kd.R_mono (Kd.R_far (p := ⟨gb477, 2, none⟩) (Kd.R_far (p := ⟨gb477, 1, none⟩) (Kd.R_far (p := ⟨gb477, 0, none⟩) (Kd.R_types HO_8.out BK477.out (by decide)) (fun _ hk => hk.2) (.int .i64 a2)) (fun _ hk => hk.2) (.int .i64 (rd x8_1 0))) (fun _ hk => hk.2) (.slice (some ad476) x8_1.length co27)) (fun _ h_ => h_.1)))); (case side2 => exact (Kd.R_reads' HO_8.out).2.1); rintro e w63 ⟨rfl, hb⟩; refine ⟨_, rfl, ?_⟩; have n0_ := Aside0.mk (Kd.R_below (by (with_reducible repeat (first | apply Kd.R_alloc | apply Kd.R_drewN | apply Kd.R_drew)); exact (Kd.R_mono (Kd.R_far (p := ⟨gb477, 2, none⟩) (Kd.R_far (p := ⟨gb477, 1, none⟩) (Kd.R_far (p := ⟨gb477, 0, none⟩) (Kd.R_types HO_8.out BK477.out (by decide)) (fun _ hk => hk.2) (.int .i64 a2)) (fun _ hk => hk.2) (.int .i64 (rd x8_1 0))) (fun _ hk => hk.2) (.slice (some ad476) x8_1.length co27)) (fun _ h_ => h_.1))) hb); have n1_ := Aside0.mk (blk_below (g := gb477) (o := .cells #[.int .i64 a2, .int .i64 (rd x8_1 0), .slice (some ad476) x8_1.length co27] 53 (0, 0)) (by (with_reducible repeat (first | refine blk_drewN ?_ _ | refine blk_drew ?_ | refine blk_alloc ?_ _)); refine blk_put (cs := #[.int .i64 a2, .int .i64 (rd x8_1 0), .slice none 0 0]) ?_ 2 _ rfl; (with_reducible repeat (first | refine blk_drewN ?_ _ | refine blk_drew ?_ | refine blk_alloc ?_ _)); refine blk_put (cs := #[.int .i64 a2, .int .i64 0, .slice none 0 0]) ?_ 1 _ rfl; (with_reducible repeat (first | refine blk_drewN ?_ _ | refine blk_drew ?_ | refine blk_alloc ?_ _)); refine blk_put (cs := #[.int .i64 0, .int .i64 0, .slice none 0 0]) ?_ 0 _ rfl; (with_reducible repeat (first | refine blk_drewN ?_ _ | refine blk_drew ?_ | refine blk_alloc ?_ _)); exact BK477.out) hb); have n2_ := Aside0.mk (below_step (by repeat (first | (with_reducible first | exact HB.out | apply below_alloc | apply pw_below_drewN | apply below_drew1 | refine below_set ?_ GE477.out) | exact HB.out)) hb); clear HO_8; clear BK477; clear HB; have HO_8 := n0_; have BK477 := n1_; have HB := n2_; clear n0_ n1_ n2_; (try clear hb); (try clear hb2); (try clear hk); (try clear hi); have hcz64_0 : w63.cell? ⟨gb477, 0, none⟩ = some (.int .i64 a2) := (blk_cell BK477.out 0).trans rfl; have hcz64_1 : w63.cell? ⟨gb477, 1, none⟩ = some (.int .i64 (rd x8_1 0)) := (blk_cell BK477.out 1).trans rfl; have hcz64_2 : w63.cell? ⟨gb477, 2, none⟩ = some (.slice (some ad476) x8_1.length co27) := (blk_cell BK477.out 2).trans rfl; have hfz64_0 := blk_frozen BK477.out 0; have hfz64_1 := blk_frozen BK477.out 1; have hfz64_2 := blk_frozen BK477.out 2) | ((with_reducible refine gate_callee (f := 29) rfl ?_); refine goesL_ (some 110) rfl rfl Try.func29 (by kernel_rfl) rfl #[.agg #[.int .i64 a2, .int .i64 (rd x8_1 0), .slice (some ad476) x8_1.length co27]] rfl (by (try simp only [List.map_toArray, List.map_cons, List.map_nil]); first | done | rfl | (simp only [List.length_drop, List.length_take]; rfl)) ?_; (with_reducible refine (view_Right.calls kj25 a2 (rd x8_1 0) _ _ x8_1 t480 _ ?side1 ?side2 A57.out).mono ?_); (case side1 => repeat (first | exact (Kd.R_reads' HO_8.out).2.2 | (with_reducible refine Kd.C_alloc ?_ _) | (with_reducible refine Kd.C_drewN ?_ _) | (with_reducible refine Kd.C_drew ?_))); (case side2 => exact (Kd.R_reads' HO_8.out).2.1); rintro e w65 ⟨rfl, hb⟩; refine ⟨_, rfl, ?_⟩; have n0_ := Aside0.mk (Kd.R_below (by (with_reducible repeat (first | apply Kd.R_alloc | apply Kd.R_drewN | apply Kd.R_drew)); exact HO_8.out) hb); have n1_ := Aside0.mk (blk_below (g := gb477) (o := .cells #[.int .i64 a2, .int .i64 (rd x8_1 0), .slice (some ad476) x8_1.length co27] 53 (0, 0)) (by (with_reducible repeat (first | refine blk_drewN ?_ _ | refine blk_drew ?_ | refine blk_alloc ?_ _)); exact BK477.out) hb); have n2_ := Aside0.mk (below_step (by repeat (first | (with_reducible first | exact HB.out | apply below_alloc | apply pw_below_drewN | apply below_drew1 | refine below_set ?_ GE477.out) | exact HB.out)) hb); clear HO_8; clear BK477; clear HB; have HO_8 := n0_; have BK477 := n1_; have HB := n2_; clear n0_ n1_ n2_; (try clear hb); (try clear hb2); (try clear hk); (try clear hi); have hcz66_0 : w65.cell? ⟨gb477, 0, none⟩ = some (.int .i64 a2) := (blk_cell BK477.out 0).trans rfl; have hcz66_1 : w65.cell? ⟨gb477, 1, none⟩ = some (.int .i64 (rd x8_1 0)) := (blk_cell BK477.out 1).trans rfl; have hcz66_2 : w65.cell? ⟨gb477, 2, none⟩ = some (.slice (some ad476) x8_1.length co27) := (blk_cell BK477.out 2).trans rfl; have hfz66_0 := blk_frozen BK477.out 0; have hfz66_1 := blk_frozen BK477.out 1; have hfz66_2 := blk_frozen BK477.out 2) | (go_at_call 29; (with_reducible refine (view_Right.calls kj25 a2 (rd x8_1 0) _ _ x8_1 t481 _ ?side1 ?side2 A60.out).mono ?_); (case side1 => repeat (first | exact (Kd.R_reads' HO_8.out).2.2 | (with_reducible refine Kd.C_alloc ?_ _) | (with_reducible refine Kd.C_drewN ?_ _) | (with_reducible refine Kd.C_drew ?_))); (case side2 => exact (Kd.R_reads' HO_8.out).2.1); rintro e w67 ⟨rfl, hb⟩; have n0_ := Aside0.mk (Kd.R_below (by (with_reducible repeat (first | apply Kd.R_alloc | apply Kd.R_drewN | apply Kd.R_drew)); exact HO_8.out) hb); have n1_ := Aside0.mk (blk_below (g := gb477) (o := .cells #[.int .i64 a2, .int .i64 (rd x8_1 0), .slice (some ad476) x8_1.length co27] 53 (0, 0)) (by (with_reducible repeat (first | refine blk_drewN ?_ _ | refine blk_drew ?_ | refine blk_alloc ?_ _)); exact BK477.out) hb); have n2_ := Aside0.mk (below_step (by repeat (first | (with_reducible first | exact HB.out | apply below_alloc | apply pw_below_drewN | apply below_drew1 | refine below_set ?_ GE477.out) | exact HB.out)) hb); clear HO_8; clear BK477; clear HB; have HO_8 := n0_; have BK477 := n1_; have HB := n2_; clear n0_ n1_ n2_; (try clear hb); (try clear hb2); (try clear hk); (try clear hi)))
                      go_ret
                      exact ⟨by first | rfl | (simp [errW_none, errW_some] <;> rfl) | (simp [*, errW_none, errW_some] <;> rfl), by repeat (first | (with_reducible first | exact HB.out | apply below_alloc | apply pw_below_drewN | apply below_drew1 | refine below_set ?_ GE477.out) | exact HB.out)⟩
                    · rw [if_neg c59] at H
                      have c59b0 : (t480 == (decide (a2 ≤ 2147483647))) = false := by simpa using c59
                      (try (have c59b1 : decide (t480 = (decide (a2 ≤ 2147483647))) = false := by simpa using c59))
                      (try (have c59b2 : (t480 == (decide (a2 ≤ 2147483647))) = false := by simpa using c59))
                      (try (have c59b3 : ¬ (t480 = (decide (a2 ≤ 2147483647))) := by simpa using c59))
                      clear c59
                      obtain rfl := Option.some.inj H
                      have p476 : 0 ≤ (0 : Int) := (by omega)
                      have q476 : 0 < (x8_1.length : Int) := of_decide_eq_true (by first | (with_reducible assumption) | assumption)
                      obtain ⟨ad476, e476, hx476_0⟩ := Kd.at_int (Kd.R_reads' HO_8.out).2.2 0 p476 q476
                      cases e476
                      have qi476 : (0 < x8_1.length) = True := eq_true (by omega)
                      (try rw [show ((0 : Int)).toNat = 0 from rfl] at hx476_0)
                      (try rw [Addr.add_zero'] at hx476_0)
                      replace p476 := eq_true p476
                      replace q476 := eq_true q476
                      go_wp2_with (first | ((with_reducible refine gate_dst (N := 13) rfl ?_); (try (refine gate_guard (by rfl) ?_; dsimp only)); refine box_event ?hg (N := 13) ?hd (cs := #[.int .i64 0, .int .i64 0, .slice none 0 0]) (t := 53) ?hr ?_; (case hd => rfl); (case hg => rfl); (case hr => first | (go_simp; done) | (go_simp; rfl)); intro gb477 hg w68 hbox hb; have n0_ := Aside0.mk (Kd.R_below (by (with_reducible repeat (first | apply Kd.R_alloc | apply Kd.R_drewN | apply Kd.R_drew)); exact HO_8.out) hb); have n1_ := Aside0.mk (below_step (by repeat (first | (with_reducible first | exact HB.out | apply below_alloc | apply pw_below_drewN | apply below_drew1) | exact HB.out)) hb); have n2_ := Aside0.mk (hbox); have n3_ := Aside0.mk ((by rw [hg]; exact (below_size (by repeat (first | (with_reducible first | exact HB.out | apply below_alloc | apply pw_below_drewN | apply below_drew1) | exact HB.out))) : w.heap.size ≤ gb477)); have n4_ := Aside0.mk ((by rw [hg]; exact (below_size (by repeat (first | (with_reducible first | exact HB.out | apply below_alloc | apply pw_below_drewN | apply below_drew1) | exact HB.out))) : w.heap.size ≤ gb477)); clear HO_8; clear HB; have HO_8 := n0_; have HB := n1_; have BK477 := n2_; have GW477 := n3_; have GE477 := n4_; clear n0_ n1_ n2_ n3_ n4_; clear hb hbox hg; have hcz69_0 : w68.cell? ⟨gb477, 0, none⟩ = some (.int .i64 0) := (blk_cell BK477.out 0).trans rfl; have hcz69_1 : w68.cell? ⟨gb477, 1, none⟩ = some (.int .i64 0) := (blk_cell BK477.out 1).trans rfl; have hcz69_2 : w68.cell? ⟨gb477, 2, none⟩ = some (.slice none 0 0) := (blk_cell BK477.out 2).trans rfl; have hfz69_0 := blk_frozen BK477.out 0; have hfz69_1 := blk_frozen BK477.out 1; have hfz69_2 := blk_frozen BK477.out 2) | ((with_reducible refine gate_callee (f := 28) rfl ?_); refine goesL_ (some 106) rfl rfl Try.func28 (by kernel_rfl) rfl #[.agg #[.int .i64 a2, .int .i64 (rd x8_1 0), .slice (some ad476) x8_1.length co27]] rfl (by (try simp only [List.map_toArray, List.map_cons, List.map_nil]); first | done | rfl | (simp only [List.length_drop, List.length_take]; rfl)) ?_; (with_reducible refine (view_Term.calls kj25 a2 (rd x8_1 0) _ _ x8_1 t478 t479 _ ?side1 ?side2 A56.out).mono ?_); (case side1 => refine (Kd.R_reads' (e := 3) (base := w.heap.size) (ok := fun k_ => True) (n := x8_1.length) (c := co27) ?_).2.2; exact (by (with_reducible repeat (first | apply Kd.R_alloc | apply Kd.R_drewN | apply Kd.R_drew)); exact (Kd.R_mono (Kd.R_far (p := ⟨gb477, 2, none⟩) (Kd.R_far (p := ⟨gb477, 1, none⟩) (Kd.R_far (p := ⟨gb477, 0, none⟩) (Kd.R_types HO_8.out BK477.out (by decide)) (fun _ hk => hk.2) (.int .i64 a2)) (fun _ hk => hk.2) (.int .i64 (rd x8_1 0))) (fun _ hk => hk.2) (.slice (some ad476) x8_1.length co27)) (fun _ h_ => h_.1)))); (case side2 => exact (Kd.R_reads' HO_8.out).2.1); rintro e w70 ⟨rfl, hb⟩; refine ⟨_, rfl, ?_⟩; have n0_ := Aside0.mk (Kd.R_below (by (with_reducible repeat (first | apply Kd.R_alloc | apply Kd.R_drewN | apply Kd.R_drew)); exact (Kd.R_mono (Kd.R_far (p := ⟨gb477, 2, none⟩) (Kd.R_far (p := ⟨gb477, 1, none⟩) (Kd.R_far (p := ⟨gb477, 0, none⟩) (Kd.R_types HO_8.out BK477.out (by decide)) (fun _ hk => hk.2) (.int .i64 a2)) (fun _ hk => hk.2) (.int .i64 (rd x8_1 0))) (fun _ hk => hk.2) (.slice (some ad476) x8_1.length co27)) (fun _ h_ => h_.1))) hb); have n1_ := Aside0.mk (blk_below (g := gb477) (o := .cells #[.int .i64 a2, .int .i64 (rd x8_1 0), .slice (some ad476) x8_1.length co27] 53 (0, 0)) (by (with_reducible repeat (first | refine blk_drewN ?_ _ | refine blk_drew ?_ | refine blk_alloc ?_ _)); refine blk_put (cs := #[.int .i64 a2, .int .i64 (rd x8_1 0), .slice none 0 0]) ?_ 2 _ rfl; (with_reducible repeat (first | refine blk_drewN ?_ _ | refine blk_drew ?_ | refine blk_alloc ?_ _)); refine blk_put (cs := #[.int .i64 a2, .int .i64 0, .slice none 0 0]) ?_ 1 _ rfl; (with_reducible repeat (first | refine blk_drewN ?_ _ | refine blk_drew ?_ | refine blk_alloc ?_ _)); refine blk_put (cs := #[.int .i64 0, .int .i64 0, .slice none 0 0]) ?_ 0 _ rfl; (with_reducible repeat (first | refine blk_drewN ?_ _ | refine blk_drew ?_ | refine blk_alloc ?_ _)); exact BK477.out) hb); have n2_ := Aside0.mk (below_step (by repeat (first | (with_reducible first | exact HB.out | apply below_alloc | apply pw_below_drewN | apply below_drew1 | refine below_set ?_ GE477.out) | exact HB.out)) hb); clear HO_8; clear BK477; clear HB; have HO_8 := n0_; have BK477 := n1_; have HB := n2_; clear n0_ n1_ n2_; (try clear hb); (try clear hb2); (try clear hk); (try clear hi); have hcz71_0 : w70.cell? ⟨gb477, 0, none⟩ = some (.int .i64 a2) := (blk_cell BK477.out 0).trans rfl; have hcz71_1 : w70.cell? ⟨gb477, 1, none⟩ = some (.int .i64 (rd x8_1 0)) := (blk_cell BK477.out 1).trans rfl; have hcz71_2 : w70.cell? ⟨gb477, 2, none⟩ = some (.slice (some ad476) x8_1.length co27) := (blk_cell BK477.out 2).trans rfl; have hfz71_0 := blk_frozen BK477.out 0; have hfz71_1 := blk_frozen BK477.out 1; have hfz71_2 := blk_frozen BK477.out 2) | ((with_reducible refine gate_callee (f := 29) rfl ?_); refine goesL_ (some 110) rfl rfl Try.func29 (by kernel_rfl) rfl #[.agg #[.int .i64 a2, .int .i64 (rd x8_1 0), .slice (some ad476) x8_1.length co27]] rfl (by (try simp only [List.map_toArray, List.map_cons, List.map_nil]); first | done | rfl | (simp only [List.length_drop, List.length_take]; rfl)) ?_; (with_reducible refine (view_Right.calls kj25 a2 (rd x8_1 0) _ _ x8_1 t480 _ ?side1 ?side2 A57.out).mono ?_); (case side1 => repeat (first | exact (Kd.R_reads' HO_8.out).2.2 | (with_reducible refine Kd.C_alloc ?_ _) | (with_reducible refine Kd.C_drewN ?_ _) | (with_reducible refine Kd.C_drew ?_))); (case side2 => exact (Kd.R_reads' HO_8.out).2.1); rintro e w72 ⟨rfl, hb⟩; refine ⟨_, rfl, ?_⟩; have n0_ := Aside0.mk (Kd.R_below (by (with_reducible repeat (first | apply Kd.R_alloc | apply Kd.R_drewN | apply Kd.R_drew)); exact HO_8.out) hb); have n1_ := Aside0.mk (blk_below (g := gb477) (o := .cells #[.int .i64 a2, .int .i64 (rd x8_1 0), .slice (some ad476) x8_1.length co27] 53 (0, 0)) (by (with_reducible repeat (first | refine blk_drewN ?_ _ | refine blk_drew ?_ | refine blk_alloc ?_ _)); exact BK477.out) hb); have n2_ := Aside0.mk (below_step (by repeat (first | (with_reducible first | exact HB.out | apply below_alloc | apply pw_below_drewN | apply below_drew1 | refine below_set ?_ GE477.out) | exact HB.out)) hb); clear HO_8; clear BK477; clear HB; have HO_8 := n0_; have BK477 := n1_; have HB := n2_; clear n0_ n1_ n2_; (try clear hb); (try clear hb2); (try clear hk); (try clear hi)))
                      go_ret
                      exact ⟨by first | rfl | (simp [errW_none, errW_some] <;> rfl) | (simp [*, errW_none, errW_some] <;> rfl), by repeat (first | (with_reducible first | exact HB.out | apply below_alloc | apply pw_below_drewN | apply below_drew1 | refine below_set ?_ GE477.out) | exact HB.out)⟩
                  · rw [if_neg c58] at H
                    have c58b0 : decide (0 ≤ a2) = false := decide_eq_false c58
                    clear c58
                    by_cases c73 : (t480 == false) = true
                    · rw [if_pos c73] at H
                      have c73b0 : (t480 == false) = true := c73
                      (try (have c73b1 : decide (t480 = false) = true := by simpa using c73))
                      (try (have c73b2 : (t480 == false) = true := by simpa using c73))
                      clear c73
                      replace H := Option.bind_eq_some_iff.mp H
                      obtain ⟨t482, A740, H⟩ := H
                      replace H : (some ((t479 == 0) == t482)) = some r := H
                      have A74 := Aside0.mk A740
                      clear A740
                      obtain rfl := Option.some.inj H
                      have p476 : 0 ≤ (0 : Int) := (by omega)
                      have q476 : 0 < (x8_1.length : Int) := of_decide_eq_true (by first | (with_reducible assumption) | assumption)
                      obtain ⟨ad476, e476, hx476_0⟩ := Kd.at_int (Kd.R_reads' HO_8.out).2.2 0 p476 q476
                      cases e476
                      have qi476 : (0 < x8_1.length) = True := eq_true (by omega)
                      (try rw [show ((0 : Int)).toNat = 0 from rfl] at hx476_0)
                      (try rw [Addr.add_zero'] at hx476_0)
                      replace p476 := eq_true p476
                      replace q476 := eq_true q476
                      go_wp2_with (first | ((with_reducible refine gate_dst (N := 13) rfl ?_); (try (refine gate_guard (by rfl) ?_; dsimp only)); refine box_event ?hg (N := 13) ?hd (cs := #[.int .i64 0, .int .i64 0, .slice none 0 0]) (t := 53) ?hr ?_; (case hd => rfl); (case hg => rfl); (case hr => first | (go_simp; done) | (go_simp; rfl)); intro gb477 hg w75 hbox hb; have n0_ := Aside0.mk (Kd.R_below (by (with_reducible repeat (first | apply Kd.R_alloc | apply Kd.R_drewN | apply Kd.R_drew)); exact HO_8.out) hb); have n1_ := Aside0.mk (below_step (by repeat (first | (with_reducible first | exact HB.out | apply below_alloc | apply pw_below_drewN | apply below_drew1) | exact HB.out)) hb); have n2_ := Aside0.mk (hbox); have n3_ := Aside0.mk ((by rw [hg]; exact (below_size (by repeat (first | (with_reducible first | exact HB.out | apply below_alloc | apply pw_below_drewN | apply below_drew1) | exact HB.out))) : w.heap.size ≤ gb477)); have n4_ := Aside0.mk ((by rw [hg]; exact (below_size (by repeat (first | (with_reducible first | exact HB.out | apply below_alloc | apply pw_below_drewN | apply below_drew1) | exact HB.out))) : w.heap.size ≤ gb477)); clear HO_8; clear HB; have HO_8 := n0_; have HB := n1_; have BK477 := n2_; have GW477 := n3_; have GE477 := n4_; clear n0_ n1_ n2_ n3_ n4_; clear hb hbox hg; have hcz76_0 : w75.cell? ⟨gb477, 0, none⟩ = some (.int .i64 0) := (blk_cell BK477.out 0).trans rfl; have hcz76_1 : w75.cell? ⟨gb477, 1, none⟩ = some (.int .i64 0) := (blk_cell BK477.out 1).trans rfl; have hcz76_2 : w75.cell? ⟨gb477, 2, none⟩ = some (.slice none 0 0) := (blk_cell BK477.out 2).trans rfl; have hfz76_0 := blk_frozen BK477.out 0; have hfz76_1 := blk_frozen BK477.out 1; have hfz76_2 := blk_frozen BK477.out 2) | ((with_reducible refine gate_callee (f := 28) rfl ?_); refine goesL_ (some 106) rfl rfl Try.func28 (by kernel_rfl) rfl #[.agg #[.int .i64 a2, .int .i64 (rd x8_1 0), .slice (some ad476) x8_1.length co27]] rfl (by (try simp only [List.map_toArray, List.map_cons, List.map_nil]); first | done | rfl | (simp only [List.length_drop, List.length_take]; rfl)) ?_; (with_reducible refine (view_Term.calls kj25 a2 (rd x8_1 0) _ _ x8_1 t478 t479 _ ?side1 ?side2 A56.out).mono ?_); (case side1 => refine (Kd.R_reads' (e := 3) (base := w.heap.size) (ok := fun k_ => True) (n := x8_1.length) (c := co27) ?_).2.2; exact (by (with_reducible repeat (first | apply Kd.R_alloc | apply Kd.R_drewN | apply Kd.R_drew)); exact (Kd.R_mono (Kd.R_far (p := ⟨gb477, 2, none⟩) (Kd.R_far (p := ⟨gb477, 1, none⟩) (Kd.R_far (p := ⟨gb477, 0, none⟩) (Kd.R_types HO_8.out BK477.out (by decide)) (fun _ hk => hk.2) (.int .i64 a2)) (fun _ hk => hk.2) (.int .i64 (rd x8_1 0))) (fun _ hk => hk.2) (.slice (some ad476) x8_1.length co27)) (fun _ h_ => h_.1)))); (case side2 => exact (Kd.R_reads' HO_8.out).2.1); rintro e w77 ⟨rfl, hb⟩; refine ⟨_, rfl, ?_⟩; have n0_ := Aside0.mk (Kd.R_below (by (with_reducible repeat (first | apply Kd.R_alloc | apply Kd.R_drewN | apply Kd.R_drew)); exact (Kd.R_mono (Kd.R_far (p := ⟨gb477, 2, none⟩) (Kd.R_far (p := ⟨gb477, 1, none⟩) (Kd.R_far (p := ⟨gb477, 0, none⟩) (Kd.R_types HO_8.out BK477.out (by decide)) (fun _ hk => hk.2) (.int .i64 a2)) (fun _ hk => hk.2) (.int .i64 (rd x8_1 0))) (fun _ hk => hk.2) (.slice (some ad476) x8_1.length co27)) (fun _ h_ => h_.1))) hb); have n1_ := Aside0.mk (blk_below (g := gb477) (o := .cells #[.int .i64 a2, .int .i64 (rd x8_1 0), .slice (some ad476) x8_1.length co27] 53 (0, 0)) (by (with_reducible repeat (first | refine blk_drewN ?_ _ | refine blk_drew ?_ | refine blk_alloc ?_ _)); refine blk_put (cs := #[.int .i64 a2, .int .i64 (rd x8_1 0), .slice none 0 0]) ?_ 2 _ rfl; (with_reducible repeat (first | refine blk_drewN ?_ _ | refine blk_drew ?_ | refine blk_alloc ?_ _)); refine blk_put (cs := #[.int .i64 a2, .int .i64 0, .slice none 0 0]) ?_ 1 _ rfl; (with_reducible repeat (first | refine blk_drewN ?_ _ | refine blk_drew ?_ | refine blk_alloc ?_ _)); refine blk_put (cs := #[.int .i64 0, .int .i64 0, .slice none 0 0]) ?_ 0 _ rfl; (with_reducible repeat (first | refine blk_drewN ?_ _ | refine blk_drew ?_ | refine blk_alloc ?_ _)); exact BK477.out) hb); have n2_ := Aside0.mk (below_step (by repeat (first | (with_reducible first | exact HB.out | apply below_alloc | apply pw_below_drewN | apply below_drew1 | refine below_set ?_ GE477.out) | exact HB.out)) hb); clear HO_8; clear BK477; clear HB; have HO_8 := n0_; have BK477 := n1_; have HB := n2_; clear n0_ n1_ n2_; (try clear hb); (try clear hb2); (try clear hk); (try clear hi); have hcz78_0 : w77.cell? ⟨gb477, 0, none⟩ = some (.int .i64 a2) := (blk_cell BK477.out 0).trans rfl; have hcz78_1 : w77.cell? ⟨gb477, 1, none⟩ = some (.int .i64 (rd x8_1 0)) := (blk_cell BK477.out 1).trans rfl; have hcz78_2 : w77.cell? ⟨gb477, 2, none⟩ = some (.slice (some ad476) x8_1.length co27) := (blk_cell BK477.out 2).trans rfl; have hfz78_0 := blk_frozen BK477.out 0; have hfz78_1 := blk_frozen BK477.out 1; have hfz78_2 := blk_frozen BK477.out 2) | ((with_reducible refine gate_callee (f := 29) rfl ?_); refine goesL_ (some 110) rfl rfl Try.func29 (by kernel_rfl) rfl #[.agg #[.int .i64 a2, .int .i64 (rd x8_1 0), .slice (some ad476) x8_1.length co27]] rfl (by (try simp only [List.map_toArray, List.map_cons, List.map_nil]); first | done | rfl | (simp only [List.length_drop, List.length_take]; rfl)) ?_; (with_reducible refine (view_Right.calls kj25 a2 (rd x8_1 0) _ _ x8_1 t480 _ ?side1 ?side2 A57.out).mono ?_); (case side1 => repeat (first | exact (Kd.R_reads' HO_8.out).2.2 | (with_reducible refine Kd.C_alloc ?_ _) | (with_reducible refine Kd.C_drewN ?_ _) | (with_reducible refine Kd.C_drew ?_))); (case side2 => exact (Kd.R_reads' HO_8.out).2.1); rintro e w79 ⟨rfl, hb⟩; refine ⟨_, rfl, ?_⟩; have n0_ := Aside0.mk (Kd.R_below (by (with_reducible repeat (first | apply Kd.R_alloc | apply Kd.R_drewN | apply Kd.R_drew)); exact HO_8.out) hb); have n1_ := Aside0.mk (blk_below (g := gb477) (o := .cells #[.int .i64 a2, .int .i64 (rd x8_1 0), .slice (some ad476) x8_1.length co27] 53 (0, 0)) (by (with_reducible repeat (first | refine blk_drewN ?_ _ | refine blk_drew ?_ | refine blk_alloc ?_ _)); exact BK477.out) hb); have n2_ := Aside0.mk (below_step (by repeat (first | (with_reducible first | exact HB.out | apply below_alloc | apply pw_below_drewN | apply below_drew1 | refine below_set ?_ GE477.out) | exact HB.out)) hb); clear HO_8; clear BK477; clear HB; have HO_8 := n0_; have BK477 := n1_; have HB := n2_; clear n0_ n1_ n2_; (try clear hb); (try clear hb2); (try clear hk); (try clear hi); have hcz80_0 : w79.cell? ⟨gb477, 0, none⟩ = some (.int .i64 a2) := (blk_cell BK477.out 0).trans rfl; have hcz80_1 : w79.cell? ⟨gb477, 1, none⟩ = some (.int .i64 (rd x8_1 0)) := (blk_cell BK477.out 1).trans rfl; have hcz80_2 : w79.cell? ⟨gb477, 2, none⟩ = some (.slice (some ad476) x8_1.length co27) := (blk_cell BK477.out 2).trans rfl; have hfz80_0 := blk_frozen BK477.out 0; have hfz80_1 := blk_frozen BK477.out 1; have hfz80_2 := blk_frozen BK477.out 2) | (go_at_call 29; (with_reducible refine (view_Right.calls kj25 a2 (rd x8_1 0) _ _ x8_1 t482 _ ?side1 ?side2 A74.out).mono ?_); (case side1 => repeat (first | exact (Kd.R_reads' HO_8.out).2.2 | (with_reducible refine Kd.C_alloc ?_ _) | (with_reducible refine Kd.C_drewN ?_ _) | (with_reducible refine Kd.C_drew ?_))); (case side2 => exact (Kd.R_reads' HO_8.out).2.1); rintro e w81 ⟨rfl, hb⟩; have n0_ := Aside0.mk (Kd.R_below (by (with_reducible repeat (first | apply Kd.R_alloc | apply Kd.R_drewN | apply Kd.R_drew)); exact HO_8.out) hb); have n1_ := Aside0.mk (blk_below (g := gb477) (o := .cells #[.int .i64 a2, .int .i64 (rd x8_1 0), .slice (some ad476) x8_1.length co27] 53 (0, 0)) (by (with_reducible repeat (first | refine blk_drewN ?_ _ | refine blk_drew ?_ | refine blk_alloc ?_ _)); exact BK477.out) hb); have n2_ := Aside0.mk (below_step (by repeat (first | (with_reducible first | exact HB.out | apply below_alloc | apply pw_below_drewN | apply below_drew1 | refine below_set ?_ GE477.out) | exact HB.out)) hb); clear HO_8; clear BK477; clear HB; have HO_8 := n0_; have BK477 := n1_; have HB := n2_; clear n0_ n1_ n2_; (try clear hb); (try clear hb2); (try clear hk); (try clear hi)))
                      go_ret
                      exact ⟨by first | rfl | (simp [errW_none, errW_some] <;> rfl) | (simp [*, errW_none, errW_some] <;> rfl), by repeat (first | (with_reducible first | exact HB.out | apply below_alloc | apply pw_below_drewN | apply below_drew1 | refine below_set ?_ GE477.out) | exact HB.out)⟩
                    · rw [if_neg c73] at H
                      have c73b0 : (t480 == false) = false := by simpa using c73
                      (try (have c73b1 : decide (t480 = false) = false := by simpa using c73))
                      (try (have c73b2 : (t480 == false) = false := by simpa using c73))
                      (try (have c73b3 : ¬ (t480 = false) := by simpa using c73))
                      clear c73
                      obtain rfl := Option.some.inj H
                      have p476 : 0 ≤ (0 : Int) := (by omega)
                      have q476 : 0 < (x8_1.length : Int) := of_decide_eq_true (by first | (with_reducible assumption) | assumption)
                      obtain ⟨ad476, e476, hx476_0⟩ := Kd.at_int (Kd.R_reads' HO_8.out).2.2 0 p476 q476
                      cases e476
                      have qi476 : (0 < x8_1.length) = True := eq_true (by omega)
                      (try rw [show ((0 : Int)).toNat = 0 from rfl] at hx476_0)
                      (try rw [Addr.add_zero'] at hx476_0)
                      replace p476 := eq_true p476
                      replace q476 := eq_true q476
                      go_wp2_with (first | ((with_reducible refine gate_dst (N := 13) rfl ?_); (try (refine gate_guard (by rfl) ?_; dsimp only)); refine box_event ?hg (N := 13) ?hd (cs := #[.int .i64 0, .int .i64 0, .slice none 0 0]) (t := 53) ?hr ?_; (case hd => rfl); (case hg => rfl); (case hr => first | (go_simp; done) | (go_simp; rfl)); intro gb477 hg w82 hbox hb; have n0_ := Aside0.mk (Kd.R_below (by (with_reducible repeat (first | apply Kd.R_alloc | apply Kd.R_drewN | apply Kd.R_drew)); exact HO_8.out) hb); have n1_ := Aside0.mk (below_step (by repeat (first | (with_reducible first | exact HB.out | apply below_alloc | apply pw_below_drewN | apply below_drew1) | exact HB.out)) hb); have n2_ := Aside0.mk (hbox); have n3_ := Aside0.mk ((by rw [hg]; exact (below_size (by repeat (first | (with_reducible first | exact HB.out | apply below_alloc | apply pw_below_drewN | apply below_drew1) | exact HB.out))) : w.heap.size ≤ gb477)); have n4_ := Aside0.mk ((by rw [hg]; exact (below_size (by repeat (first | (with_reducible first | exact HB.out | apply below_alloc | apply pw_below_drewN | apply below_drew1) | exact HB.out))) : w.heap.size ≤ gb477)); clear HO_8; clear HB; have HO_8 := n0_; have HB := n1_; have BK477 := n2_; have GW477 := n3_; have GE477 := n4_; clear n0_ n1_ n2_ n3_ n4_; clear hb hbox hg; have hcz83_0 : w82.cell? ⟨gb477, 0, none⟩ = some (.int .i64 0) := (blk_cell BK477.out 0).trans rfl; have hcz83_1 : w82.cell? ⟨gb477, 1, none⟩ = some (.int .i64 0) := (blk_cell BK477.out 1).trans rfl; have hcz83_2 : w82.cell? ⟨gb477, 2, none⟩ = some (.slice none 0 0) := (blk_cell BK477.out 2).trans rfl; have hfz83_0 := blk_frozen BK477.out 0; have hfz83_1 := blk_frozen BK477.out 1; have hfz83_2 := blk_frozen BK477.out 2) | ((with_reducible refine gate_callee (f := 28) rfl ?_); refine goesL_ (some 106) rfl rfl Try.func28 (by kernel_rfl) rfl #[.agg #[.int .i64 a2, .int .i64 (rd x8_1 0), .slice (some ad476) x8_1.length co27]] rfl (by (try simp only [List.map_toArray, List.map_cons, List.map_nil]); first | done | rfl | (simp only [List.length_drop, List.length_take]; rfl)) ?_; (with_reducible refine (view_Term.calls kj25 a2 (rd x8_1 0) _ _ x8_1 t478 t479 _ ?side1 ?side2 A56.out).mono ?_); (case side1 => refine (Kd.R_reads' (e := 3) (base := w.heap.size) (ok := fun k_ => True) (n := x8_1.length) (c := co27) ?_).2.2; exact (by (with_reducible repeat (first | apply Kd.R_alloc | apply Kd.R_drewN | apply Kd.R_drew)); exact (Kd.R_mono (Kd.R_far (p := ⟨gb477, 2, none⟩) (Kd.R_far (p := ⟨gb477, 1, none⟩) (Kd.R_far (p := ⟨gb477, 0, none⟩) (Kd.R_types HO_8.out BK477.out (by decide)) (fun _ hk => hk.2) (.int .i64 a2)) (fun _ hk => hk.2) (.int .i64 (rd x8_1 0))) (fun _ hk => hk.2) (.slice (some ad476) x8_1.length co27)) (fun _ h_ => h_.1)))); (case side2 => exact (Kd.R_reads' HO_8.out).2.1); rintro e w84 ⟨rfl, hb⟩; refine ⟨_, rfl, ?_⟩; have n0_ := Aside0.mk (Kd.R_below (by (with_reducible repeat (first | apply Kd.R_alloc | apply Kd.R_drewN | apply Kd.R_drew)); exact (Kd.R_mono (Kd.R_far (p := ⟨gb477, 2, none⟩) (Kd.R_far (p := ⟨gb477, 1, none⟩) (Kd.R_far (p := ⟨gb477, 0, none⟩) (Kd.R_types HO_8.out BK477.out (by decide)) (fun _ hk => hk.2) (.int .i64 a2)) (fun _ hk => hk.2) (.int .i64 (rd x8_1 0))) (fun _ hk => hk.2) (.slice (some ad476) x8_1.length co27)) (fun _ h_ => h_.1))) hb); have n1_ := Aside0.mk (blk_below (g := gb477) (o := .cells #[.int .i64 a2, .int .i64 (rd x8_1 0), .slice (some ad476) x8_1.length co27] 53 (0, 0)) (by (with_reducible repeat (first | refine blk_drewN ?_ _ | refine blk_drew ?_ | refine blk_alloc ?_ _)); refine blk_put (cs := #[.int .i64 a2, .int .i64 (rd x8_1 0), .slice none 0 0]) ?_ 2 _ rfl; (with_reducible repeat (first | refine blk_drewN ?_ _ | refine blk_drew ?_ | refine blk_alloc ?_ _)); refine blk_put (cs := #[.int .i64 a2, .int .i64 0, .slice none 0 0]) ?_ 1 _ rfl; (with_reducible repeat (first | refine blk_drewN ?_ _ | refine blk_drew ?_ | refine blk_alloc ?_ _)); refine blk_put (cs := #[.int .i64 0, .int .i64 0, .slice none 0 0]) ?_ 0 _ rfl; (with_reducible repeat (first | refine blk_drewN ?_ _ | refine blk_drew ?_ | refine blk_alloc ?_ _)); exact BK477.out) hb); have n2_ := Aside0.mk (below_step (by repeat (first | (with_reducible first | exact HB.out | apply below_alloc | apply pw_below_drewN | apply below_drew1 | refine below_set ?_ GE477.out) | exact HB.out)) hb); clear HO_8; clear BK477; clear HB; have HO_8 := n0_; have BK477 := n1_; have HB := n2_; clear n0_ n1_ n2_; (try clear hb); (try clear hb2); (try clear hk); (try clear hi); have hcz85_0 : w84.cell? ⟨gb477, 0, none⟩ = some (.int .i64 a2) := (blk_cell BK477.out 0).trans rfl; have hcz85_1 : w84.cell? ⟨gb477, 1, none⟩ = some (.int .i64 (rd x8_1 0)) := (blk_cell BK477.out 1).trans rfl; have hcz85_2 : w84.cell? ⟨gb477, 2, none⟩ = some (.slice (some ad476) x8_1.length co27) := (blk_cell BK477.out 2).trans rfl; have hfz85_0 := blk_frozen BK477.out 0; have hfz85_1 := blk_frozen BK477.out 1; have hfz85_2 := blk_frozen BK477.out 2) | ((with_reducible refine gate_callee (f := 29) rfl ?_); refine goesL_ (some 110) rfl rfl Try.func29 (by kernel_rfl) rfl #[.agg #[.int .i64 a2, .int .i64 (rd x8_1 0), .slice (some ad476) x8_1.length co27]] rfl (by (try simp only [List.map_toArray, List.map_cons, List.map_nil]); first | done | rfl | (simp only [List.length_drop, List.length_take]; rfl)) ?_; (with_reducible refine (view_Right.calls kj25 a2 (rd x8_1 0) _ _ x8_1 t480 _ ?side1 ?side2 A57.out).mono ?_); (case side1 => repeat (first | exact (Kd.R_reads' HO_8.out).2.2 | (with_reducible refine Kd.C_alloc ?_ _) | (with_reducible refine Kd.C_drewN ?_ _) | (with_reducible refine Kd.C_drew ?_))); (case side2 => exact (Kd.R_reads' HO_8.out).2.1); rintro e w86 ⟨rfl, hb⟩; refine ⟨_, rfl, ?_⟩; have n0_ := Aside0.mk (Kd.R_below (by (with_reducible repeat (first | apply Kd.R_alloc | apply Kd.R_drewN | apply Kd.R_drew)); exact HO_8.out) hb); have n1_ := Aside0.mk (blk_below (g := gb477) (o := .cells #[.int .i64 a2, .int .i64 (rd x8_1 0), .slice (some ad476) x8_1.length co27] 53 (0, 0)) (by (with_reducible repeat (first | refine blk_drewN ?_ _ | refine blk_drew ?_ | refine blk_alloc ?_ _)); exact BK477.out) hb); have n2_ := Aside0.mk (below_step (by repeat (first | (with_reducible first | exact HB.out | apply below_alloc | apply pw_below_drewN | apply below_drew1 | refine below_set ?_ GE477.out) | exact HB.out)) hb); clear HO_8; clear BK477; clear HB; have HO_8 := n0_; have BK477 := n1_; have HB := n2_; clear n0_ n1_ n2_; (try clear hb); (try clear hb2); (try clear hk); (try clear hi)))
                      go_ret
                      exact ⟨by first | rfl | (simp [errW_none, errW_some] <;> rfl) | (simp [*, errW_none, errW_some] <;> rfl), by repeat (first | (with_reducible first | exact HB.out | apply below_alloc | apply pw_below_drewN | apply below_drew1 | refine below_set ?_ GE477.out) | exact HB.out)⟩
                · rw [if_neg c55] at H
                  exact absurd H (by simp)

/-- THE ONE PURE STATEMENT of gemotlaw10_ViewRows: yours. -/
def gemotlaw10_ViewRows.Pure : Prop := ∀ (a0 : Int) (a1 : Int) (a2 : Int), (Lit.int .i64 a0).wf = true → (Lit.int .i64 a1).wf = true → (Lit.int .i64 a2).wf = true → ∃ k, gemotlaw10_ViewRows.f k a0 a1 a2 = some true
theorem gemotlaw10_ViewRows.walk (P : gemotlaw10_ViewRows.Pure) (a0 : Int) (a1 : Int) (a2 : Int) (w : World) (w0 : (Lit.int .i64 a0).wf = true) (w1 : (Lit.int .i64 a1).wf = true) (w2 : (Lit.int .i64 a2).wf = true) :
    Calls Try.prog 9 #[.int .i64 a0, .int .i64 a1, .int .i64 a2] w fun e w' => e = .returned (.bool true) ∧ Below w.heap.size w w' := by
  obtain ⟨k, h⟩ := P a0 a1 a2 w0 w1 w2
  refine (gemotlaw10_ViewRows.calls k a0 a1 a2 true w h).mono ?_
  rintro e w' ⟨rfl, hd⟩
  exact ⟨rfl, hd⟩

end Go.Proofs.Ytenmlpkgodnjnaa.F
