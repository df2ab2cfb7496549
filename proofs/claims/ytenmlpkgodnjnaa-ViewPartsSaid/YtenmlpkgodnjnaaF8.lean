-- Laid by mk.py (a program of this session) over the seat's translation.
import Derived.Test.YtenmlpkgodnjnaaF0
import Derived.Test.YtenmlpkgodnjnaaF11
import Derived.Test.YtenmlpkgodnjnaaF25
import Derived.Test.YtenmlpkgodnjnaaF26
import Derived.Test.YtenmlpkgodnjnaaF27
import Derived.Test.YtenmlpkgodnjnaaF28
import Derived.Test.YtenmlpkgodnjnaaF29
import Derived.Test.YtenmlpkgodnjnaaF30
import Derived.Test.YtenmlpkgodnjnaaF31
import Derived.Test.YtenmlpkgodnjnaaFE0
namespace Go.Proofs.Ytenmlpkgodnjnaa.F
open Go.RowKit Go.Proofs.YtenmlpkgodnjnaaW.PrintWords Go.Proofs.YtenmlpkgodnjnaaW.PrintLast Go.Proofs.YtenmlpkgodnjnaaW.PrintMore
attribute [local go_sem] max2_int min2_int max_two min_two max_three min_three max_four min_four
set_option linter.unusedVariables false
set_option linter.unusedSimpArgs false

attribute [local go_sem high] eqA23
/-! ### gemotlaw10_ViewParts: function 8 -/
mutual
def gemotlaw10_ViewParts.j0 : Nat → Bool → Bool → Int → Int → List Int → Int → Int → List Int → Option (Bool)
  | 0, _, _, _, _, _, _, _, _ => none
  | k + 1, x5, x30, x431000, x431001, x431002, x432000, x432001, x432002 => if x30 = true then (some x5) else ((view_Both.f x431002 x432002).bind fun t433 => ((view_Without.f x431002 x432002).bind fun t436 => (gemotlaw10_ViewParts.l0 k t433 t436 0 0 0 x431000 x431001 x431002 x432000 x432001 x432002)))
def gemotlaw10_ViewParts.l0 : Nat → List Int → List Int → Int → Int → Int → Int → Int → List Int → Int → Int → List Int → Option (Bool)
  | 0, _, _, _, _, _, _, _, _, _, _, _ => none
  | k + 1, x6, x7, x8, x9, x10, x431000, x431001, x431002, x432000, x432001, x432002 => if x10 < (x431002.length : Int) then (if 0 ≤ x10 then (if x8 < (x6.length : Int) then (if 0 ≤ x8 then (if (rd x6 x8) = (rd x431002 x10) then ((view_Has.f x432002 (rd x431002 x10)).bind fun t441 => (gemotlaw10_ViewParts.j2 k x6 x7 x8 x9 x10 (rd x431002 x10) t441 x431000 x431001 x431002 x432000 x432001 x432002)) else (gemotlaw10_ViewParts.j2 k x6 x7 x8 x9 x10 (rd x431002 x10) false x431000 x431001 x431002 x432000 x432001 x432002)) else (none)) else (gemotlaw10_ViewParts.j2 k x6 x7 x8 x9 x10 (rd x431002 x10) false x431000 x431001 x431002 x432000 x432001 x432002)) else (none)) else ((view_Term.f k x431000 x431001 x431002).bind fun bt444 => ((view_Term.f k x432000 x432001 x432002).bind fun bt446 => (if x8 = (x6.length : Int) then (if x9 = (x7.length : Int) then ((view_Right.f k x431000 x431001 x431002).bind fun t448 => (gemotlaw10_ViewParts.j3 k bt444.1 bt444.2 bt446.1 bt446.2 ((bt444.2 == 0) != t448) x431000 x431001 x431002 x432000 x432001 x432002)) else (gemotlaw10_ViewParts.j3 k bt444.1 bt444.2 bt446.1 bt446.2 true x431000 x431001 x431002 x432000 x432001 x432002)) else (gemotlaw10_ViewParts.j3 k bt444.1 bt444.2 bt446.1 bt446.2 true x431000 x431001 x431002 x432000 x432001 x432002))))
def gemotlaw10_ViewParts.j2 : Nat → List Int → List Int → Int → Int → Int → Int → Bool → Int → Int → List Int → Int → Int → List Int → Option (Bool)
  | 0, _, _, _, _, _, _, _, _, _, _, _, _, _ => none
  | k + 1, x6, x7, x8, x9, x10, x11, x71, x431000, x431001, x431002, x432000, x432001, x432002 => if x71 = true then (gemotlaw10_ViewParts.l0 k x6 x7 (wrap64 (x8 + 1)) x9 (wrap64 (x10 + 1)) x431000 x431001 x431002 x432000 x432001 x432002) else (if x9 < (x7.length : Int) then (if 0 ≤ x9 then (if (rd x7 x9) = x11 then ((view_Has.f x432002 x11).bind fun t443 => (if t443 = true then (some false) else (gemotlaw10_ViewParts.l0 k x6 x7 x8 (wrap64 (x9 + 1)) (wrap64 (x10 + 1)) x431000 x431001 x431002 x432000 x432001 x432002))) else (some false)) else (none)) else (some false))
def gemotlaw10_ViewParts.j3 : Nat → ByteArray → Int → ByteArray → Int → Bool → Int → Int → List Int → Int → Int → List Int → Option (Bool)
  | 0, _, _, _, _, _, _, _, _, _, _, _ => none
  | k + 1, x12, x13, x14, x15, x121, x431000, x431001, x431002, x432000, x432001, x432002 => if x121 = true then (some false) else (if x13 = 0 then (if x15 = 0 then (if (x431000 == x432000 && (x431001 == x432001)) = true then ((view_Same.f k x431002 x432002).bind fun t449 => (if ((x12.toList == x14.toList) == t449) = true then ((term_Right.f x12).bind fun t450 => (some t450)) else (some false))) else (if ((x12.toList == x14.toList) == false) = true then ((term_Right.f x12).bind fun t451 => (some t451)) else (some false))) else (some true)) else (some true))
end
def gemotlaw10_ViewParts.f (k : Nat) (a0_0 : Int) (a0_1 : Int) (l0_2 : List Int) (a1_0 : Int) (a1_1 : Int) (l1_2 : List Int) : Option (Bool) := (gemotlaw10_shown.f).bind fun t432 => (if t432 = true then (if (l0_2.length : Int) > 50 then (gemotlaw10_ViewParts.j0 k t432 true a0_0 a0_1 l0_2 a1_0 a1_1 l1_2) else (gemotlaw10_ViewParts.j0 k t432 (decide ((l1_2.length : Int) > 50)) a0_0 a0_1 l0_2 a1_0 a1_1 l1_2)) else (gemotlaw10_ViewParts.j0 k t432 true a0_0 a0_1 l0_2 a1_0 a1_1 l1_2))
theorem gemotlaw10_ViewParts.mono_l : ∀ k, (∀ y0 y1 y2 y3 y4 y5 y6 y7, LeO (gemotlaw10_ViewParts.j0 k y0 y1 y2 y3 y4 y5 y6 y7) (gemotlaw10_ViewParts.j0 (k + 1) y0 y1 y2 y3 y4 y5 y6 y7)) ∧ (∀ y0 y1 y2 y3 y4 y5 y6 y7 y8 y9 y10, LeO (gemotlaw10_ViewParts.l0 k y0 y1 y2 y3 y4 y5 y6 y7 y8 y9 y10) (gemotlaw10_ViewParts.l0 (k + 1) y0 y1 y2 y3 y4 y5 y6 y7 y8 y9 y10)) ∧ (∀ y0 y1 y2 y3 y4 y5 y6 y7 y8 y9 y10 y11 y12, LeO (gemotlaw10_ViewParts.j2 k y0 y1 y2 y3 y4 y5 y6 y7 y8 y9 y10 y11 y12) (gemotlaw10_ViewParts.j2 (k + 1) y0 y1 y2 y3 y4 y5 y6 y7 y8 y9 y10 y11 y12)) ∧ (∀ y0 y1 y2 y3 y4 y5 y6 y7 y8 y9 y10, LeO (gemotlaw10_ViewParts.j3 k y0 y1 y2 y3 y4 y5 y6 y7 y8 y9 y10) (gemotlaw10_ViewParts.j3 (k + 1) y0 y1 y2 y3 y4 y5 y6 y7 y8 y9 y10))
  | 0 => ⟨fun _ _ _ _ _ _ _ _ r h => by simp [gemotlaw10_ViewParts.j0] at h, fun _ _ _ _ _ _ _ _ _ _ _ r h => by simp [gemotlaw10_ViewParts.l0] at h, fun _ _ _ _ _ _ _ _ _ _ _ _ _ r h => by simp [gemotlaw10_ViewParts.j2] at h, fun _ _ _ _ _ _ _ _ _ _ _ r h => by simp [gemotlaw10_ViewParts.j3] at h⟩
  | k + 1 => by
    obtain ⟨ih0, ih1, ih2, ih3⟩ := gemotlaw10_ViewParts.mono_l k
    refine ⟨?_, ?_, ?_, ?_⟩
    · intro y0 y1 y2 y3 y4 y5 y6 y7
      unfold gemotlaw10_ViewParts.j0
      repeat' first
      | (with_reducible exact ih0 _ _ _ _ _ _ _ _)
      | (with_reducible exact ih1 _ _ _ _ _ _ _ _ _ _ _)
      | (with_reducible exact ih2 _ _ _ _ _ _ _ _ _ _ _ _ _)
      | (with_reducible exact ih3 _ _ _ _ _ _ _ _ _ _ _)
      | (with_reducible exact view_Right.mono _ _ _ _)
      | (with_reducible exact view_Same.mono _ _ _)
      | (with_reducible exact view_Term.mono _ _ _ _)
      | (with_reducible exact LeO.refl _)
      | (with_reducible exact LeO.none _)
      | (with_reducible refine LeO.ite ?_ ?_)
      | (with_reducible refine LeO.bind ?_ (fun _ => ?_))
      | exact ih0 _ _ _ _ _ _ _ _
      | exact ih1 _ _ _ _ _ _ _ _ _ _ _
      | exact ih2 _ _ _ _ _ _ _ _ _ _ _ _ _
      | exact ih3 _ _ _ _ _ _ _ _ _ _ _
      | exact view_Right.mono _ _ _ _
      | exact view_Same.mono _ _ _
      | exact view_Term.mono _ _ _ _
      | exact LeO.none _
      | refine LeO.ite ?_ ?_
      | refine LeO.bind ?_ (fun _ => ?_)
    · intro y0 y1 y2 y3 y4 y5 y6 y7 y8 y9 y10
      unfold gemotlaw10_ViewParts.l0
      repeat' first
      | (with_reducible exact ih0 _ _ _ _ _ _ _ _)
      | (with_reducible exact ih1 _ _ _ _ _ _ _ _ _ _ _)
      | (with_reducible exact ih2 _ _ _ _ _ _ _ _ _ _ _ _ _)
      | (with_reducible exact ih3 _ _ _ _ _ _ _ _ _ _ _)
      | (with_reducible exact view_Right.mono _ _ _ _)
      | (with_reducible exact view_Same.mono _ _ _)
      | (with_reducible exact view_Term.mono _ _ _ _)
      | (with_reducible exact LeO.refl _)
      | (with_reducible exact LeO.none _)
      | (with_reducible refine LeO.ite ?_ ?_)
      | (with_reducible refine LeO.bind ?_ (fun _ => ?_))
      | exact ih0 _ _ _ _ _ _ _ _
      | exact ih1 _ _ _ _ _ _ _ _ _ _ _
      | exact ih2 _ _ _ _ _ _ _ _ _ _ _ _ _
      | exact ih3 _ _ _ _ _ _ _ _ _ _ _
      | exact view_Right.mono _ _ _ _
      | exact view_Same.mono _ _ _
      | exact view_Term.mono _ _ _ _
      | exact LeO.none _
      | refine LeO.ite ?_ ?_
      | refine LeO.bind ?_ (fun _ => ?_)
    · intro y0 y1 y2 y3 y4 y5 y6 y7 y8 y9 y10 y11 y12
      unfold gemotlaw10_ViewParts.j2
      repeat' first
      | (with_reducible exact ih0 _ _ _ _ _ _ _ _)
      | (with_reducible exact ih1 _ _ _ _ _ _ _ _ _ _ _)
      | (with_reducible exact ih2 _ _ _ _ _ _ _ _ _ _ _ _ _)
      | (with_reducible exact ih3 _ _ _ _ _ _ _ _ _ _ _)
      | (with_reducible exact view_Right.mono _ _ _ _)
      | (with_reducible exact view_Same.mono _ _ _)
      | (with_reducible exact view_Term.mono _ _ _ _)
      | (with_reducible exact LeO.refl _)
      | (with_reducible exact LeO.none _)
      | (with_reducible refine LeO.ite ?_ ?_)
      | (with_reducible refine LeO.bind ?_ (fun _ => ?_))
      | exact ih0 _ _ _ _ _ _ _ _
      | exact ih1 _ _ _ _ _ _ _ _ _ _ _
      | exact ih2 _ _ _ _ _ _ _ _ _ _ _ _ _
      | exact ih3 _ _ _ _ _ _ _ _ _ _ _
      | exact view_Right.mono _ _ _ _
      | exact view_Same.mono _ _ _
      | exact view_Term.mono _ _ _ _
      | exact LeO.none _
      | refine LeO.ite ?_ ?_
      | refine LeO.bind ?_ (fun _ => ?_)
    · intro y0 y1 y2 y3 y4 y5 y6 y7 y8 y9 y10
      unfold gemotlaw10_ViewParts.j3
      repeat' first
      | (with_reducible exact ih0 _ _ _ _ _ _ _ _)
      | (with_reducible exact ih1 _ _ _ _ _ _ _ _ _ _ _)
      | (with_reducible exact ih2 _ _ _ _ _ _ _ _ _ _ _ _ _)
      | (with_reducible exact ih3 _ _ _ _ _ _ _ _ _ _ _)
      | (with_reducible exact view_Right.mono _ _ _ _)
      | (with_reducible exact view_Same.mono _ _ _)
      | (with_reducible exact view_Term.mono _ _ _ _)
      | (with_reducible exact LeO.refl _)
      | (with_reducible exact LeO.none _)
      | (with_reducible refine LeO.ite ?_ ?_)
      | (with_reducible refine LeO.bind ?_ (fun _ => ?_))
      | exact ih0 _ _ _ _ _ _ _ _
      | exact ih1 _ _ _ _ _ _ _ _ _ _ _
      | exact ih2 _ _ _ _ _ _ _ _ _ _ _ _ _
      | exact ih3 _ _ _ _ _ _ _ _ _ _ _
      | exact view_Right.mono _ _ _ _
      | exact view_Same.mono _ _ _
      | exact view_Term.mono _ _ _ _
      | exact LeO.none _
      | refine LeO.ite ?_ ?_
      | refine LeO.bind ?_ (fun _ => ?_)
theorem gemotlaw10_ViewParts.mono : ∀ a0 a1 a2 a3 a4 a5 k, LeO (gemotlaw10_ViewParts.f k a0 a1 a2 a3 a4 a5) (gemotlaw10_ViewParts.f (k + 1) a0 a1 a2 a3 a4 a5) := by
  intro a0 a1 a2 a3 a4 a5 k
  obtain ⟨ih0, ih1, ih2, ih3⟩ := gemotlaw10_ViewParts.mono_l k
  unfold gemotlaw10_ViewParts.f
  repeat' first
      | (with_reducible exact ih0 _ _ _ _ _ _ _ _)
      | (with_reducible exact ih1 _ _ _ _ _ _ _ _ _ _ _)
      | (with_reducible exact ih2 _ _ _ _ _ _ _ _ _ _ _ _ _)
      | (with_reducible exact ih3 _ _ _ _ _ _ _ _ _ _ _)
      | (with_reducible exact view_Right.mono _ _ _ _)
      | (with_reducible exact view_Same.mono _ _ _)
      | (with_reducible exact view_Term.mono _ _ _ _)
      | (with_reducible exact LeO.refl _)
      | (with_reducible exact LeO.none _)
      | (with_reducible refine LeO.ite ?_ ?_)
      | (with_reducible refine LeO.bind ?_ (fun _ => ?_))
      | exact ih0 _ _ _ _ _ _ _ _
      | exact ih1 _ _ _ _ _ _ _ _ _ _ _
      | exact ih2 _ _ _ _ _ _ _ _ _ _ _ _ _
      | exact ih3 _ _ _ _ _ _ _ _ _ _ _
      | exact view_Right.mono _ _ _ _
      | exact view_Same.mono _ _ _
      | exact view_Term.mono _ _ _ _
      | exact LeO.none _
      | refine LeO.ite ?_ ?_
      | refine LeO.bind ?_ (fun _ => ?_)
set_option maxHeartbeats 8000000 in
set_option maxRecDepth 100000 in
theorem gemotlaw10_ViewParts.calls (k : Nat) (a0_0 : Int) (a0_1 : Int) (A0_2 : Option Addr) (c0_2 : Nat) (l0_2 : List Int) (a1_0 : Int) (a1_1 : Int) (A1_2 : Option Addr) (c1_2 : Nat) (l1_2 : List Int) (r : Bool) (w : World) (hr0_2 : Kd.C (Kd.int .i64) w A0_2 l0_2.length l0_2) (hc0_2 : l0_2.length ≤ c0_2) (hr1_2 : Kd.C (Kd.int .i64) w A1_2 l1_2.length l1_2) (hc1_2 : l1_2.length ≤ c1_2) (h : gemotlaw10_ViewParts.f k a0_0 a0_1 l0_2 a1_0 a1_1 l1_2 = some r) :
    Calls Try.prog 8 #[.agg #[.int .i64 a0_0, .int .i64 a0_1, .slice A0_2 l0_2.length c0_2], .agg #[.int .i64 a1_0, .int .i64 a1_1, .slice A1_2 l1_2.length c1_2]] w fun e w' => e = .returned (.bool r) ∧ Below w.heap.size w w' := by
  have hu53 := Try.underlying53
  have hu23 := Try.underlying23
  have HR0_2 := Aside0.mk hr0_2
  have HC0_2 := Aside0.mk hc0_2
  clear hr0_2 hc0_2
  have HR1_2 := Aside0.mk hr1_2
  have HC1_2 := Aside0.mk hc1_2
  clear hr1_2 hc1_2
  have HB := Aside0.mk (Below.refl w.heap.size w)
  have H : ((gemotlaw10_shown.f).bind fun t432 => (if t432 = true then (if (l0_2.length : Int) > 50 then (gemotlaw10_ViewParts.j0 k t432 true a0_0 a0_1 l0_2 a1_0 a1_1 l1_2) else (gemotlaw10_ViewParts.j0 k t432 (decide ((l1_2.length : Int) > 50)) a0_0 a0_1 l0_2 a1_0 a1_1 l1_2)) else (gemotlaw10_ViewParts.j0 k t432 true a0_0 a0_1 l0_2 a1_0 a1_1 l1_2))) = some r := h
  clear h
  replace H := Option.bind_eq_some_iff.mp H
  obtain ⟨t432, A30, H⟩ := H
  replace H : (if t432 = true then (if (l0_2.length : Int) > 50 then (gemotlaw10_ViewParts.j0 k t432 true a0_0 a0_1 l0_2 a1_0 a1_1 l1_2) else (gemotlaw10_ViewParts.j0 k t432 (decide ((l1_2.length : Int) > 50)) a0_0 a0_1 l0_2 a1_0 a1_1 l1_2)) else (gemotlaw10_ViewParts.j0 k t432 true a0_0 a0_1 l0_2 a1_0 a1_1 l1_2)) = some r := H
  have A3 := Aside0.mk A30
  clear A30
  have HC4 := Aside0.mk H
  clear H
  go_enter Try.func8, Try.ntmps8
  go_upto_region 2 with (first | ((with_reducible refine gate_dst (N := 2) rfl ?_); (try (refine gate_guard (by rfl) ?_; dsimp only)); refine box_event ?hg (N := 2) ?hd (cs := #[.int .i64 a0_0, .int .i64 a0_1, .slice A0_2 l0_2.length c0_2]) (t := 53) ?hr ?_; (case hd => rfl); (case hg => rfl); (case hr => first | (go_simp; done) | (go_simp; rfl)); intro gb430 hg w5 hbox hb; have n0_ := Aside0.mk (below_step (by repeat (first | (with_reducible first | exact HB.out | apply below_alloc | apply pw_below_drewN | apply below_drew1) | exact HB.out)) hb); have n1_ := Aside0.mk (hbox); have n2_ := Aside0.mk ((by rw [hg]; exact (below_size (by repeat (first | (with_reducible first | exact HB.out | apply below_alloc | apply pw_below_drewN | apply below_drew1) | exact HB.out))) : w.heap.size ≤ gb430)); have n3_ := Aside0.mk ((by rw [hg]; exact (below_size (by repeat (first | (with_reducible first | exact HB.out | apply below_alloc | apply pw_below_drewN | apply below_drew1) | exact HB.out))) : w.heap.size ≤ gb430)); clear HB; have HB := n0_; have BK430 := n1_; have GW430 := n2_; have GE430 := n3_; clear n0_ n1_ n2_ n3_; clear hb hbox hg) | ((with_reducible refine gate_dst (N := 3) rfl ?_); (try (refine gate_guard (by rfl) ?_; dsimp only)); refine box_event ?hg (N := 3) ?hd (cs := #[.int .i64 a1_0, .int .i64 a1_1, .slice A1_2 l1_2.length c1_2]) (t := 53) ?hr ?_; (case hd => rfl); (case hg => rfl); (case hr => first | (go_simp; done) | (go_simp; rfl)); intro gb431 hg w6 hbox hb; have n0_ := Aside0.mk (blk_below (g := gb430) (o := .cells #[.int .i64 a0_0, .int .i64 a0_1, .slice A0_2 l0_2.length c0_2] 53 (0, 0)) (by (with_reducible repeat (first | refine blk_drewN ?_ _ | refine blk_drew ?_ | refine blk_alloc ?_ _)); exact BK430.out) hb); have n1_ := Aside0.mk (below_step (by repeat (first | (with_reducible first | exact HB.out | apply below_alloc | apply pw_below_drewN | apply below_drew1 | refine below_set ?_ GE430.out) | exact HB.out)) hb); have n2_ := Aside0.mk (hbox); have n3_ := Aside0.mk ((by rw [hg]; exact (below_size (by repeat (first | (with_reducible first | exact HB.out | apply below_alloc | apply pw_below_drewN | apply below_drew1 | refine below_set ?_ GE430.out) | exact HB.out))) : w.heap.size ≤ gb431)); have n4_ := Aside0.mk ((by rw [hg]; exact (below_size (by repeat (first | (with_reducible first | exact HB.out | apply below_alloc | apply pw_below_drewN | apply below_drew1 | refine below_set ?_ GE430.out) | exact HB.out))) : w.heap.size ≤ gb431)); have n5_ := Aside0.mk ((by rw [hg]; exact Nat.ne_of_lt (blk_lt (g := gb430) (o := .cells #[.int .i64 a0_0, .int .i64 a0_1, .slice A0_2 l0_2.length c0_2] 53 (0, 0)) (by (with_reducible repeat (first | refine blk_drewN ?_ _ | refine blk_drew ?_ | refine blk_alloc ?_ _)); exact BK430.out)) : gb430 ≠ gb431)); have n6_ := Aside0.mk ((by rw [hg]; exact Nat.ne_of_gt (blk_lt (g := gb430) (o := .cells #[.int .i64 a0_0, .int .i64 a0_1, .slice A0_2 l0_2.length c0_2] 53 (0, 0)) (by (with_reducible repeat (first | refine blk_drewN ?_ _ | refine blk_drew ?_ | refine blk_alloc ?_ _)); exact BK430.out)) : gb431 ≠ gb430)); clear BK430; clear HB; have BK430 := n0_; have HB := n1_; have BK431 := n2_; have GW431 := n3_; have GE431 := n4_; have NB430_431 := n5_; have NB431_430 := n6_; clear n0_ n1_ n2_ n3_ n4_ n5_ n6_; clear hb hbox hg) | ((with_reducible refine gate_callee (f := 11) rfl ?_); refine goesL_ (some 16) rfl rfl Try.func11 (by kernel_rfl) rfl #[] rfl (by (try simp only [List.map_toArray, List.map_cons, List.map_nil]); first | done | rfl | (simp only [List.length_drop, List.length_take]; rfl)) ?_; (with_reducible refine (gemotlaw10_shown.calls  t432 _ A3.out).mono ?_); rintro e w7 ⟨rfl, hb⟩; refine ⟨_, rfl, ?_⟩; have n0_ := Aside0.mk (blk_below (g := gb430) (o := .cells #[.int .i64 a0_0, .int .i64 a0_1, .slice A0_2 l0_2.length c0_2] 53 (0, 0)) (by (with_reducible repeat (first | refine blk_drewN ?_ _ | refine blk_drew ?_ | refine blk_alloc ?_ _)); exact BK430.out) hb); have n1_ := Aside0.mk (blk_below (g := gb431) (o := .cells #[.int .i64 a1_0, .int .i64 a1_1, .slice A1_2 l1_2.length c1_2] 53 (0, 0)) (by (with_reducible repeat (first | refine blk_drewN ?_ _ | refine blk_drew ?_ | refine blk_alloc ?_ _)); exact BK431.out) hb); have n2_ := Aside0.mk (below_step (by repeat (first | (with_reducible first | exact HB.out | apply below_alloc | apply pw_below_drewN | apply below_drew1 | refine below_set ?_ GE430.out | refine below_set ?_ GE431.out) | exact HB.out)) hb); clear BK430; clear BK431; clear HB; have BK430 := n0_; have BK431 := n1_; have HB := n2_; clear n0_ n1_ n2_; (try clear hb); (try clear hb2); (try clear hk); (try clear hi)))
  (try simp only [Act.put, List.setIfInBounds_toArray, List.set_cons_zero, List.set_cons_succ])
  go_cut [30] (fun v30 wc => ∃ (kq : Nat) (x30_3 : Bool), v30 = .bool x30_3 ∧ Aside0 (gemotlaw10_ViewParts.j0 kq t432 x30_3 a0_0 a0_1 l0_2 a1_0 a1_1 l1_2 = some r) ∧ Aside0 (kq ≤ k) ∧ Aside0 (wc.heap[gb430]? = some (.cells #[.int .i64 a0_0, .int .i64 a0_1, (.slice A0_2 l0_2.length c0_2)] 53 (0, 0))) ∧ Aside0 (wc.heap[gb431]? = some (.cells #[.int .i64 a1_0, .int .i64 a1_1, (.slice A1_2 l1_2.length c1_2)] 53 (0, 0))) ∧ Aside0 (Below w.heap.size w wc))
  case first =>
    have H := HC4.out
    clear HC4
    by_cases c8 : t432 = true
    · subst c8
      have H1 : (if (l0_2.length : Int) > 50 then (gemotlaw10_ViewParts.j0 k true true a0_0 a0_1 l0_2 a1_0 a1_1 l1_2) else (gemotlaw10_ViewParts.j0 k true (decide ((l1_2.length : Int) > 50)) a0_0 a0_1 l0_2 a1_0 a1_1 l1_2)) = some r := by rw [if_pos rfl] at H; exact H
      clear H
      have H := H1
      clear H1
      by_cases c9 : (l0_2.length : Int) > 50
      · rw [if_pos c9] at H
        have c9b0 : decide (50 < (l0_2.length : Int)) = true := decide_eq_true c9
        have c9b1 : decide (50 < l0_2.length) = true := decide_eq_true (by omega)
        clear c9
        (first | rw [c9b0] | (simp only [i64_w, i32_w]; rw [c9b0]) | skip)
        have H' := Aside0.mk H
        clear H
        have hnb10 := NB430_431.out
        have hnc10 := NB431_430.out
        have hcz11_0 : w7.cell? ⟨gb430, 0, none⟩ = some (.int .i64 a0_0) := (blk_cell BK430.out 0).trans rfl
        have hcz11_1 : w7.cell? ⟨gb430, 1, none⟩ = some (.int .i64 a0_1) := (blk_cell BK430.out 1).trans rfl
        have hcz11_2 : w7.cell? ⟨gb430, 2, none⟩ = some (.slice A0_2 l0_2.length c0_2) := (blk_cell BK430.out 2).trans rfl
        have hfz11_0 := blk_frozen BK430.out 0
        have hfz11_1 := blk_frozen BK430.out 1
        have hfz11_2 := blk_frozen BK430.out 2
        go_wp2
        go_meet
        case rel => exact ⟨_, (true), (by first | rfl | (simp; done) | (simp [*]; done)), H', ⟨by first | omega | exact Nat.le_refl _⟩, ⟨by (with_reducible repeat (first | refine blk_drewN ?_ _ | refine blk_drew ?_ | refine blk_alloc ?_ _)); exact BK430.out⟩, ⟨by (with_reducible repeat (first | refine blk_drewN ?_ _ | refine blk_drew ?_ | refine blk_alloc ?_ _)); exact BK431.out⟩, ⟨by repeat (first | (with_reducible first | exact HB.out | apply below_alloc | apply pw_below_drewN | apply below_drew1 | refine below_set ?_ GE430.out | refine below_set ?_ GE431.out) | exact HB.out)⟩⟩
      · rw [if_neg c9] at H
        have c9b0 : decide (50 < (l0_2.length : Int)) = false := decide_eq_false c9
        have c9b1 : decide (50 < l0_2.length) = false := decide_eq_false (by omega)
        clear c9
        (first | rw [c9b0] | (simp only [i64_w, i32_w]; rw [c9b0]) | skip)
        have H' := Aside0.mk H
        clear H
        have hnb12 := NB430_431.out
        have hnc12 := NB431_430.out
        have hcz13_0 : w7.cell? ⟨gb430, 0, none⟩ = some (.int .i64 a0_0) := (blk_cell BK430.out 0).trans rfl
        have hcz13_1 : w7.cell? ⟨gb430, 1, none⟩ = some (.int .i64 a0_1) := (blk_cell BK430.out 1).trans rfl
        have hcz13_2 : w7.cell? ⟨gb430, 2, none⟩ = some (.slice A0_2 l0_2.length c0_2) := (blk_cell BK430.out 2).trans rfl
        have hfz13_0 := blk_frozen BK430.out 0
        have hfz13_1 := blk_frozen BK430.out 1
        have hfz13_2 := blk_frozen BK430.out 2
        have hcz14_0 : w7.cell? ⟨gb431, 0, none⟩ = some (.int .i64 a1_0) := (blk_cell BK431.out 0).trans rfl
        have hcz14_1 : w7.cell? ⟨gb431, 1, none⟩ = some (.int .i64 a1_1) := (blk_cell BK431.out 1).trans rfl
        have hcz14_2 : w7.cell? ⟨gb431, 2, none⟩ = some (.slice A1_2 l1_2.length c1_2) := (blk_cell BK431.out 2).trans rfl
        have hfz14_0 := blk_frozen BK431.out 0
        have hfz14_1 := blk_frozen BK431.out 1
        have hfz14_2 := blk_frozen BK431.out 2
        go_wp2
        go_meet
        case rel => exact ⟨_, (decide ((l1_2.length : Int) > 50)), (by first | rfl | (simp; done) | (simp [*]; done)), H', ⟨by first | omega | exact Nat.le_refl _⟩, ⟨by (with_reducible repeat (first | refine blk_drewN ?_ _ | refine blk_drew ?_ | refine blk_alloc ?_ _)); exact BK430.out⟩, ⟨by (with_reducible repeat (first | refine blk_drewN ?_ _ | refine blk_drew ?_ | refine blk_alloc ?_ _)); exact BK431.out⟩, ⟨by repeat (first | (with_reducible first | exact HB.out | apply below_alloc | apply pw_below_drewN | apply below_drew1 | refine below_set ?_ GE430.out | refine below_set ?_ GE431.out) | exact HB.out)⟩⟩
    · replace c8 := Bool.eq_false_iff.mpr c8
      subst c8
      have H1 : (gemotlaw10_ViewParts.j0 k false true a0_0 a0_1 l0_2 a1_0 a1_1 l1_2) = some r := by rw [if_neg (show ¬ (false = true) by decide)] at H; exact H
      clear H
      have H := H1
      clear H1
      have H' := Aside0.mk H
      clear H
      go_wp2
      go_meet
      case rel => exact ⟨_, (true), (by first | rfl | (simp; done) | (simp [*]; done)), H', ⟨by first | omega | exact Nat.le_refl _⟩, ⟨by (with_reducible repeat (first | refine blk_drewN ?_ _ | refine blk_drew ?_ | refine blk_alloc ?_ _)); exact BK430.out⟩, ⟨by (with_reducible repeat (first | refine blk_drewN ?_ _ | refine blk_drew ?_ | refine blk_alloc ?_ _)); exact BK431.out⟩, ⟨by repeat (first | (with_reducible first | exact HB.out | apply below_alloc | apply pw_below_drewN | apply below_drew1 | refine below_set ?_ GE430.out | refine below_set ?_ GE431.out) | exact HB.out)⟩⟩
  case rest =>
    clear HC4
    try clear c1
    try clear p2
    try clear c8
    try clear c9
    try clear c9b0
    try clear c9b1
    try clear c10
    try clear c11
    try clear c12
    try clear hcz11_0
    try clear hcz11_1
    try clear hcz11_2
    try clear hcz13_0
    try clear hcz13_1
    try clear hcz13_2
    try clear hcz14_0
    try clear hcz14_1
    try clear hcz14_2
    try clear hfz11_0
    try clear hfz11_1
    try clear hfz11_2
    try clear hfz13_0
    try clear hfz13_1
    try clear hfz13_2
    try clear hfz14_0
    try clear hfz14_1
    try clear hfz14_2
    obtain ⟨kq, x30_3, rfl, HA, HJ3, BK430, BK431, HB⟩ := hcut
    cases kq with
    | zero => exact absurd HA.out (by simp [gemotlaw10_ViewParts.j0])
    | succ kj3 =>
      have H := HA.out
      clear HA
      simp only [gemotlaw10_ViewParts.j0] at H
      by_cases c15 : x30_3 = true
      · subst c15
        have H1 : (some t432) = some r := by rw [if_pos rfl] at H; exact H
        clear H
        have H := H1
        clear H1
        obtain rfl := Option.some.inj H
        go_wp2
        go_ret
        exact ⟨by first | rfl | (simp [errW_none, errW_some] <;> rfl) | (simp [*, errW_none, errW_some] <;> rfl), by repeat (first | (with_reducible first | exact HB.out | apply below_alloc | apply pw_below_drewN | apply below_drew1 | refine below_set ?_ GE430.out | refine below_set ?_ GE431.out) | exact HB.out)⟩
      · replace c15 := Bool.eq_false_iff.mpr c15
        subst c15
        have H1 : ((view_Both.f l0_2 l1_2).bind fun t433 => ((view_Without.f l0_2 l1_2).bind fun t436 => (gemotlaw10_ViewParts.l0 kj3 t433 t436 0 0 0 a0_0 a0_1 l0_2 a1_0 a1_1 l1_2))) = some r := by rw [if_neg (show ¬ (false = true) by decide)] at H; exact H
        clear H
        have H := H1
        clear H1
        replace H := Option.bind_eq_some_iff.mp H
        obtain ⟨t433, A160, H⟩ := H
        replace H : ((view_Without.f l0_2 l1_2).bind fun t436 => (gemotlaw10_ViewParts.l0 kj3 t433 t436 0 0 0 a0_0 a0_1 l0_2 a1_0 a1_1 l1_2)) = some r := H
        have A16 := Aside0.mk A160
        clear A160
        replace H := Option.bind_eq_some_iff.mp H
        obtain ⟨t436, A170, H⟩ := H
        replace H : (gemotlaw10_ViewParts.l0 kj3 t433 t436 0 0 0 a0_0 a0_1 l0_2 a1_0 a1_1 l1_2) = some r := H
        have A17 := Aside0.mk A170
        clear A170
        have H' := Aside0.mk H
        clear H
        have hnb18 := NB430_431.out
        have hnc18 := NB431_430.out
        have hcz19_0 : wc.cell? ⟨gb430, 0, none⟩ = some (.int .i64 a0_0) := (blk_cell BK430.out 0).trans rfl
        have hcz19_1 : wc.cell? ⟨gb430, 1, none⟩ = some (.int .i64 a0_1) := (blk_cell BK430.out 1).trans rfl
        have hcz19_2 : wc.cell? ⟨gb430, 2, none⟩ = some (.slice A0_2 l0_2.length c0_2) := (blk_cell BK430.out 2).trans rfl
        have hfz19_0 := blk_frozen BK430.out 0
        have hfz19_1 := blk_frozen BK430.out 1
        have hfz19_2 := blk_frozen BK430.out 2
        have hcz20_0 : wc.cell? ⟨gb431, 0, none⟩ = some (.int .i64 a1_0) := (blk_cell BK431.out 0).trans rfl
        have hcz20_1 : wc.cell? ⟨gb431, 1, none⟩ = some (.int .i64 a1_1) := (blk_cell BK431.out 1).trans rfl
        have hcz20_2 : wc.cell? ⟨gb431, 2, none⟩ = some (.slice A1_2 l1_2.length c1_2) := (blk_cell BK431.out 2).trans rfl
        have hfz20_0 := blk_frozen BK431.out 0
        have hfz20_1 := blk_frozen BK431.out 1
        have hfz20_2 := blk_frozen BK431.out 2
        go_wp2_with (first | ((with_reducible refine gate_callee (f := 25) rfl ?_); refine goesL_ (some 36) rfl rfl Try.func25 (by kernel_rfl) rfl #[.slice A0_2 l0_2.length c0_2, .slice A1_2 l1_2.length c1_2] rfl (by (try simp only [List.map_toArray, List.map_cons, List.map_nil]); first | done | rfl | (simp only [List.length_drop, List.length_take]; rfl)) ?_; (with_reducible refine (view_Both.calls _ _ l0_2 _ _ l1_2 t433 _ ?side1 ?side2 ?side3 ?side4 A16.out).mono ?_); (case side1 => repeat (first | exact (Kd.C_below HR0_2.out HB.out) | (with_reducible refine Kd.C_alloc ?_ _) | (with_reducible refine Kd.C_drewN ?_ _) | (with_reducible refine Kd.C_drew ?_))); (case side2 => exact HC0_2.out); (case side3 => repeat (first | exact (Kd.C_below HR1_2.out HB.out) | (with_reducible refine Kd.C_alloc ?_ _) | (with_reducible refine Kd.C_drewN ?_ _) | (with_reducible refine Kd.C_drew ?_))); (case side4 => exact HC1_2.out); rintro e w21 ⟨v434, rfl, ho0, hb⟩; refine ⟨_, rfl, ?_⟩; have n0_ := Aside0.mk (Kd.R_lower ho0 (below_size (by repeat (first | (with_reducible first | exact HB.out | apply below_alloc | apply pw_below_drewN | apply below_drew1 | refine below_set ?_ GE430.out | refine below_set ?_ GE431.out) | exact HB.out)))); have n1_ := Aside0.mk (blk_below (g := gb430) (o := .cells #[.int .i64 a0_0, .int .i64 a0_1, .slice A0_2 l0_2.length c0_2] 53 (0, 0)) (by (with_reducible repeat (first | refine blk_drewN ?_ _ | refine blk_drew ?_ | refine blk_alloc ?_ _)); exact BK430.out) hb); have n2_ := Aside0.mk (blk_below (g := gb431) (o := .cells #[.int .i64 a1_0, .int .i64 a1_1, .slice A1_2 l1_2.length c1_2] 53 (0, 0)) (by (with_reducible repeat (first | refine blk_drewN ?_ _ | refine blk_drew ?_ | refine blk_alloc ?_ _)); exact BK431.out) hb); have n3_ := Aside0.mk (below_step (by repeat (first | (with_reducible first | exact HB.out | apply below_alloc | apply pw_below_drewN | apply below_drew1 | refine below_set ?_ GE430.out | refine below_set ?_ GE431.out) | exact HB.out)) hb); clear BK430; clear BK431; clear HB; have HO435 := n0_; have BK430 := n1_; have BK431 := n2_; have HB := n3_; clear n0_ n1_ n2_ n3_; (try clear hb); (try clear hb2); (try clear hk); (try clear hi); (try clear ho0); have hcz22_0 : w21.cell? ⟨gb430, 0, none⟩ = some (.int .i64 a0_0) := (blk_cell BK430.out 0).trans rfl; have hcz22_1 : w21.cell? ⟨gb430, 1, none⟩ = some (.int .i64 a0_1) := (blk_cell BK430.out 1).trans rfl; have hcz22_2 : w21.cell? ⟨gb430, 2, none⟩ = some (.slice A0_2 l0_2.length c0_2) := (blk_cell BK430.out 2).trans rfl; have hfz22_0 := blk_frozen BK430.out 0; have hfz22_1 := blk_frozen BK430.out 1; have hfz22_2 := blk_frozen BK430.out 2; have hcz23_0 : w21.cell? ⟨gb431, 0, none⟩ = some (.int .i64 a1_0) := (blk_cell BK431.out 0).trans rfl; have hcz23_1 : w21.cell? ⟨gb431, 1, none⟩ = some (.int .i64 a1_1) := (blk_cell BK431.out 1).trans rfl; have hcz23_2 : w21.cell? ⟨gb431, 2, none⟩ = some (.slice A1_2 l1_2.length c1_2) := (blk_cell BK431.out 2).trans rfl; have hfz23_0 := blk_frozen BK431.out 0; have hfz23_1 := blk_frozen BK431.out 1; have hfz23_2 := blk_frozen BK431.out 2) | ((with_reducible refine gate_callee (f := 26) rfl ?_); refine goesL_ (some 41) rfl rfl Try.func26 (by kernel_rfl) rfl #[.slice A0_2 l0_2.length c0_2, .slice A1_2 l1_2.length c1_2] rfl (by (try simp only [List.map_toArray, List.map_cons, List.map_nil]); first | done | rfl | (simp only [List.length_drop, List.length_take]; rfl)) ?_; (with_reducible refine (view_Without.calls _ _ l0_2 _ _ l1_2 t436 _ ?side1 ?side2 ?side3 ?side4 A17.out).mono ?_); (case side1 => repeat (first | exact (Kd.C_below HR0_2.out HB.out) | (with_reducible refine Kd.C_alloc ?_ _) | (with_reducible refine Kd.C_drewN ?_ _) | (with_reducible refine Kd.C_drew ?_))); (case side2 => exact HC0_2.out); (case side3 => repeat (first | exact (Kd.C_below HR1_2.out HB.out) | (with_reducible refine Kd.C_alloc ?_ _) | (with_reducible refine Kd.C_drewN ?_ _) | (with_reducible refine Kd.C_drew ?_))); (case side4 => exact HC1_2.out); rintro e w24 ⟨v437, rfl, ho0, hb⟩; refine ⟨_, rfl, ?_⟩; have n0_ := Aside0.mk (Kd.R_elder' (by (with_reducible repeat (first | apply Kd.R_alloc | apply Kd.R_drewN | apply Kd.R_drew)); exact HO435.out) (Kd.R_base ho0) hb); have n1_ := Aside0.mk (Kd.R_lower (Kd.R_new' ho0 (Kd.R_lt (by (with_reducible repeat (first | apply Kd.R_alloc | apply Kd.R_drewN | apply Kd.R_drew)); exact HO435.out))) (below_size (by repeat (first | (with_reducible first | exact HB.out | apply below_alloc | apply pw_below_drewN | apply below_drew1 | refine below_set ?_ GE430.out | refine below_set ?_ GE431.out) | exact HB.out)))); have n2_ := Aside0.mk (blk_below (g := gb430) (o := .cells #[.int .i64 a0_0, .int .i64 a0_1, .slice A0_2 l0_2.length c0_2] 53 (0, 0)) (by (with_reducible repeat (first | refine blk_drewN ?_ _ | refine blk_drew ?_ | refine blk_alloc ?_ _)); exact BK430.out) hb); have n3_ := Aside0.mk (blk_below (g := gb431) (o := .cells #[.int .i64 a1_0, .int .i64 a1_1, .slice A1_2 l1_2.length c1_2] 53 (0, 0)) (by (with_reducible repeat (first | refine blk_drewN ?_ _ | refine blk_drew ?_ | refine blk_alloc ?_ _)); exact BK431.out) hb); have n4_ := Aside0.mk (below_step (by repeat (first | (with_reducible first | exact HB.out | apply below_alloc | apply pw_below_drewN | apply below_drew1 | refine below_set ?_ GE430.out | refine below_set ?_ GE431.out) | exact HB.out)) hb); clear HO435; clear BK430; clear BK431; clear HB; have HO435 := n0_; have HO438 := n1_; have BK430 := n2_; have BK431 := n3_; have HB := n4_; clear n0_ n1_ n2_ n3_ n4_; (try clear hb); (try clear hb2); (try clear hk); (try clear hi); (try clear ho0)))
        go_loopg [8, 9, 10] kj3 (fun kq v8 v9 v10 w' => ∃ (x8_2 : Int) (x9_2 : Int) (x10_2 : Int), v8 = .int .i64 x8_2 ∧ v9 = .int .i64 x9_2 ∧ v10 = .int .i64 x10_2 ∧ Aside0 (gemotlaw10_ViewParts.l0 kq t433 t436 x8_2 x9_2 x10_2 a0_0 a0_1 l0_2 a1_0 a1_1 l1_2 = some r) ∧ Aside0 (kq ≤ kj3) ∧ Aside0 (Kd.R (Kd.int .i64) 3 w' w.heap.size (fun k_ => some k_ ≠ (v437 : Value).ownBlock) v434 t433) ∧ Aside0 (Kd.R (Kd.int .i64) 3 w' w.heap.size (fun k_ => some k_ ≠ (v434 : Value).ownBlock) v437 t436) ∧ Aside0 (w'.heap[gb430]? = some (.cells #[.int .i64 a0_0, .int .i64 a0_1, (.slice A0_2 l0_2.length c0_2)] 53 (0, 0))) ∧ Aside0 (w'.heap[gb431]? = some (.cells #[.int .i64 a1_0, .int .i64 a1_1, (.slice A1_2 l1_2.length c1_2)] 53 (0, 0))) ∧ Aside0 (Below w.heap.size w w'))
        case atStart => exact ⟨(0), (0), (0), (by first | rfl | (simp; done) | (simp [*]; done)), (by first | rfl | (simp; done) | (simp [*]; done)), (by first | rfl | (simp; done) | (simp [*]; done)), H', ⟨Nat.le_refl _⟩, ⟨by (with_reducible repeat (first | apply Kd.R_alloc | apply Kd.R_drewN | apply Kd.R_drew)); exact Kd.R_mono HO435.out (fun _ hk => hk.2)⟩, ⟨by (with_reducible repeat (first | apply Kd.R_alloc | apply Kd.R_drewN | apply Kd.R_drew)); exact Kd.R_mono HO438.out (fun _ hk => hk.2)⟩, ⟨by (with_reducible repeat (first | refine blk_drewN ?_ _ | refine blk_drew ?_ | refine blk_alloc ?_ _)); exact BK430.out⟩, ⟨by (with_reducible repeat (first | refine blk_drewN ?_ _ | refine blk_drew ?_ | refine blk_alloc ?_ _)); exact BK431.out⟩, ⟨by repeat (first | (with_reducible first | exact HB.out | apply below_alloc | apply pw_below_drewN | apply below_drew1 | refine below_set ?_ GE430.out | refine below_set ?_ GE431.out) | exact HB.out)⟩⟩
        case round =>
          clear H'
          try clear c1
          try clear c2
          try clear p2
          try clear c8
          try clear c9
          try clear c9b0
          try clear c9b1
          try clear c10
          try clear c11
          try clear c12
          try clear c15
          try clear c18
          try clear hcz11_0
          try clear hcz11_1
          try clear hcz11_2
          try clear hcz13_0
          try clear hcz13_1
          try clear hcz13_2
          try clear hcz14_0
          try clear hcz14_1
          try clear hcz14_2
          try clear hcz19_0
          try clear hcz19_1
          try clear hcz19_2
          try clear hcz20_0
          try clear hcz20_1
          try clear hcz20_2
          try clear hcz22_0
          try clear hcz22_1
          try clear hcz22_2
          try clear hcz23_0
          try clear hcz23_1
          try clear hcz23_2
          try clear hfz11_0
          try clear hfz11_1
          try clear hfz11_2
          try clear hfz13_0
          try clear hfz13_1
          try clear hfz13_2
          try clear hfz14_0
          try clear hfz14_1
          try clear hfz14_2
          try clear hfz19_0
          try clear hfz19_1
          try clear hfz19_2
          try clear hfz20_0
          try clear hfz20_1
          try clear hfz20_2
          try clear hfz22_0
          try clear hfz22_1
          try clear hfz22_2
          try clear hfz23_0
          try clear hfz23_1
          try clear hfz23_2
          try clear p2
          obtain ⟨x8_2, x9_2, x10_2, rfl, rfl, rfl, HA, HK2, HO_6, HO_7, BK430, BK431, HB⟩ := hrel
          cases gk with
          | zero => exact absurd HA.out (by simp [gemotlaw10_ViewParts.l0])
          | succ k2 =>
            have H := HA.out
            clear HA
            simp only [gemotlaw10_ViewParts.l0] at H
            by_cases c25 : x10_2 < (l0_2.length : Int)
            · rw [if_pos c25] at H
              have c25b0 : decide (x10_2 < (l0_2.length : Int)) = true := decide_eq_true c25
              clear c25
              by_cases c26 : 0 ≤ x10_2
              · rw [if_pos c26] at H
                have c26b0 : decide (0 ≤ x10_2) = true := decide_eq_true c26
                clear c26
                have HC27 := Aside0.mk H
                clear H
                have hnb28 := NB430_431.out
                have hnc28 := NB431_430.out
                have hcz29_0 : wr.cell? ⟨gb430, 0, none⟩ = some (.int .i64 a0_0) := (blk_cell BK430.out 0).trans rfl
                have hcz29_1 : wr.cell? ⟨gb430, 1, none⟩ = some (.int .i64 a0_1) := (blk_cell BK430.out 1).trans rfl
                have hcz29_2 : wr.cell? ⟨gb430, 2, none⟩ = some (.slice A0_2 l0_2.length c0_2) := (blk_cell BK430.out 2).trans rfl
                have hfz29_0 := blk_frozen BK430.out 0
                have hfz29_1 := blk_frozen BK430.out 1
                have hfz29_2 := blk_frozen BK430.out 2
                have p439 : 0 ≤ (x10_2 : Int) := of_decide_eq_true (by first | (with_reducible assumption) | assumption)
                have q439 : x10_2 < (l0_2.length : Int) := of_decide_eq_true (by first | (with_reducible assumption) | assumption)
                obtain ⟨ad439, e439, hx439_0⟩ := Kd.at_int HR0_2.out x10_2 p439 q439
                cases e439
                replace hx439_0 := (HB.out.cell (World.block_lt_of_cell? w _ hx439_0)).trans hx439_0
                replace p439 := eq_true p439
                replace q439 := eq_true q439
                go_upto_region 12 with (fail)
                go_cut [71] (fun v71 wc => ∃ (kq : Nat) (x71_26 : Bool), v71 = .bool x71_26 ∧ Aside0 (gemotlaw10_ViewParts.j2 kq t433 t436 x8_2 x9_2 x10_2 (rd l0_2 x10_2) x71_26 a0_0 a0_1 l0_2 a1_0 a1_1 l1_2 = some r) ∧ Aside0 (kq ≤ k2) ∧ Aside0 (Kd.R (Kd.int .i64) 3 wc w.heap.size (fun k_ => some k_ ≠ (v437 : Value).ownBlock) v434 t433) ∧ Aside0 (Kd.R (Kd.int .i64) 3 wc w.heap.size (fun k_ => some k_ ≠ (v434 : Value).ownBlock) v437 t436) ∧ Aside0 (wc.heap[gb430]? = some (.cells #[.int .i64 a0_0, .int .i64 a0_1, (.slice (some ad439) l0_2.length c0_2)] 53 (0, 0))) ∧ Aside0 (wc.heap[gb431]? = some (.cells #[.int .i64 a1_0, .int .i64 a1_1, (.slice A1_2 l1_2.length c1_2)] 53 (0, 0))) ∧ Aside0 (Below w.heap.size w wc))
                case first =>
                  have H := HC27.out
                  clear HC27
                  by_cases c30 : x8_2 < (t433.length : Int)
                  · rw [if_pos c30] at H
                    have c30b0 : decide (x8_2 < (t433.length : Int)) = true := decide_eq_true c30
                    clear c30
                    (first | rw [c30b0] | (simp only [i64_w, i32_w]; rw [c30b0]) | skip)
                    by_cases c31 : 0 ≤ x8_2
                    · rw [if_pos c31] at H
                      have c31b0 : decide (0 ≤ x8_2) = true := decide_eq_true c31
                      clear c31
                      by_cases c32 : (rd t433 x8_2) = (rd l0_2 x10_2)
                      · rw [if_pos c32] at H
                        have c32b0 : ((rd t433 x8_2) == (rd l0_2 x10_2)) = true := beq_iff_eq.mpr c32
                        have c32b1 : ((rd t433 x8_2) != (rd l0_2 x10_2)) = false := bne_eq_false_iff_eq.mpr c32
                        clear c32
                        replace H := Option.bind_eq_some_iff.mp H
                        obtain ⟨t441, A330, H⟩ := H
                        replace H : (gemotlaw10_ViewParts.j2 k2 t433 t436 x8_2 x9_2 x10_2 (rd l0_2 x10_2) t441 a0_0 a0_1 l0_2 a1_0 a1_1 l1_2) = some r := H
                        have A33 := Aside0.mk A330
                        clear A330
                        have H' := Aside0.mk H
                        clear H
                        obtain ⟨Ao34, co34, eo34⟩ := Kd.R_slice HO_6.out
                        subst eo34
                        have p440 : 0 ≤ (x8_2 : Int) := of_decide_eq_true (by first | (with_reducible assumption) | assumption)
                        have q440 : x8_2 < (t433.length : Int) := of_decide_eq_true (by first | (with_reducible assumption) | assumption)
                        obtain ⟨ad440, e440, hx440_0⟩ := Kd.at_int (Kd.R_reads' HO_6.out).2.2 x8_2 p440 q440
                        cases e440
                        replace p440 := eq_true p440
                        replace q440 := eq_true q440
                        have hnb35 := NB431_430.out
                        have hnc35 := NB430_431.out
                        have hcz36_0 : wr.cell? ⟨gb431, 0, none⟩ = some (.int .i64 a1_0) := (blk_cell BK431.out 0).trans rfl
                        have hcz36_1 : wr.cell? ⟨gb431, 1, none⟩ = some (.int .i64 a1_1) := (blk_cell BK431.out 1).trans rfl
                        have hcz36_2 : wr.cell? ⟨gb431, 2, none⟩ = some (.slice A1_2 l1_2.length c1_2) := (blk_cell BK431.out 2).trans rfl
                        have hfz36_0 := blk_frozen BK431.out 0
                        have hfz36_1 := blk_frozen BK431.out 1
                        have hfz36_2 := blk_frozen BK431.out 2
                        go_wp2_with (first | (go_at_call 27; (with_reducible refine (view_Has.calls _ _ l1_2 (rd l0_2 x10_2) t441 _ ?side1 ?side2 A33.out).mono ?_); (case side1 => repeat (first | exact (Kd.C_below HR1_2.out HB.out) | (with_reducible refine Kd.C_alloc ?_ _) | (with_reducible refine Kd.C_drewN ?_ _) | (with_reducible refine Kd.C_drew ?_))); (case side2 => exact HC1_2.out); rintro e w' ⟨rfl, ⟨nd, rfl⟩⟩))
                        go_meet
                        case rel => exact ⟨_, (t441), (by first | rfl | (simp; done) | (simp [*]; done)), H', ⟨by have := HJ3.out; have := HK2.out; first | omega | exact Nat.le_refl _⟩, ⟨by (with_reducible repeat (first | apply Kd.R_alloc | apply Kd.R_drewN | apply Kd.R_drew)); exact HO_6.out⟩, ⟨by (with_reducible repeat (first | apply Kd.R_alloc | apply Kd.R_drewN | apply Kd.R_drew)); exact HO_7.out⟩, ⟨by (with_reducible repeat (first | refine blk_drewN ?_ _ | refine blk_drew ?_ | refine blk_alloc ?_ _)); exact BK430.out⟩, ⟨by (with_reducible repeat (first | refine blk_drewN ?_ _ | refine blk_drew ?_ | refine blk_alloc ?_ _)); exact BK431.out⟩, ⟨by repeat (first | (with_reducible first | exact HB.out | apply below_alloc | apply pw_below_drewN | apply below_drew1 | refine below_set ?_ GE430.out | refine below_set ?_ GE431.out) | exact HB.out)⟩⟩
                      · rw [if_neg c32] at H
                        have c32b0 : ((rd t433 x8_2) == (rd l0_2 x10_2)) = false := beq_eq_false_iff_ne.mpr c32
                        have c32b1 : ((rd t433 x8_2) != (rd l0_2 x10_2)) = true := bne_iff_ne.mpr c32
                        have H' := Aside0.mk H
                        clear H
                        obtain ⟨Ao37, co37, eo37⟩ := Kd.R_slice HO_6.out
                        subst eo37
                        have p440 : 0 ≤ (x8_2 : Int) := of_decide_eq_true (by first | (with_reducible assumption) | assumption)
                        have q440 : x8_2 < (t433.length : Int) := of_decide_eq_true (by first | (with_reducible assumption) | assumption)
                        obtain ⟨ad440, e440, hx440_0⟩ := Kd.at_int (Kd.R_reads' HO_6.out).2.2 x8_2 p440 q440
                        cases e440
                        replace p440 := eq_true p440
                        replace q440 := eq_true q440
                        go_wp2
                        go_meet
                        case rel => exact ⟨_, (false), (by first | rfl | (simp; done) | (simp [*]; done)), H', ⟨by have := HJ3.out; have := HK2.out; first | omega | exact Nat.le_refl _⟩, ⟨by (with_reducible repeat (first | apply Kd.R_alloc | apply Kd.R_drewN | apply Kd.R_drew)); exact HO_6.out⟩, ⟨by (with_reducible repeat (first | apply Kd.R_alloc | apply Kd.R_drewN | apply Kd.R_drew)); exact HO_7.out⟩, ⟨by (with_reducible repeat (first | refine blk_drewN ?_ _ | refine blk_drew ?_ | refine blk_alloc ?_ _)); exact BK430.out⟩, ⟨by (with_reducible repeat (first | refine blk_drewN ?_ _ | refine blk_drew ?_ | refine blk_alloc ?_ _)); exact BK431.out⟩, ⟨by repeat (first | (with_reducible first | exact HB.out | apply below_alloc | apply pw_below_drewN | apply below_drew1 | refine below_set ?_ GE430.out | refine below_set ?_ GE431.out) | exact HB.out)⟩⟩
                    · rw [if_neg c31] at H
                      exact absurd H (by simp)
                  · rw [if_neg c30] at H
                    have c30b0 : decide (x8_2 < (t433.length : Int)) = false := decide_eq_false c30
                    clear c30
                    (first | rw [c30b0] | (simp only [i64_w, i32_w]; rw [c30b0]) | skip)
                    have H' := Aside0.mk H
                    clear H
                    obtain ⟨Ao38, co38, eo38⟩ := Kd.R_slice HO_6.out
                    subst eo38
                    go_wp2
                    go_meet
                    case rel => exact ⟨_, (false), (by first | rfl | (simp; done) | (simp [*]; done)), H', ⟨by have := HJ3.out; have := HK2.out; first | omega | exact Nat.le_refl _⟩, ⟨by (with_reducible repeat (first | apply Kd.R_alloc | apply Kd.R_drewN | apply Kd.R_drew)); exact HO_6.out⟩, ⟨by (with_reducible repeat (first | apply Kd.R_alloc | apply Kd.R_drewN | apply Kd.R_drew)); exact HO_7.out⟩, ⟨by (with_reducible repeat (first | refine blk_drewN ?_ _ | refine blk_drew ?_ | refine blk_alloc ?_ _)); exact BK430.out⟩, ⟨by (with_reducible repeat (first | refine blk_drewN ?_ _ | refine blk_drew ?_ | refine blk_alloc ?_ _)); exact BK431.out⟩, ⟨by repeat (first | (with_reducible first | exact HB.out | apply below_alloc | apply pw_below_drewN | apply below_drew1 | refine below_set ?_ GE430.out | refine below_set ?_ GE431.out) | exact HB.out)⟩⟩
                case rest =>
                  clear HC27
                  try clear c1
                  try clear c2
                  try clear p2
                  try clear c3
                  try clear p4
                  try clear q4
                  try clear hx4
                  try clear c8
                  try clear c9
                  try clear c9b0
                  try clear c9b1
                  try clear c10
                  try clear c11
                  try clear c12
                  try clear c15
                  try clear c18
                  try clear c25
                  try clear c25b0
                  try clear c26
                  try clear c26b0
                  try clear c28
                  try clear c30
                  try clear c30b0
                  try clear c31
                  try clear c31b0
                  try clear c32
                  try clear c32b0
                  try clear c32b1
                  try clear c35
                  try clear hcz11_0
                  try clear hcz11_1
                  try clear hcz11_2
                  try clear hcz13_0
                  try clear hcz13_1
                  try clear hcz13_2
                  try clear hcz14_0
                  try clear hcz14_1
                  try clear hcz14_2
                  try clear hcz19_0
                  try clear hcz19_1
                  try clear hcz19_2
                  try clear hcz20_0
                  try clear hcz20_1
                  try clear hcz20_2
                  try clear hcz22_0
                  try clear hcz22_1
                  try clear hcz22_2
                  try clear hcz23_0
                  try clear hcz23_1
                  try clear hcz23_2
                  try clear hcz29_0
                  try clear hcz29_1
                  try clear hcz29_2
                  try clear hcz36_0
                  try clear hcz36_1
                  try clear hcz36_2
                  try clear hfz11_0
                  try clear hfz11_1
                  try clear hfz11_2
                  try clear hfz13_0
                  try clear hfz13_1
                  try clear hfz13_2
                  try clear hfz14_0
                  try clear hfz14_1
                  try clear hfz14_2
                  try clear hfz19_0
                  try clear hfz19_1
                  try clear hfz19_2
                  try clear hfz20_0
                  try clear hfz20_1
                  try clear hfz20_2
                  try clear hfz22_0
                  try clear hfz22_1
                  try clear hfz22_2
                  try clear hfz23_0
                  try clear hfz23_1
                  try clear hfz23_2
                  try clear hfz29_0
                  try clear hfz29_1
                  try clear hfz29_2
                  try clear hfz36_0
                  try clear hfz36_1
                  try clear hfz36_2
                  try clear hx439_0
                  try clear hx440_0
                  try clear p2
                  try clear p439
                  try clear p440
                  try clear q439
                  try clear q440
                  obtain ⟨kq, x71_26, rfl, HA, HJ26, HO_6, HO_7, BK430, BK431, HB⟩ := hcut
                  cases kq with
                  | zero => exact absurd HA.out (by simp [gemotlaw10_ViewParts.j2])
                  | succ kj26 =>
                    have H := HA.out
                    clear HA
                    simp only [gemotlaw10_ViewParts.j2] at H
                    by_cases c39 : x71_26 = true
                    · subst c39
                      have H1 : (gemotlaw10_ViewParts.l0 kj26 t433 t436 (wrap64 (x8_2 + 1)) x9_2 (wrap64 (x10_2 + 1)) a0_0 a0_1 l0_2 a1_0 a1_1 l1_2) = some r := by rw [if_pos rfl] at H; exact H
                      clear H
                      have H := H1
                      clear H1
                      have H' := Aside0.mk H
                      clear H
                      go_wp2
                      go_roundg kj26
                      case measure => have := HJ3.out; have := HK2.out; have := HJ26.out; omega
                      case rel => exact ⟨(wrap64 (x8_2 + 1)), (x9_2), (wrap64 (x10_2 + 1)), (by first | rfl | (simp; done) | (simp [*]; done)), (by first | rfl | (simp; done) | (simp [*]; done)), (by first | rfl | (simp; done) | (simp [*]; done)), H', ⟨by have := HJ3.out; have := HK2.out; have := HJ26.out; omega⟩, ⟨by (with_reducible repeat (first | apply Kd.R_alloc | apply Kd.R_drewN | apply Kd.R_drew)); exact HO_6.out⟩, ⟨by (with_reducible repeat (first | apply Kd.R_alloc | apply Kd.R_drewN | apply Kd.R_drew)); exact HO_7.out⟩, ⟨by (with_reducible repeat (first | refine blk_drewN ?_ _ | refine blk_drew ?_ | refine blk_alloc ?_ _)); exact BK430.out⟩, ⟨by (with_reducible repeat (first | refine blk_drewN ?_ _ | refine blk_drew ?_ | refine blk_alloc ?_ _)); exact BK431.out⟩, ⟨by repeat (first | (with_reducible first | exact HB.out | apply below_alloc | apply pw_below_drewN | apply below_drew1 | refine below_set ?_ GE430.out | refine below_set ?_ GE431.out) | exact HB.out)⟩⟩
                    · replace c39 := Bool.eq_false_iff.mpr c39
                      subst c39
                      have H1 : (if x9_2 < (t436.length : Int) then (if 0 ≤ x9_2 then (if (rd t436 x9_2) = (rd l0_2 x10_2) then ((view_Has.f l1_2 (rd l0_2 x10_2)).bind fun t443 => (if t443 = true then (some false) else (gemotlaw10_ViewParts.l0 kj26 t433 t436 x8_2 (wrap64 (x9_2 + 1)) (wrap64 (x10_2 + 1)) a0_0 a0_1 l0_2 a1_0 a1_1 l1_2))) else (some false)) else (none)) else (some false)) = some r := by rw [if_neg (show ¬ (false = true) by decide)] at H; exact H
                      clear H
                      have H := H1
                      clear H1
                      by_cases c40 : x9_2 < (t436.length : Int)
                      · rw [if_pos c40] at H
                        have c40b0 : decide (x9_2 < (t436.length : Int)) = true := decide_eq_true c40
                        clear c40
                        by_cases c41 : 0 ≤ x9_2
                        · rw [if_pos c41] at H
                          have c41b0 : decide (0 ≤ x9_2) = true := decide_eq_true c41
                          clear c41
                          by_cases c42 : (rd t436 x9_2) = (rd l0_2 x10_2)
                          · rw [if_pos c42] at H
                            have c42b0 : ((rd t436 x9_2) == (rd l0_2 x10_2)) = true := beq_iff_eq.mpr c42
                            have c42b1 : ((rd t436 x9_2) != (rd l0_2 x10_2)) = false := bne_eq_false_iff_eq.mpr c42
                            clear c42
                            replace H := Option.bind_eq_some_iff.mp H
                            obtain ⟨t443, A430, H⟩ := H
                            replace H : (if t443 = true then (some false) else (gemotlaw10_ViewParts.l0 kj26 t433 t436 x8_2 (wrap64 (x9_2 + 1)) (wrap64 (x10_2 + 1)) a0_0 a0_1 l0_2 a1_0 a1_1 l1_2)) = some r := H
                            have A43 := Aside0.mk A430
                            clear A430
                            by_cases c44 : t443 = true
                            · subst c44
                              have H1 : (some false) = some r := by rw [if_pos rfl] at H; exact H
                              clear H
                              have H := H1
                              clear H1
                              obtain rfl := Option.some.inj H
                              obtain ⟨Ao45, co45, eo45⟩ := Kd.R_slice HO_7.out
                              subst eo45
                              have p442 : 0 ≤ (x9_2 : Int) := of_decide_eq_true (by first | (with_reducible assumption) | assumption)
                              have q442 : x9_2 < (t436.length : Int) := of_decide_eq_true (by first | (with_reducible assumption) | assumption)
                              obtain ⟨ad442, e442, hx442_0⟩ := Kd.at_int (Kd.R_reads' HO_7.out).2.2 x9_2 p442 q442
                              cases e442
                              replace p442 := eq_true p442
                              replace q442 := eq_true q442
                              have hnb46 := NB431_430.out
                              have hnc46 := NB430_431.out
                              have hcz47_0 : wc.cell? ⟨gb431, 0, none⟩ = some (.int .i64 a1_0) := (blk_cell BK431.out 0).trans rfl
                              have hcz47_1 : wc.cell? ⟨gb431, 1, none⟩ = some (.int .i64 a1_1) := (blk_cell BK431.out 1).trans rfl
                              have hcz47_2 : wc.cell? ⟨gb431, 2, none⟩ = some (.slice A1_2 l1_2.length c1_2) := (blk_cell BK431.out 2).trans rfl
                              have hfz47_0 := blk_frozen BK431.out 0
                              have hfz47_1 := blk_frozen BK431.out 1
                              have hfz47_2 := blk_frozen BK431.out 2
                              go_wp2_with (first | (go_at_call 27; (with_reducible refine (view_Has.calls _ _ l1_2 (rd l0_2 x10_2) true _ ?side1 ?side2 A43.out).mono ?_); (case side1 => repeat (first | exact (Kd.C_below HR1_2.out HB.out) | (with_reducible refine Kd.C_alloc ?_ _) | (with_reducible refine Kd.C_drewN ?_ _) | (with_reducible refine Kd.C_drew ?_))); (case side2 => exact HC1_2.out); rintro e w' ⟨rfl, ⟨nd, rfl⟩⟩))
                              go_ret
                              exact ⟨by first | rfl | (simp [errW_none, errW_some] <;> rfl) | (simp [*, errW_none, errW_some] <;> rfl), by repeat (first | (with_reducible first | exact HB.out | apply below_alloc | apply pw_below_drewN | apply below_drew1 | refine below_set ?_ GE430.out | refine below_set ?_ GE431.out) | exact HB.out)⟩
                            · replace c44 := Bool.eq_false_iff.mpr c44
                              subst c44
                              have H1 : (gemotlaw10_ViewParts.l0 kj26 t433 t436 x8_2 (wrap64 (x9_2 + 1)) (wrap64 (x10_2 + 1)) a0_0 a0_1 l0_2 a1_0 a1_1 l1_2) = some r := by rw [if_neg (show ¬ (false = true) by decide)] at H; exact H
                              clear H
                              have H := H1
                              clear H1
                              have H' := Aside0.mk H
                              clear H
                              obtain ⟨Ao48, co48, eo48⟩ := Kd.R_slice HO_7.out
                              subst eo48
                              have p442 : 0 ≤ (x9_2 : Int) := of_decide_eq_true (by first | (with_reducible assumption) | assumption)
                              have q442 : x9_2 < (t436.length : Int) := of_decide_eq_true (by first | (with_reducible assumption) | assumption)
                              obtain ⟨ad442, e442, hx442_0⟩ := Kd.at_int (Kd.R_reads' HO_7.out).2.2 x9_2 p442 q442
                              cases e442
                              replace p442 := eq_true p442
                              replace q442 := eq_true q442
                              have hnb49 := NB431_430.out
                              have hnc49 := NB430_431.out
                              have hcz50_0 : wc.cell? ⟨gb431, 0, none⟩ = some (.int .i64 a1_0) := (blk_cell BK431.out 0).trans rfl
                              have hcz50_1 : wc.cell? ⟨gb431, 1, none⟩ = some (.int .i64 a1_1) := (blk_cell BK431.out 1).trans rfl
                              have hcz50_2 : wc.cell? ⟨gb431, 2, none⟩ = some (.slice A1_2 l1_2.length c1_2) := (blk_cell BK431.out 2).trans rfl
                              have hfz50_0 := blk_frozen BK431.out 0
                              have hfz50_1 := blk_frozen BK431.out 1
                              have hfz50_2 := blk_frozen BK431.out 2
                              go_wp2_with (first | (go_at_call 27; (with_reducible refine (view_Has.calls _ _ l1_2 (rd l0_2 x10_2) false _ ?side1 ?side2 A43.out).mono ?_); (case side1 => repeat (first | exact (Kd.C_below HR1_2.out HB.out) | (with_reducible refine Kd.C_alloc ?_ _) | (with_reducible refine Kd.C_drewN ?_ _) | (with_reducible refine Kd.C_drew ?_))); (case side2 => exact HC1_2.out); rintro e w' ⟨rfl, ⟨nd, rfl⟩⟩))
                              go_roundg kj26
                              case measure => have := HJ3.out; have := HK2.out; have := HJ26.out; omega
                              case rel => exact ⟨(x8_2), (wrap64 (x9_2 + 1)), (wrap64 (x10_2 + 1)), (by first | rfl | (simp; done) | (simp [*]; done)), (by first | rfl | (simp; done) | (simp [*]; done)), (by first | rfl | (simp; done) | (simp [*]; done)), H', ⟨by have := HJ3.out; have := HK2.out; have := HJ26.out; omega⟩, ⟨by (with_reducible repeat (first | apply Kd.R_alloc | apply Kd.R_drewN | apply Kd.R_drew)); exact HO_6.out⟩, ⟨by (with_reducible repeat (first | apply Kd.R_alloc | apply Kd.R_drewN | apply Kd.R_drew)); exact HO_7.out⟩, ⟨by (with_reducible repeat (first | refine blk_drewN ?_ _ | refine blk_drew ?_ | refine blk_alloc ?_ _)); exact BK430.out⟩, ⟨by (with_reducible repeat (first | refine blk_drewN ?_ _ | refine blk_drew ?_ | refine blk_alloc ?_ _)); exact BK431.out⟩, ⟨by repeat (first | (with_reducible first | exact HB.out | apply below_alloc | apply pw_below_drewN | apply below_drew1 | refine below_set ?_ GE430.out | refine below_set ?_ GE431.out) | exact HB.out)⟩⟩
                          · rw [if_neg c42] at H
                            have c42b0 : ((rd t436 x9_2) == (rd l0_2 x10_2)) = false := beq_eq_false_iff_ne.mpr c42
                            have c42b1 : ((rd t436 x9_2) != (rd l0_2 x10_2)) = true := bne_iff_ne.mpr c42
                            obtain rfl := Option.some.inj H
                            obtain ⟨Ao51, co51, eo51⟩ := Kd.R_slice HO_7.out
                            subst eo51
                            have p442 : 0 ≤ (x9_2 : Int) := of_decide_eq_true (by first | (with_reducible assumption) | assumption)
                            have q442 : x9_2 < (t436.length : Int) := of_decide_eq_true (by first | (with_reducible assumption) | assumption)
                            obtain ⟨ad442, e442, hx442_0⟩ := Kd.at_int (Kd.R_reads' HO_7.out).2.2 x9_2 p442 q442
                            cases e442
                            replace p442 := eq_true p442
                            replace q442 := eq_true q442
                            go_wp2
                            go_ret
                            exact ⟨by first | rfl | (simp [errW_none, errW_some] <;> rfl) | (simp [*, errW_none, errW_some] <;> rfl), by repeat (first | (with_reducible first | exact HB.out | apply below_alloc | apply pw_below_drewN | apply below_drew1 | refine below_set ?_ GE430.out | refine below_set ?_ GE431.out) | exact HB.out)⟩
                        · rw [if_neg c41] at H
                          exact absurd H (by simp)
                      · rw [if_neg c40] at H
                        have c40b0 : decide (x9_2 < (t436.length : Int)) = false := decide_eq_false c40
                        clear c40
                        obtain rfl := Option.some.inj H
                        obtain ⟨Ao52, co52, eo52⟩ := Kd.R_slice HO_7.out
                        subst eo52
                        go_wp2
                        go_ret
                        exact ⟨by first | rfl | (simp [errW_none, errW_some] <;> rfl) | (simp [*, errW_none, errW_some] <;> rfl), by repeat (first | (with_reducible first | exact HB.out | apply below_alloc | apply pw_below_drewN | apply below_drew1 | refine below_set ?_ GE430.out | refine below_set ?_ GE431.out) | exact HB.out)⟩
              · rw [if_neg c26] at H
                exact absurd H (by simp)
            · rw [if_neg c25] at H
              have c25b0 : decide (x10_2 < (l0_2.length : Int)) = false := decide_eq_false c25
              clear c25
              replace H := Option.bind_eq_some_iff.mp H
              obtain ⟨⟨t444, t445⟩, A530, H⟩ := H
              replace H : ((view_Term.f k2 a1_0 a1_1 l1_2).bind fun bt446 => (if x8_2 = (t433.length : Int) then (if x9_2 = (t436.length : Int) then ((view_Right.f k2 a0_0 a0_1 l0_2).bind fun t448 => (gemotlaw10_ViewParts.j3 k2 t444 t445 bt446.1 bt446.2 ((t445 == 0) != t448) a0_0 a0_1 l0_2 a1_0 a1_1 l1_2)) else (gemotlaw10_ViewParts.j3 k2 t444 t445 bt446.1 bt446.2 true a0_0 a0_1 l0_2 a1_0 a1_1 l1_2)) else (gemotlaw10_ViewParts.j3 k2 t444 t445 bt446.1 bt446.2 true a0_0 a0_1 l0_2 a1_0 a1_1 l1_2))) = some r := H
              have A53 := Aside0.mk A530
              clear A530
              replace H := Option.bind_eq_some_iff.mp H
              obtain ⟨⟨t446, t447⟩, A540, H⟩ := H
              replace H : (if x8_2 = (t433.length : Int) then (if x9_2 = (t436.length : Int) then ((view_Right.f k2 a0_0 a0_1 l0_2).bind fun t448 => (gemotlaw10_ViewParts.j3 k2 t444 t445 t446 t447 ((t445 == 0) != t448) a0_0 a0_1 l0_2 a1_0 a1_1 l1_2)) else (gemotlaw10_ViewParts.j3 k2 t444 t445 t446 t447 true a0_0 a0_1 l0_2 a1_0 a1_1 l1_2)) else (gemotlaw10_ViewParts.j3 k2 t444 t445 t446 t447 true a0_0 a0_1 l0_2 a1_0 a1_1 l1_2)) = some r := H
              have A54 := Aside0.mk A540
              clear A540
              have HC55 := Aside0.mk H
              clear H
              have hnb56 := NB430_431.out
              have hnc56 := NB431_430.out
              have hcz57_0 : wr.cell? ⟨gb430, 0, none⟩ = some (.int .i64 a0_0) := (blk_cell BK430.out 0).trans rfl
              have hcz57_1 : wr.cell? ⟨gb430, 1, none⟩ = some (.int .i64 a0_1) := (blk_cell BK430.out 1).trans rfl
              have hcz57_2 : wr.cell? ⟨gb430, 2, none⟩ = some (.slice A0_2 l0_2.length c0_2) := (blk_cell BK430.out 2).trans rfl
              have hfz57_0 := blk_frozen BK430.out 0
              have hfz57_1 := blk_frozen BK430.out 1
              have hfz57_2 := blk_frozen BK430.out 2
              go_upto_region 19 with (first | ((with_reducible refine gate_callee (f := 28) rfl ?_); refine goesL_ (some 97) rfl rfl Try.func28 (by kernel_rfl) rfl #[.agg #[.int .i64 a0_0, .int .i64 a0_1, .slice A0_2 l0_2.length c0_2]] rfl (by (try simp only [List.map_toArray, List.map_cons, List.map_nil]); first | done | rfl | (simp only [List.length_drop, List.length_take]; rfl)) ?_; (with_reducible refine (view_Term.calls k2 a0_0 a0_1 _ _ l0_2 t444 t445 _ ?side1 ?side2 A53.out).mono ?_); (case side1 => repeat (first | exact (Kd.C_below HR0_2.out HB.out) | (with_reducible refine Kd.C_alloc ?_ _) | (with_reducible refine Kd.C_drewN ?_ _) | (with_reducible refine Kd.C_drew ?_))); (case side2 => exact HC0_2.out); rintro e w58 ⟨rfl, hb⟩; refine ⟨_, rfl, ?_⟩; have n0_ := Aside0.mk (Kd.R_below (by (with_reducible repeat (first | apply Kd.R_alloc | apply Kd.R_drewN | apply Kd.R_drew)); exact HO_6.out) hb); have n1_ := Aside0.mk (Kd.R_below (by (with_reducible repeat (first | apply Kd.R_alloc | apply Kd.R_drewN | apply Kd.R_drew)); exact HO_7.out) hb); have n2_ := Aside0.mk (blk_below (g := gb430) (o := .cells #[.int .i64 a0_0, .int .i64 a0_1, .slice A0_2 l0_2.length c0_2] 53 (0, 0)) (by (with_reducible repeat (first | refine blk_drewN ?_ _ | refine blk_drew ?_ | refine blk_alloc ?_ _)); exact BK430.out) hb); have n3_ := Aside0.mk (blk_below (g := gb431) (o := .cells #[.int .i64 a1_0, .int .i64 a1_1, .slice A1_2 l1_2.length c1_2] 53 (0, 0)) (by (with_reducible repeat (first | refine blk_drewN ?_ _ | refine blk_drew ?_ | refine blk_alloc ?_ _)); exact BK431.out) hb); have n4_ := Aside0.mk (below_step (by repeat (first | (with_reducible first | exact HB.out | apply below_alloc | apply pw_below_drewN | apply below_drew1 | refine below_set ?_ GE430.out | refine below_set ?_ GE431.out) | exact HB.out)) hb); clear HO_6; clear HO_7; clear BK430; clear BK431; clear HB; have HO_6 := n0_; have HO_7 := n1_; have BK430 := n2_; have BK431 := n3_; have HB := n4_; clear n0_ n1_ n2_ n3_ n4_; (try clear hb); (try clear hb2); (try clear hk); (try clear hi); have hcz59_0 : w58.cell? ⟨gb431, 0, none⟩ = some (.int .i64 a1_0) := (blk_cell BK431.out 0).trans rfl; have hcz59_1 : w58.cell? ⟨gb431, 1, none⟩ = some (.int .i64 a1_1) := (blk_cell BK431.out 1).trans rfl; have hcz59_2 : w58.cell? ⟨gb431, 2, none⟩ = some (.slice A1_2 l1_2.length c1_2) := (blk_cell BK431.out 2).trans rfl; have hfz59_0 := blk_frozen BK431.out 0; have hfz59_1 := blk_frozen BK431.out 1; have hfz59_2 := blk_frozen BK431.out 2) | ((with_reducible refine gate_callee (f := 28) rfl ?_); refine goesL_ (some 102) rfl rfl Try.func28 (by kernel_rfl) rfl #[.agg #[.int .i64 a1_0, .int .i64 a1_1, .slice A1_2 l1_2.length c1_2]] rfl (by (try simp only [List.map_toArray, List.map_cons, List.map_nil]); first | done | rfl | (simp only [List.length_drop, List.length_take]; rfl)) ?_; (with_reducible refine (view_Term.calls k2 a1_0 a1_1 _ _ l1_2 t446 t447 _ ?side1 ?side2 A54.out).mono ?_); (case side1 => repeat (first | exact (Kd.C_below HR1_2.out HB.out) | (with_reducible refine Kd.C_alloc ?_ _) | (with_reducible refine Kd.C_drewN ?_ _) | (with_reducible refine Kd.C_drew ?_))); (case side2 => exact HC1_2.out); rintro e w60 ⟨rfl, hb⟩; refine ⟨_, rfl, ?_⟩; have n0_ := Aside0.mk (Kd.R_below (by (with_reducible repeat (first | apply Kd.R_alloc | apply Kd.R_drewN | apply Kd.R_drew)); exact HO_6.out) hb); have n1_ := Aside0.mk (Kd.R_below (by (with_reducible repeat (first | apply Kd.R_alloc | apply Kd.R_drewN | apply Kd.R_drew)); exact HO_7.out) hb); have n2_ := Aside0.mk (blk_below (g := gb430) (o := .cells #[.int .i64 a0_0, .int .i64 a0_1, .slice A0_2 l0_2.length c0_2] 53 (0, 0)) (by (with_reducible repeat (first | refine blk_drewN ?_ _ | refine blk_drew ?_ | refine blk_alloc ?_ _)); exact BK430.out) hb); have n3_ := Aside0.mk (blk_below (g := gb431) (o := .cells #[.int .i64 a1_0, .int .i64 a1_1, .slice A1_2 l1_2.length c1_2] 53 (0, 0)) (by (with_reducible repeat (first | refine blk_drewN ?_ _ | refine blk_drew ?_ | refine blk_alloc ?_ _)); exact BK431.out) hb); have n4_ := Aside0.mk (below_step (by repeat (first | (with_reducible first | exact HB.out | apply below_alloc | apply pw_below_drewN | apply below_drew1 | refine below_set ?_ GE430.out | refine below_set ?_ GE431.out) | exact HB.out)) hb); clear HO_6; clear HO_7; clear BK430; clear BK431; clear HB; have HO_6 := n0_; have HO_7 := n1_; have BK430 := n2_; have BK431 := n3_; have HB := n4_; clear n0_ n1_ n2_ n3_ n4_; (try clear hb); (try clear hb2); (try clear hk); (try clear hi)))
              (try simp only [Act.put, List.setIfInBounds_toArray, List.set_cons_zero, List.set_cons_succ])
              go_cut [121] (fun v121 wc => ∃ (kq : Nat) (x121_54 : Bool), v121 = .bool x121_54 ∧ Aside0 (gemotlaw10_ViewParts.j3 kq t444 t445 t446 t447 x121_54 a0_0 a0_1 l0_2 a1_0 a1_1 l1_2 = some r) ∧ Aside0 (kq ≤ k2) ∧ Aside0 (wc.heap[gb430]? = some (.cells #[.int .i64 a0_0, .int .i64 a0_1, (.slice A0_2 l0_2.length c0_2)] 53 (0, 0))) ∧ Aside0 (wc.heap[gb431]? = some (.cells #[.int .i64 a1_0, .int .i64 a1_1, (.slice A1_2 l1_2.length c1_2)] 53 (0, 0))) ∧ Aside0 (Below w.heap.size w wc))
              case first =>
                have H := HC55.out
                clear HC55
                by_cases c61 : x8_2 = (t433.length : Int)
                · rw [if_pos c61] at H
                  have c61b0 : (x8_2 == (t433.length : Int)) = true := beq_iff_eq.mpr c61
                  have c61b1 : (x8_2 != (t433.length : Int)) = false := bne_eq_false_iff_eq.mpr c61
                  clear c61
                  (first | rw [c61b0] | (simp only [i64_w, i32_w]; rw [c61b0]) | skip)
                  by_cases c62 : x9_2 = (t436.length : Int)
                  · rw [if_pos c62] at H
                    have c62b0 : (x9_2 == (t436.length : Int)) = true := beq_iff_eq.mpr c62
                    have c62b1 : (x9_2 != (t436.length : Int)) = false := bne_eq_false_iff_eq.mpr c62
                    clear c62
                    replace H := Option.bind_eq_some_iff.mp H
                    obtain ⟨t448, A630, H⟩ := H
                    replace H : (gemotlaw10_ViewParts.j3 k2 t444 t445 t446 t447 ((t445 == 0) != t448) a0_0 a0_1 l0_2 a1_0 a1_1 l1_2) = some r := H
                    have A63 := Aside0.mk A630
                    clear A630
                    have H' := Aside0.mk H
                    clear H
                    obtain ⟨Ao64, co64, eo64⟩ := Kd.R_slice HO_6.out
                    subst eo64
                    obtain ⟨Ao65, co65, eo65⟩ := Kd.R_slice HO_7.out
                    subst eo65
                    have hnb66 := NB430_431.out
                    have hnc66 := NB431_430.out
                    have hcz67_0 : w60.cell? ⟨gb430, 0, none⟩ = some (.int .i64 a0_0) := (blk_cell BK430.out 0).trans rfl
                    have hcz67_1 : w60.cell? ⟨gb430, 1, none⟩ = some (.int .i64 a0_1) := (blk_cell BK430.out 1).trans rfl
                    have hcz67_2 : w60.cell? ⟨gb430, 2, none⟩ = some (.slice A0_2 l0_2.length c0_2) := (blk_cell BK430.out 2).trans rfl
                    have hfz67_0 := blk_frozen BK430.out 0
                    have hfz67_1 := blk_frozen BK430.out 1
                    have hfz67_2 := blk_frozen BK430.out 2
                    go_wp2_with (first | (go_at_call 29; (with_reducible refine (view_Right.calls k2 a0_0 a0_1 _ _ l0_2 t448 _ ?side1 ?side2 A63.out).mono ?_); (case side1 => repeat (first | exact (Kd.C_below HR0_2.out HB.out) | (with_reducible refine Kd.C_alloc ?_ _) | (with_reducible refine Kd.C_drewN ?_ _) | (with_reducible refine Kd.C_drew ?_))); (case side2 => exact HC0_2.out); rintro e w68 ⟨rfl, hb⟩; have n0_ := Aside0.mk (Kd.R_below (by (with_reducible repeat (first | apply Kd.R_alloc | apply Kd.R_drewN | apply Kd.R_drew)); exact HO_6.out) hb); have n1_ := Aside0.mk (Kd.R_below (by (with_reducible repeat (first | apply Kd.R_alloc | apply Kd.R_drewN | apply Kd.R_drew)); exact HO_7.out) hb); have n2_ := Aside0.mk (blk_below (g := gb430) (o := .cells #[.int .i64 a0_0, .int .i64 a0_1, .slice A0_2 l0_2.length c0_2] 53 (0, 0)) (by (with_reducible repeat (first | refine blk_drewN ?_ _ | refine blk_drew ?_ | refine blk_alloc ?_ _)); exact BK430.out) hb); have n3_ := Aside0.mk (blk_below (g := gb431) (o := .cells #[.int .i64 a1_0, .int .i64 a1_1, .slice A1_2 l1_2.length c1_2] 53 (0, 0)) (by (with_reducible repeat (first | refine blk_drewN ?_ _ | refine blk_drew ?_ | refine blk_alloc ?_ _)); exact BK431.out) hb); have n4_ := Aside0.mk (below_step (by repeat (first | (with_reducible first | exact HB.out | apply below_alloc | apply pw_below_drewN | apply below_drew1 | refine below_set ?_ GE430.out | refine below_set ?_ GE431.out) | exact HB.out)) hb); clear HO_6; clear HO_7; clear BK430; clear BK431; clear HB; have HO_6 := n0_; have HO_7 := n1_; have BK430 := n2_; have BK431 := n3_; have HB := n4_; clear n0_ n1_ n2_ n3_ n4_; (try clear hb); (try clear hb2); (try clear hk); (try clear hi)))
                    go_meet
                    case rel => exact ⟨_, (((t445 == 0) != t448)), (by first | rfl | (simp; done) | (simp [*]; done)), H', ⟨by have := HJ3.out; have := HK2.out; first | omega | exact Nat.le_refl _⟩, ⟨by (with_reducible repeat (first | refine blk_drewN ?_ _ | refine blk_drew ?_ | refine blk_alloc ?_ _)); exact BK430.out⟩, ⟨by (with_reducible repeat (first | refine blk_drewN ?_ _ | refine blk_drew ?_ | refine blk_alloc ?_ _)); exact BK431.out⟩, ⟨by repeat (first | (with_reducible first | exact HB.out | apply below_alloc | apply pw_below_drewN | apply below_drew1 | refine below_set ?_ GE430.out | refine below_set ?_ GE431.out) | exact HB.out)⟩⟩
                  · rw [if_neg c62] at H
                    have c62b0 : (x9_2 == (t436.length : Int)) = false := beq_eq_false_iff_ne.mpr c62
                    have c62b1 : (x9_2 != (t436.length : Int)) = true := bne_iff_ne.mpr c62
                    have H' := Aside0.mk H
                    clear H
                    obtain ⟨Ao69, co69, eo69⟩ := Kd.R_slice HO_6.out
                    subst eo69
                    obtain ⟨Ao70, co70, eo70⟩ := Kd.R_slice HO_7.out
                    subst eo70
                    go_wp2
                    go_meet
                    case rel => exact ⟨_, (true), (by first | rfl | (simp; done) | (simp [*]; done)), H', ⟨by have := HJ3.out; have := HK2.out; first | omega | exact Nat.le_refl _⟩, ⟨by (with_reducible repeat (first | refine blk_drewN ?_ _ | refine blk_drew ?_ | refine blk_alloc ?_ _)); exact BK430.out⟩, ⟨by (with_reducible repeat (first | refine blk_drewN ?_ _ | refine blk_drew ?_ | refine blk_alloc ?_ _)); exact BK431.out⟩, ⟨by repeat (first | (with_reducible first | exact HB.out | apply below_alloc | apply pw_below_drewN | apply below_drew1 | refine below_set ?_ GE430.out | refine below_set ?_ GE431.out) | exact HB.out)⟩⟩
                · rw [if_neg c61] at H
                  have c61b0 : (x8_2 == (t433.length : Int)) = false := beq_eq_false_iff_ne.mpr c61
                  have c61b1 : (x8_2 != (t433.length : Int)) = true := bne_iff_ne.mpr c61
                  (first | rw [c61b0] | (simp only [i64_w, i32_w]; rw [c61b0]) | skip)
                  have H' := Aside0.mk H
                  clear H
                  obtain ⟨Ao71, co71, eo71⟩ := Kd.R_slice HO_6.out
                  subst eo71
                  go_wp2
                  go_meet
                  case rel => exact ⟨_, (true), (by first | rfl | (simp; done) | (simp [*]; done)), H', ⟨by have := HJ3.out; have := HK2.out; first | omega | exact Nat.le_refl _⟩, ⟨by (with_reducible repeat (first | refine blk_drewN ?_ _ | refine blk_drew ?_ | refine blk_alloc ?_ _)); exact BK430.out⟩, ⟨by (with_reducible repeat (first | refine blk_drewN ?_ _ | refine blk_drew ?_ | refine blk_alloc ?_ _)); exact BK431.out⟩, ⟨by repeat (first | (with_reducible first | exact HB.out | apply below_alloc | apply pw_below_drewN | apply below_drew1 | refine below_set ?_ GE430.out | refine below_set ?_ GE431.out) | exact HB.out)⟩⟩
              case rest =>
                clear HC55
                try clear c1
                try clear c2
                try clear p2
                try clear c3
                try clear c4
                try clear p4
                try clear q4
                try clear hx4
                try clear c5
                try clear c6
                try clear p6
                try clear c8
                try clear c9
                try clear c9b0
                try clear c9b1
                try clear c10
                try clear c11
                try clear c12
                try clear c15
                try clear c18
                try clear c25
                try clear c25b0
                try clear c26
                try clear c26b0
                try clear c28
                try clear c30
                try clear c30b0
                try clear c31
                try clear c31b0
                try clear c32
                try clear c32b0
                try clear c32b1
                try clear c35
                try clear c39
                try clear c40
                try clear c40b0
                try clear c41
                try clear c41b0
                try clear c42
                try clear c42b0
                try clear c42b1
                try clear p43
                try clear q43
                try clear hx43
                try clear c44
                try clear p44
                try clear q44
                try clear hx44
                try clear c46
                try clear c49
                try clear c56
                try clear c61
                try clear c61b0
                try clear c61b1
                try clear c62
                try clear c62b0
                try clear c62b1
                try clear p64
                try clear c66
                try clear hcz11_0
                try clear hcz11_1
                try clear hcz11_2
                try clear hcz13_0
                try clear hcz13_1
                try clear hcz13_2
                try clear hcz14_0
                try clear hcz14_1
                try clear hcz14_2
                try clear hcz19_0
                try clear hcz19_1
                try clear hcz19_2
                try clear hcz20_0
                try clear hcz20_1
                try clear hcz20_2
                try clear hcz22_0
                try clear hcz22_1
                try clear hcz22_2
                try clear hcz23_0
                try clear hcz23_1
                try clear hcz23_2
                try clear hcz29_0
                try clear hcz29_1
                try clear hcz29_2
                try clear hcz36_0
                try clear hcz36_1
                try clear hcz36_2
                try clear hcz47_0
                try clear hcz47_1
                try clear hcz47_2
                try clear hcz50_0
                try clear hcz50_1
                try clear hcz50_2
                try clear hcz57_0
                try clear hcz57_1
                try clear hcz57_2
                try clear hcz59_0
                try clear hcz59_1
                try clear hcz59_2
                try clear hcz67_0
                try clear hcz67_1
                try clear hcz67_2
                try clear hfz11_0
                try clear hfz11_1
                try clear hfz11_2
                try clear hfz13_0
                try clear hfz13_1
                try clear hfz13_2
                try clear hfz14_0
                try clear hfz14_1
                try clear hfz14_2
                try clear hfz19_0
                try clear hfz19_1
                try clear hfz19_2
                try clear hfz20_0
                try clear hfz20_1
                try clear hfz20_2
                try clear hfz22_0
                try clear hfz22_1
                try clear hfz22_2
                try clear hfz23_0
                try clear hfz23_1
                try clear hfz23_2
                try clear hfz29_0
                try clear hfz29_1
                try clear hfz29_2
                try clear hfz36_0
                try clear hfz36_1
                try clear hfz36_2
                try clear hfz47_0
                try clear hfz47_1
                try clear hfz47_2
                try clear hfz50_0
                try clear hfz50_1
                try clear hfz50_2
                try clear hfz57_0
                try clear hfz57_1
                try clear hfz57_2
                try clear hfz59_0
                try clear hfz59_1
                try clear hfz59_2
                try clear hfz67_0
                try clear hfz67_1
                try clear hfz67_2
                try clear hx439_0
                try clear hx440_0
                try clear hx442_0
                try clear p2
                try clear p4
                try clear p439
                try clear p440
                try clear p442
                try clear q4
                try clear q439
                try clear q440
                try clear q442
                obtain ⟨kq, x121_54, rfl, HA, HJ54, BK430, BK431, HB⟩ := hcut
                cases kq with
                | zero => exact absurd HA.out (by simp [gemotlaw10_ViewParts.j3])
                | succ kj54 =>
                  have H := HA.out
                  clear HA
                  simp only [gemotlaw10_ViewParts.j3] at H
                  by_cases c72 : x121_54 = true
                  · subst c72
                    have H1 : (some false) = some r := by rw [if_pos rfl] at H; exact H
                    clear H
                    have H := H1
                    clear H1
                    obtain rfl := Option.some.inj H
                    go_wp2
                    go_ret
                    exact ⟨by first | rfl | (simp [errW_none, errW_some] <;> rfl) | (simp [*, errW_none, errW_some] <;> rfl), by repeat (first | (with_reducible first | exact HB.out | apply below_alloc | apply pw_below_drewN | apply below_drew1 | refine below_set ?_ GE430.out | refine below_set ?_ GE431.out) | exact HB.out)⟩
                  · replace c72 := Bool.eq_false_iff.mpr c72
                    subst c72
                    have H1 : (if t445 = 0 then (if t447 = 0 then (if (a0_0 == a1_0 && (a0_1 == a1_1)) = true then ((view_Same.f kj54 l0_2 l1_2).bind fun t449 => (if ((t444.toList == t446.toList) == t449) = true then ((term_Right.f t444).bind fun t450 => (some t450)) else (some false))) else (if ((t444.toList == t446.toList) == false) = true then ((term_Right.f t444).bind fun t451 => (some t451)) else (some false))) else (some true)) else (some true)) = some r := by rw [if_neg (show ¬ (false = true) by decide)] at H; exact H
                    clear H
                    have H := H1
                    clear H1
                    by_cases c73 : t445 = 0
                    · rw [if_pos c73] at H
                      have c73b0 : (t445 == 0) = true := beq_iff_eq.mpr c73
                      have c73b1 : (t445 != 0) = false := bne_eq_false_iff_eq.mpr c73
                      clear c73
                      by_cases c74 : t447 = 0
                      · rw [if_pos c74] at H
                        have c74b0 : (t447 == 0) = true := beq_iff_eq.mpr c74
                        have c74b1 : (t447 != 0) = false := bne_eq_false_iff_eq.mpr c74
                        clear c74
                        by_cases c75 : (a0_0 == a1_0 && (a0_1 == a1_1)) = true
                        · rw [if_pos c75] at H
                          have c75b0 : (a0_0 == a1_0 && (a0_1 == a1_1)) = true := c75
                          (try (have c75b1 : decide (a0_0 = a1_0 && (a0_1 == a1_1)) = true := by simpa using c75))
                          (try (have c75b2 : (a0_0 == a1_0 && (a0_1 == a1_1)) = true := by simpa using c75))
                          clear c75
                          replace H := Option.bind_eq_some_iff.mp H
                          obtain ⟨t449, A760, H⟩ := H
                          replace H : (if ((t444.toList == t446.toList) == t449) = true then ((term_Right.f t444).bind fun t450 => (some t450)) else (some false)) = some r := H
                          have A76 := Aside0.mk A760
                          clear A760
                          by_cases c77 : ((t444.toList == t446.toList) == t449) = true
                          · rw [if_pos c77] at H
                            have c77b0 : ((t444.toList == t446.toList) == t449) = true := c77
                            (try (have c77b1 : decide ((t444.toList == t446.toList) = t449) = true := by simpa using c77))
                            (try (have c77b2 : ((t444.toList == t446.toList) == t449) = true := by simpa using c77))
                            clear c77
                            replace H := Option.bind_eq_some_iff.mp H
                            obtain ⟨t450, A780, H⟩ := H
                            replace H : (some t450) = some r := H
                            have A78 := Aside0.mk A780
                            clear A780
                            obtain rfl := Option.some.inj H
                            have hnb79 := NB430_431.out
                            have hnc79 := NB431_430.out
                            have hcz80_0 : wc.cell? ⟨gb430, 0, none⟩ = some (.int .i64 a0_0) := (blk_cell BK430.out 0).trans rfl
                            have hcz80_1 : wc.cell? ⟨gb430, 1, none⟩ = some (.int .i64 a0_1) := (blk_cell BK430.out 1).trans rfl
                            have hcz80_2 : wc.cell? ⟨gb430, 2, none⟩ = some (.slice A0_2 l0_2.length c0_2) := (blk_cell BK430.out 2).trans rfl
                            have hfz80_0 := blk_frozen BK430.out 0
                            have hfz80_1 := blk_frozen BK430.out 1
                            have hfz80_2 := blk_frozen BK430.out 2
                            have hcz81_0 : wc.cell? ⟨gb431, 0, none⟩ = some (.int .i64 a1_0) := (blk_cell BK431.out 0).trans rfl
                            have hcz81_1 : wc.cell? ⟨gb431, 1, none⟩ = some (.int .i64 a1_1) := (blk_cell BK431.out 1).trans rfl
                            have hcz81_2 : wc.cell? ⟨gb431, 2, none⟩ = some (.slice A1_2 l1_2.length c1_2) := (blk_cell BK431.out 2).trans rfl
                            have hfz81_0 := blk_frozen BK431.out 0
                            have hfz81_1 := blk_frozen BK431.out 1
                            have hfz81_2 := blk_frozen BK431.out 2
                            go_wp2_with (first | (go_at_call 30; (with_reducible refine (view_Same.calls kj54 _ _ l0_2 _ _ l1_2 t449 _ ?side1 ?side2 ?side3 ?side4 A76.out).mono ?_); (case side1 => repeat (first | exact (Kd.C_below HR0_2.out HB.out) | (with_reducible refine Kd.C_alloc ?_ _) | (with_reducible refine Kd.C_drewN ?_ _) | (with_reducible refine Kd.C_drew ?_))); (case side2 => exact HC0_2.out); (case side3 => repeat (first | exact (Kd.C_below HR1_2.out HB.out) | (with_reducible refine Kd.C_alloc ?_ _) | (with_reducible refine Kd.C_drewN ?_ _) | (with_reducible refine Kd.C_drew ?_))); (case side4 => exact HC1_2.out); rintro e w' ⟨rfl, ⟨nd, rfl⟩⟩) | (go_at_call 31; (with_reducible refine (term_Right.calls t444 t450 _ A78.out).mono ?_); rintro e w82 ⟨rfl, hb⟩; have n0_ := Aside0.mk (blk_below (g := gb430) (o := .cells #[.int .i64 a0_0, .int .i64 a0_1, .slice A0_2 l0_2.length c0_2] 53 (0, 0)) (by (with_reducible repeat (first | refine blk_drewN ?_ _ | refine blk_drew ?_ | refine blk_alloc ?_ _)); exact BK430.out) hb); have n1_ := Aside0.mk (blk_below (g := gb431) (o := .cells #[.int .i64 a1_0, .int .i64 a1_1, .slice A1_2 l1_2.length c1_2] 53 (0, 0)) (by (with_reducible repeat (first | refine blk_drewN ?_ _ | refine blk_drew ?_ | refine blk_alloc ?_ _)); exact BK431.out) hb); have n2_ := Aside0.mk (below_step (by repeat (first | (with_reducible first | exact HB.out | apply below_alloc | apply pw_below_drewN | apply below_drew1 | refine below_set ?_ GE430.out | refine below_set ?_ GE431.out) | exact HB.out)) hb); clear BK430; clear BK431; clear HB; have BK430 := n0_; have BK431 := n1_; have HB := n2_; clear n0_ n1_ n2_; (try clear hb); (try clear hb2); (try clear hk); (try clear hi)))
                            go_ret
                            exact ⟨by first | rfl | (simp [errW_none, errW_some] <;> rfl) | (simp [*, errW_none, errW_some] <;> rfl), by repeat (first | (with_reducible first | exact HB.out | apply below_alloc | apply pw_below_drewN | apply below_drew1 | refine below_set ?_ GE430.out | refine below_set ?_ GE431.out) | exact HB.out)⟩
                          · rw [if_neg c77] at H
                            have c77b0 : ((t444.toList == t446.toList) == t449) = false := by simpa using c77
                            (try (have c77b1 : decide ((t444.toList == t446.toList) = t449) = false := by simpa using c77))
                            (try (have c77b2 : ((t444.toList == t446.toList) == t449) = false := by simpa using c77))
                            (try (have c77b3 : ¬ ((t444.toList == t446.toList) = t449) := by simpa using c77))
                            clear c77
                            obtain rfl := Option.some.inj H
                            have hnb83 := NB430_431.out
                            have hnc83 := NB431_430.out
                            have hcz84_0 : wc.cell? ⟨gb430, 0, none⟩ = some (.int .i64 a0_0) := (blk_cell BK430.out 0).trans rfl
                            have hcz84_1 : wc.cell? ⟨gb430, 1, none⟩ = some (.int .i64 a0_1) := (blk_cell BK430.out 1).trans rfl
                            have hcz84_2 : wc.cell? ⟨gb430, 2, none⟩ = some (.slice A0_2 l0_2.length c0_2) := (blk_cell BK430.out 2).trans rfl
                            have hfz84_0 := blk_frozen BK430.out 0
                            have hfz84_1 := blk_frozen BK430.out 1
                            have hfz84_2 := blk_frozen BK430.out 2
                            have hcz85_0 : wc.cell? ⟨gb431, 0, none⟩ = some (.int .i64 a1_0) := (blk_cell BK431.out 0).trans rfl
                            have hcz85_1 : wc.cell? ⟨gb431, 1, none⟩ = some (.int .i64 a1_1) := (blk_cell BK431.out 1).trans rfl
                            have hcz85_2 : wc.cell? ⟨gb431, 2, none⟩ = some (.slice A1_2 l1_2.length c1_2) := (blk_cell BK431.out 2).trans rfl
                            have hfz85_0 := blk_frozen BK431.out 0
                            have hfz85_1 := blk_frozen BK431.out 1
                            have hfz85_2 := blk_frozen BK431.out 2
                            go_wp2_with (first | (go_at_call 30; (with_reducible refine (view_Same.calls kj54 _ _ l0_2 _ _ l1_2 t449 _ ?side1 ?side2 ?side3 ?side4 A76.out).mono ?_); (case side1 => repeat (first | exact (Kd.C_below HR0_2.out HB.out) | (with_reducible refine Kd.C_alloc ?_ _) | (with_reducible refine Kd.C_drewN ?_ _) | (with_reducible refine Kd.C_drew ?_))); (case side2 => exact HC0_2.out); (case side3 => repeat (first | exact (Kd.C_below HR1_2.out HB.out) | (with_reducible refine Kd.C_alloc ?_ _) | (with_reducible refine Kd.C_drewN ?_ _) | (with_reducible refine Kd.C_drew ?_))); (case side4 => exact HC1_2.out); rintro e w' ⟨rfl, ⟨nd, rfl⟩⟩))
                            go_ret
                            exact ⟨by first | rfl | (simp [errW_none, errW_some] <;> rfl) | (simp [*, errW_none, errW_some] <;> rfl), by repeat (first | (with_reducible first | exact HB.out | apply below_alloc | apply pw_below_drewN | apply below_drew1 | refine below_set ?_ GE430.out | refine below_set ?_ GE431.out) | exact HB.out)⟩
                        · rw [if_neg c75] at H
                          have c75b0 : (a0_0 == a1_0 && (a0_1 == a1_1)) = false := by simpa using c75
                          (try (have c75b1 : decide (a0_0 = a1_0 && (a0_1 == a1_1)) = false := by simpa using c75))
                          (try (have c75b2 : (a0_0 == a1_0 && (a0_1 == a1_1)) = false := by simpa using c75))
                          (try (have c75b3 : ¬ (a0_0 = a1_0 && (a0_1 == a1_1)) := by simpa using c75))
                          clear c75
                          by_cases c86 : ((t444.toList == t446.toList) == false) = true
                          · rw [if_pos c86] at H
                            have c86b0 : ((t444.toList == t446.toList) == false) = true := c86
                            (try (have c86b1 : decide ((t444.toList == t446.toList) = false) = true := by simpa using c86))
                            (try (have c86b2 : ((t444.toList == t446.toList) == false) = true := by simpa using c86))
                            clear c86
                            replace H := Option.bind_eq_some_iff.mp H
                            obtain ⟨t451, A870, H⟩ := H
                            replace H : (some t451) = some r := H
                            have A87 := Aside0.mk A870
                            clear A870
                            obtain rfl := Option.some.inj H
                            have hnb88 := NB430_431.out
                            have hnc88 := NB431_430.out
                            have hcz89_0 : wc.cell? ⟨gb430, 0, none⟩ = some (.int .i64 a0_0) := (blk_cell BK430.out 0).trans rfl
                            have hcz89_1 : wc.cell? ⟨gb430, 1, none⟩ = some (.int .i64 a0_1) := (blk_cell BK430.out 1).trans rfl
                            have hcz89_2 : wc.cell? ⟨gb430, 2, none⟩ = some (.slice A0_2 l0_2.length c0_2) := (blk_cell BK430.out 2).trans rfl
                            have hfz89_0 := blk_frozen BK430.out 0
                            have hfz89_1 := blk_frozen BK430.out 1
                            have hfz89_2 := blk_frozen BK430.out 2
                            have hcz90_0 : wc.cell? ⟨gb431, 0, none⟩ = some (.int .i64 a1_0) := (blk_cell BK431.out 0).trans rfl
                            have hcz90_1 : wc.cell? ⟨gb431, 1, none⟩ = some (.int .i64 a1_1) := (blk_cell BK431.out 1).trans rfl
                            have hcz90_2 : wc.cell? ⟨gb431, 2, none⟩ = some (.slice A1_2 l1_2.length c1_2) := (blk_cell BK431.out 2).trans rfl
                            have hfz90_0 := blk_frozen BK431.out 0
                            have hfz90_1 := blk_frozen BK431.out 1
                            have hfz90_2 := blk_frozen BK431.out 2
                            go_wp2_with (first | (go_at_call 31; (with_reducible refine (term_Right.calls t444 t451 _ A87.out).mono ?_); rintro e w91 ⟨rfl, hb⟩; have n0_ := Aside0.mk (blk_below (g := gb430) (o := .cells #[.int .i64 a0_0, .int .i64 a0_1, .slice A0_2 l0_2.length c0_2] 53 (0, 0)) (by (with_reducible repeat (first | refine blk_drewN ?_ _ | refine blk_drew ?_ | refine blk_alloc ?_ _)); exact BK430.out) hb); have n1_ := Aside0.mk (blk_below (g := gb431) (o := .cells #[.int .i64 a1_0, .int .i64 a1_1, .slice A1_2 l1_2.length c1_2] 53 (0, 0)) (by (with_reducible repeat (first | refine blk_drewN ?_ _ | refine blk_drew ?_ | refine blk_alloc ?_ _)); exact BK431.out) hb); have n2_ := Aside0.mk (below_step (by repeat (first | (with_reducible first | exact HB.out | apply below_alloc | apply pw_below_drewN | apply below_drew1 | refine below_set ?_ GE430.out | refine below_set ?_ GE431.out) | exact HB.out)) hb); clear BK430; clear BK431; clear HB; have BK430 := n0_; have BK431 := n1_; have HB := n2_; clear n0_ n1_ n2_; (try clear hb); (try clear hb2); (try clear hk); (try clear hi)))
                            go_ret
                            exact ⟨by first | rfl | (simp [errW_none, errW_some] <;> rfl) | (simp [*, errW_none, errW_some] <;> rfl), by repeat (first | (with_reducible first | exact HB.out | apply below_alloc | apply pw_below_drewN | apply below_drew1 | refine below_set ?_ GE430.out | refine below_set ?_ GE431.out) | exact HB.out)⟩
                          · rw [if_neg c86] at H
                            have c86b0 : ((t444.toList == t446.toList) == false) = false := by simpa using c86
                            (try (have c86b1 : decide ((t444.toList == t446.toList) = false) = false := by simpa using c86))
                            (try (have c86b2 : ((t444.toList == t446.toList) == false) = false := by simpa using c86))
                            (try (have c86b3 : ¬ ((t444.toList == t446.toList) = false) := by simpa using c86))
                            clear c86
                            obtain rfl := Option.some.inj H
                            have hnb92 := NB430_431.out
                            have hnc92 := NB431_430.out
                            have hcz93_0 : wc.cell? ⟨gb430, 0, none⟩ = some (.int .i64 a0_0) := (blk_cell BK430.out 0).trans rfl
                            have hcz93_1 : wc.cell? ⟨gb430, 1, none⟩ = some (.int .i64 a0_1) := (blk_cell BK430.out 1).trans rfl
                            have hcz93_2 : wc.cell? ⟨gb430, 2, none⟩ = some (.slice A0_2 l0_2.length c0_2) := (blk_cell BK430.out 2).trans rfl
                            have hfz93_0 := blk_frozen BK430.out 0
                            have hfz93_1 := blk_frozen BK430.out 1
                            have hfz93_2 := blk_frozen BK430.out 2
                            have hcz94_0 : wc.cell? ⟨gb431, 0, none⟩ = some (.int .i64 a1_0) := (blk_cell BK431.out 0).trans rfl
                            have hcz94_1 : wc.cell? ⟨gb431, 1, none⟩ = some (.int .i64 a1_1) := (blk_cell BK431.out 1).trans rfl
                            have hcz94_2 : wc.cell? ⟨gb431, 2, none⟩ = some (.slice A1_2 l1_2.length c1_2) := (blk_cell BK431.out 2).trans rfl
                            have hfz94_0 := blk_frozen BK431.out 0
                            have hfz94_1 := blk_frozen BK431.out 1
                            have hfz94_2 := blk_frozen BK431.out 2
                            go_wp2
                            go_ret
                            exact ⟨by first | rfl | (simp [errW_none, errW_some] <;> rfl) | (simp [*, errW_none, errW_some] <;> rfl), by repeat (first | (with_reducible first | exact HB.out | apply below_alloc | apply pw_below_drewN | apply below_drew1 | refine below_set ?_ GE430.out | refine below_set ?_ GE431.out) | exact HB.out)⟩
                      · rw [if_neg c74] at H
                        have c74b0 : (t447 == 0) = false := beq_eq_false_iff_ne.mpr c74
                        have c74b1 : (t447 != 0) = true := bne_iff_ne.mpr c74
                        obtain rfl := Option.some.inj H
                        go_wp2
                        go_ret
                        exact ⟨by first | rfl | (simp [errW_none, errW_some] <;> rfl) | (simp [*, errW_none, errW_some] <;> rfl), by repeat (first | (with_reducible first | exact HB.out | apply below_alloc | apply pw_below_drewN | apply below_drew1 | refine below_set ?_ GE430.out | refine below_set ?_ GE431.out) | exact HB.out)⟩
                    · rw [if_neg c73] at H
                      have c73b0 : (t445 == 0) = false := beq_eq_false_iff_ne.mpr c73
                      have c73b1 : (t445 != 0) = true := bne_iff_ne.mpr c73
                      obtain rfl := Option.some.inj H
                      go_wp2
                      go_ret
                      exact ⟨by first | rfl | (simp [errW_none, errW_some] <;> rfl) | (simp [*, errW_none, errW_some] <;> rfl), by repeat (first | (with_reducible first | exact HB.out | apply below_alloc | apply pw_below_drewN | apply below_drew1 | refine below_set ?_ GE430.out | refine below_set ?_ GE431.out) | exact HB.out)⟩

end Go.Proofs.Ytenmlpkgodnjnaa.F
