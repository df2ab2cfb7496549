-- Laid by mk.py (a program of this session) over the seat's translation.
import Derived.Test.YtenmlpkgodnjnaaF0
import Derived.Test.YtenmlpkgodnjnaaF14
import Derived.Test.YtenmlpkgodnjnaaF15
import Derived.Test.YtenmlpkgodnjnaaF17
import Derived.Test.YtenmlpkgodnjnaaF18
import Derived.Test.YtenmlpkgodnjnaaF21
import Derived.Test.YtenmlpkgodnjnaaF24
namespace Go.Proofs.Ytenmlpkgodnjnaa.F
open Go.RowKit Go.Proofs.YtenmlpkgodnjnaaW.PrintWords Go.Proofs.YtenmlpkgodnjnaaW.PrintLast Go.Proofs.YtenmlpkgodnjnaaW.PrintMore
attribute [local go_sem] max2_int min2_int max_two min_two max_three min_three max_four min_four
set_option linter.unusedVariables false
set_option linter.unusedSimpArgs false

/-! ### gemotlaw9_WatchRow: function 7 -/
mutual
def gemotlaw9_WatchRow.j0 : Nat → Int → List Int → Int → Bool → Bool → Int → Int → List Int → Option (Bool)
  | 0, _, _, _, _, _, _, _, _ => none
  | k + 1, x0, x2, x3, x9, x36, x342000, x342001, x342002 => if x36 = true then (some x9) else (gemotlaw9_WatchRow.l0 k x0 x2 x3 0 x342000 x342001 x342002)
def gemotlaw9_WatchRow.l0 : Nat → Int → List Int → Int → Int → Int → Int → List Int → Option (Bool)
  | 0, _, _, _, _, _, _, _ => none
  | k + 1, x0, x2, x3, x12, x342000, x342001, x342002 => if x12 < (x2.length : Int) then (if 0 ≤ x12 then (if (rd x2 x12) = 0 then ((watch_Tick.f x342000 x342001 x342002).bind fun bt343 => (gemotlaw9_WatchRow.l0 k x0 x2 x3 (wrap64 (x12 + 1)) bt343.1 bt343.2.1 bt343.2.2)) else ((watch_Hear.f x342000 x342001 x342002 (rd x2 x12)).bind fun bt349 => (if (rd x2 x12) ≥ 1 then (if (rd x2 x12) ≤ 8 then ((watch_There.f bt349.1 bt349.2.1 bt349.2.2).bind fun t356 => ((gemotlaw9_has.f k t356 (rd x2 x12)).bind fun t360 => (if t360 = true then (gemotlaw9_WatchRow.l0 k x0 x2 x3 (wrap64 (x12 + 1)) bt349.1 bt349.2.1 bt349.2.2) else (some false)))) else (gemotlaw9_WatchRow.l0 k x0 x2 x3 (wrap64 (x12 + 1)) bt349.1 bt349.2.1 bt349.2.2)) else (gemotlaw9_WatchRow.l0 k x0 x2 x3 (wrap64 (x12 + 1)) bt349.1 bt349.2.1 bt349.2.2)))) else (none)) else ((watch_There.f x342000 x342001 x342002).bind fun t361 => (gemotlaw9_WatchRow.l1 k x0 x3 t361 0 x342000 x342001 x342002))
def gemotlaw9_WatchRow.l1 : Nat → Int → Int → List Int → Int → Int → Int → List Int → Option (Bool)
  | 0, _, _, _, _, _, _, _ => none
  | k + 1, x0, x3, x13, x14, x342000, x342001, x342002 => if x14 < (x13.length : Int) then (if 0 ≤ x14 then (if (rd x13 x14) < 1 then (some false) else (if (rd x13 x14) > 8 then (some false) else (if x14 > 0 then (if 0 ≤ (wrap64 (x14 - 1)) then (if (wrap64 (x14 - 1)) < (x13.length : Int) then (if (rd x13 x14) ≤ (rd x13 (wrap64 (x14 - 1))) then (some false) else (gemotlaw9_WatchRow.l1 k x0 x3 x13 (wrap64 (x14 + 1)) x342000 x342001 x342002)) else (none)) else (none)) else (gemotlaw9_WatchRow.l1 k x0 x3 x13 (wrap64 (x14 + 1)) x342000 x342001 x342002)))) else (none)) else (gemotlaw9_WatchRow.l2 k x0 x3 x13 0 x342000 x342001 x342002)
def gemotlaw9_WatchRow.l2 : Nat → Int → Int → List Int → Int → Int → Int → List Int → Option (Bool)
  | 0, _, _, _, _, _, _, _ => none
  | k + 1, x0, x3, x13, x16, x369000, x369001, x369002 => if x16 < (wrap64 (1 + (Go.bits .and .i64 x3 63))) then ((watch_Tick.f x369000 x369001 x369002).bind fun bt369 => (gemotlaw9_WatchRow.l2 k x0 x3 x13 (wrap64 (x16 + 1)) bt369.1 bt369.2.1 bt369.2.2)) else ((watch_There.f x369000 x369001 x369002).bind fun t374 => (gemotlaw9_WatchRow.l3 k x0 x13 t374 0))
def gemotlaw9_WatchRow.l3 : Nat → Int → List Int → List Int → Int → Option (Bool)
  | 0, _, _, _, _ => none
  | k + 1, x0, x13, x17, x18 => if x18 < (x17.length : Int) then (if 0 ≤ x18 then ((gemotlaw9_has.f k x13 (rd x17 x18)).bind fun t378 => (if t378 = true then (gemotlaw9_WatchRow.l3 k x0 x13 x17 (wrap64 (x18 + 1))) else (some false))) else (none)) else ((gemotlaw9_has.f k x13 x0).bind fun t379 => (if t379 = true then ((gemotlaw9_has.f k x17 x0).bind fun t380 => (some t380)) else (some false)))
end
def gemotlaw9_WatchRow.f (k : Nat) (a0 : Int) (a1 : Int) (l2 : List Int) (a3 : Int) : Option (Bool) := (gemotlaw9_shown.f).bind fun t334 => ((watch_New.f a0 a1).bind fun bt335 => (if t334 = true then (if bt335.2.2.2 = 0 then (gemotlaw9_WatchRow.j0 k a0 l2 a3 t334 (decide ((l2.length : Int) > 60)) bt335.1 bt335.2.1 bt335.2.2.1) else (gemotlaw9_WatchRow.j0 k a0 l2 a3 t334 true bt335.1 bt335.2.1 bt335.2.2.1)) else (gemotlaw9_WatchRow.j0 k a0 l2 a3 t334 true bt335.1 bt335.2.1 bt335.2.2.1)))
theorem gemotlaw9_WatchRow.mono_l : ∀ k, (∀ y0 y1 y2 y3 y4 y5 y6 y7, LeO (gemotlaw9_WatchRow.j0 k y0 y1 y2 y3 y4 y5 y6 y7) (gemotlaw9_WatchRow.j0 (k + 1) y0 y1 y2 y3 y4 y5 y6 y7)) ∧ (∀ y0 y1 y2 y3 y4 y5 y6, LeO (gemotlaw9_WatchRow.l0 k y0 y1 y2 y3 y4 y5 y6) (gemotlaw9_WatchRow.l0 (k + 1) y0 y1 y2 y3 y4 y5 y6)) ∧ (∀ y0 y1 y2 y3 y4 y5 y6, LeO (gemotlaw9_WatchRow.l1 k y0 y1 y2 y3 y4 y5 y6) (gemotlaw9_WatchRow.l1 (k + 1) y0 y1 y2 y3 y4 y5 y6)) ∧ (∀ y0 y1 y2 y3 y4 y5 y6, LeO (gemotlaw9_WatchRow.l2 k y0 y1 y2 y3 y4 y5 y6) (gemotlaw9_WatchRow.l2 (k + 1) y0 y1 y2 y3 y4 y5 y6)) ∧ (∀ y0 y1 y2 y3, LeO (gemotlaw9_WatchRow.l3 k y0 y1 y2 y3) (gemotlaw9_WatchRow.l3 (k + 1) y0 y1 y2 y3))
  | 0 => ⟨fun _ _ _ _ _ _ _ _ r h => by simp [gemotlaw9_WatchRow.j0] at h, fun _ _ _ _ _ _ _ r h => by simp [gemotlaw9_WatchRow.l0] at h, fun _ _ _ _ _ _ _ r h => by simp [gemotlaw9_WatchRow.l1] at h, fun _ _ _ _ _ _ _ r h => by simp [gemotlaw9_WatchRow.l2] at h, fun _ _ _ _ r h => by simp [gemotlaw9_WatchRow.l3] at h⟩
  | k + 1 => by
    obtain ⟨ih0, ih1, ih2, ih3, ih4⟩ := gemotlaw9_WatchRow.mono_l k; refine ⟨?_, ?_, ?_, ?_, ?_⟩
    · intro y0 y1 y2 y3 y4 y5 y6 y7; unfold gemotlaw9_WatchRow.j0
      repeat' first
      | (with_reducible exact ih0 _ _ _ _ _ _ _ _)
      | (with_reducible exact ih1 _ _ _ _ _ _ _)
      | (with_reducible exact ih2 _ _ _ _ _ _ _)
      | (with_reducible exact ih3 _ _ _ _ _ _ _)
      | (with_reducible exact ih4 _ _ _ _)
      | (with_reducible exact gemotlaw9_has.mono _ _ _)
      | (with_reducible exact LeO.refl _)
      | (with_reducible exact LeO.none _)
      | (with_reducible refine LeO.ite ?_ ?_)
      | (with_reducible refine LeO.bind ?_ (fun _ => ?_))
      | exact ih0 _ _ _ _ _ _ _ _
      | exact ih1 _ _ _ _ _ _ _
      | exact ih2 _ _ _ _ _ _ _
      | exact ih3 _ _ _ _ _ _ _
      | exact ih4 _ _ _ _
      | exact gemotlaw9_has.mono _ _ _
      | exact LeO.none _
      | refine LeO.ite ?_ ?_
      | refine LeO.bind ?_ (fun _ => ?_)
    · intro y0 y1 y2 y3 y4 y5 y6; unfold gemotlaw9_WatchRow.l0
      repeat' first
      | (with_reducible exact ih0 _ _ _ _ _ _ _ _)
      | (with_reducible exact ih1 _ _ _ _ _ _ _)
      | (with_reducible exact ih2 _ _ _ _ _ _ _)
      | (with_reducible exact ih3 _ _ _ _ _ _ _)
      | (with_reducible exact ih4 _ _ _ _)
      | (with_reducible exact gemotlaw9_has.mono _ _ _)
      | (with_reducible exact LeO.refl _)
      | (with_reducible exact LeO.none _)
      | (with_reducible refine LeO.ite ?_ ?_)
      | (with_reducible refine LeO.bind ?_ (fun _ => ?_))
      | exact ih0 _ _ _ _ _ _ _ _
      | exact ih1 _ _ _ _ _ _ _
      | exact ih2 _ _ _ _ _ _ _
      | exact ih3 _ _ _ _ _ _ _
      | exact ih4 _ _ _ _
      | exact gemotlaw9_has.mono _ _ _
      | exact LeO.none _
      | refine LeO.ite ?_ ?_
      | refine LeO.bind ?_ (fun _ => ?_)
    · intro y0 y1 y2 y3 y4 y5 y6; unfold gemotlaw9_WatchRow.l1
      repeat' first
      | (with_reducible exact ih0 _ _ _ _ _ _ _ _)
      | (with_reducible exact ih1 _ _ _ _ _ _ _)
      | (with_reducible exact ih2 _ _ _ _ _ _ _)
      | (with_reducible exact ih3 _ _ _ _ _ _ _)
      | (with_reducible exact ih4 _ _ _ _)
      | (with_reducible exact gemotlaw9_has.mono _ _ _)
      | (with_reducible exact LeO.refl _)
      | (with_reducible exact LeO.none _)
      | (with_reducible refine LeO.ite ?_ ?_)
      | (with_reducible refine LeO.bind ?_ (fun _ => ?_))
      | exact ih0 _ _ _ _ _ _ _ _
      | exact ih1 _ _ _ _ _ _ _
      | exact ih2 _ _ _ _ _ _ _
      | exact ih3 _ _ _ _ _ _ _
      | exact ih4 _ _ _ _
      | exact gemotlaw9_has.mono _ _ _
      | exact LeO.none _
      | refine LeO.ite ?_ ?_
      | refine LeO.bind ?_ (fun _ => ?_)
    · intro y0 y1 y2 y3 y4 y5 y6; unfold gemotlaw9_WatchRow.l2
      repeat' first
      | (with_reducible exact ih0 _ _ _ _ _ _ _ _)
      | (with_reducible exact ih1 _ _ _ _ _ _ _)
      | (with_reducible exact ih2 _ _ _ _ _ _ _)
      | (with_reducible exact ih3 _ _ _ _ _ _ _)
      | (with_reducible exact ih4 _ _ _ _)
      | (with_reducible exact gemotlaw9_has.mono _ _ _)
      | (with_reducible exact LeO.refl _)
      | (with_reducible exact LeO.none _)
      | (with_reducible refine LeO.ite ?_ ?_)
      | (with_reducible refine LeO.bind ?_ (fun _ => ?_))
      | exact ih0 _ _ _ _ _ _ _ _
      | exact ih1 _ _ _ _ _ _ _
      | exact ih2 _ _ _ _ _ _ _
      | exact ih3 _ _ _ _ _ _ _
      | exact ih4 _ _ _ _
      | exact gemotlaw9_has.mono _ _ _
      | exact LeO.none _
      | refine LeO.ite ?_ ?_
      | refine LeO.bind ?_ (fun _ => ?_)
    · intro y0 y1 y2 y3; unfold gemotlaw9_WatchRow.l3
      repeat' first
      | (with_reducible exact ih0 _ _ _ _ _ _ _ _)
      | (with_reducible exact ih1 _ _ _ _ _ _ _)
      | (with_reducible exact ih2 _ _ _ _ _ _ _)
      | (with_reducible exact ih3 _ _ _ _ _ _ _)
      | (with_reducible exact ih4 _ _ _ _)
      | (with_reducible exact gemotlaw9_has.mono _ _ _)
      | (with_reducible exact LeO.refl _)
      | (with_reducible exact LeO.none _)
      | (with_reducible refine LeO.ite ?_ ?_)
      | (with_reducible refine LeO.bind ?_ (fun _ => ?_))
      | exact ih0 _ _ _ _ _ _ _ _
      | exact ih1 _ _ _ _ _ _ _
      | exact ih2 _ _ _ _ _ _ _
      | exact ih3 _ _ _ _ _ _ _
      | exact ih4 _ _ _ _
      | exact gemotlaw9_has.mono _ _ _
      | exact LeO.none _
      | refine LeO.ite ?_ ?_
      | refine LeO.bind ?_ (fun _ => ?_)
theorem gemotlaw9_WatchRow.mono : ∀ a0 a1 a2 a3 k, LeO (gemotlaw9_WatchRow.f k a0 a1 a2 a3) (gemotlaw9_WatchRow.f (k + 1) a0 a1 a2 a3) := by
  intro a0 a1 a2 a3 k; obtain ⟨ih0, ih1, ih2, ih3, ih4⟩ := gemotlaw9_WatchRow.mono_l k; unfold gemotlaw9_WatchRow.f
  repeat' first
      | (with_reducible exact ih0 _ _ _ _ _ _ _ _)
      | (with_reducible exact ih1 _ _ _ _ _ _ _)
      | (with_reducible exact ih2 _ _ _ _ _ _ _)
      | (with_reducible exact ih3 _ _ _ _ _ _ _)
      | (with_reducible exact ih4 _ _ _ _)
      | (with_reducible exact gemotlaw9_has.mono _ _ _)
      | (with_reducible exact LeO.refl _)
      | (with_reducible exact LeO.none _)
      | (with_reducible refine LeO.ite ?_ ?_)
      | (with_reducible refine LeO.bind ?_ (fun _ => ?_))
      | exact ih0 _ _ _ _ _ _ _ _
      | exact ih1 _ _ _ _ _ _ _
      | exact ih2 _ _ _ _ _ _ _
      | exact ih3 _ _ _ _ _ _ _
      | exact ih4 _ _ _ _
      | exact gemotlaw9_has.mono _ _ _
      | exact LeO.none _
      | refine LeO.ite ?_ ?_
      | refine LeO.bind ?_ (fun _ => ?_)
def gemotlaw9_WatchRow.T11 : Bool × List (List Nat × List Nat) := (true, [([], []), ([], []), ([0, 1], [0, 1]), ([2], [2]), ([3], [3]), ([4], [4]), ([5], [5]), ([5], [5]), ([6, 7, 5], [5, 6, 7]), ([8, 5], [5, 8]), ([9, 5], [5, 9]), ([5, 10], [5, 10]), ([11, 5], [11]), ([12], [12]), ([13, 12, 12], [12, 13]), ([12], [12]), ([12], [12]), ([15, 16, 12], [12, 15, 16]), ([17, 12], [12, 17]), ([14, 18, 14, 12], [12, 14, 18]), ([19, 12], [12, 19]), ([12, 20], [12, 20])])
def gemotlaw9_WatchRow.B11 : List Nat := [0, 0, 3, 7, 15, 31, 63, 63, 255, 511, 1023, 2047, 4095, 8191, 16383, 8191, 8191, 106495, 237567, 524287, 1048575, 2097151]
theorem gemotlaw9_WatchRow.tab11 : rtab .any (opsOf Try.f7 11) = gemotlaw9_WatchRow.T11 := by kernel_rfl
theorem gemotlaw9_WatchRow.bits11 : waitsOk gemotlaw9_WatchRow.T11.2 gemotlaw9_WatchRow.B11 = true := by kernel_rfl
def gemotlaw9_WatchRow.T17 : Bool × List (List Nat × List Nat) := (true, [([], []), ([], []), ([0, 1], [0, 1]), ([2], [2]), ([3], [3]), ([4], [4]), ([5], [5]), ([5], [5]), ([6, 7, 5], [5, 6, 7]), ([8, 5], [5, 8]), ([9, 5], [5, 9]), ([5, 10], [5, 10]), ([11, 5], [11]), ([12], [12]), ([13, 12], [12, 13]), ([14, 12, 12], [12, 14]), ([15], [15]), ([15], [15]), ([16, 17, 15], [15, 16, 17]), ([18, 15], [15, 18]), ([15], [15]), ([15], [15]), ([21, 15], [15, 21]), ([20, 22, 15], [15, 20, 22]), ([23, 15], [15, 23]), ([19, 24, 15], [15, 19, 24]), ([15, 25, 12], [12, 15, 25]), ([12, 26], [12, 26])])
def gemotlaw9_WatchRow.B17 : List Nat := [0, 0, 3, 7, 15, 31, 63, 63, 255, 511, 1023, 2047, 4095, 8191, 16383, 32767, 65535, 65535, 262143, 524287, 65535, 65535, 2162687, 7405567, 15794175, 33554431, 67108863, 134217727]
theorem gemotlaw9_WatchRow.tab17 : rtab .any (opsOf Try.f7 17) = gemotlaw9_WatchRow.T17 := by kernel_rfl
theorem gemotlaw9_WatchRow.bits17 : waitsOk gemotlaw9_WatchRow.T17.2 gemotlaw9_WatchRow.B17 = true := by kernel_rfl

end Go.Proofs.Ytenmlpkgodnjnaa.F
