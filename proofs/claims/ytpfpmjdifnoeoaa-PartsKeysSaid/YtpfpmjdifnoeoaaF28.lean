-- Laid by mk.py (a program of this session) over the seat's translation.
import Derived.Test.YtpfpmjdifnoeoaaF0
import Derived.Test.YtpfpmjdifnoeoaaF101
import Derived.Test.YtpfpmjdifnoeoaaF102
import Derived.Test.YtpfpmjdifnoeoaaF36
import Derived.Test.YtpfpmjdifnoeoaaB3
import Derived.Test.YtpfpmjdifnoeoaaB1
import Derived.Test.YtpfpmjdifnoeoaaB2
namespace Go.Proofs.Ytpfpmjdifnoeoaa.F
open Go.RowKit Go.Proofs.YtpfpmjdifnoeoaaW.PrintWords Go.Proofs.YtpfpmjdifnoeoaaW.PrintLast Go.Proofs.YtpfpmjdifnoeoaaW.PrintMore
attribute [local go_sem] max2_int min2_int max_two min_two max_three min_three max_four min_four
set_option linter.unusedVariables false
set_option linter.unusedSimpArgs false

/-! ### gemotlaw2_PartsKeys: function 28 -/
mutual
def gemotlaw2_PartsKeys.j0 : Nat → Int → List ByteArray → ByteArray → ByteArray → ByteArray → Bool → Option (Bool)
  | 0, _, _, _, _, _, _ => none
  | k + 1, x4, x12, x13, x14, x18, x77 => if x77 = true then (none) else (gemotlaw2_PartsKeys.l0 k x4 x12 x13 x14 x18 0)
def gemotlaw2_PartsKeys.l0 : Nat → Int → List ByteArray → ByteArray → ByteArray → ByteArray → Int → Option (Bool)
  | 0, _, _, _, _, _, _ => none
  | k + 1, x4, x12, x13, x14, x18, x20 => if x20 < (x12.length : Int) then (if 0 ≤ x20 then ((parts_Open.f x14 (rdOf ByteArray.empty x12 x20)).bind fun bt1527 => (if ((bt1527.2.2 == 0) != ((rdOf ByteArray.empty x12 x20).toList == x13.toList)) = true then (none) else (gemotlaw2_PartsKeys.l0 k x4 x12 x13 x14 x18 (wrap64 (x20 + 1))))) else (none)) else (gemotlaw2_PartsKeys.l1 k x4 x13 x18 0 0)
def gemotlaw2_PartsKeys.l1 : Nat → Int → ByteArray → ByteArray → Int → Int → Option (Bool)
  | 0, _, _, _, _, _ => none
  | k + 1, x4, x13, x18, x24, x25 => if x25 ≤ 9 then ((parts_Check.f x18 x25).bind fun bt1531 => (if bt1531.2 = 0 then (if bt1531.1.toList = x13.toList then ((gemotlaw2_pick.f x4 8).bind fun t1533 => (if x25 = (wrap64 (1 + t1533)) then (gemotlaw2_PartsKeys.l1 k x4 x13 x18 (wrap64 (x24 + 1)) (wrap64 (x25 + 1))) else (none))) else (none)) else (gemotlaw2_PartsKeys.l1 k x4 x13 x18 x24 (wrap64 (x25 + 1))))) else (some (x24 == 1))
end
def gemotlaw2_PartsKeys.f (k : Nat) (l0 : List (S171)) (a1 : Int) (a2 : Int) (a3 : Int) (a4 : Int) : Option (Bool) := (gemotlaw2_shown.f).bind fun t1509 => (if t1509 = true then ((gemotlaw2_made.f l0).bind fun t1510 => ((gemotlaw2_pick.f a1 (t1510.length : Int)).bind fun t1513 => (if 0 ≤ t1513 then (if t1513 < (t1510.length : Int) then ((gemotlaw2_pick.f a2 (t1510.length : Int)).bind fun t1515 => (if 0 ≤ t1515 then (if t1515 < (t1510.length : Int) then ((gemotlaw2_pick.f a3 (t1510.length : Int)).bind fun t1517 => (if 0 ≤ t1517 then (if t1517 < (t1510.length : Int) then ((term_Seal.f (rdOf ByteArray.empty t1510 t1513) (rdOf ByteArray.empty t1510 t1515) (rdOf ByteArray.empty t1510 t1517)).bind fun bt1519 => ((gemotlaw2_pick.f a4 8).bind fun t1521 => ((term_Private.f (wrap64 (1 + t1521))).bind fun bt1522 => ((term_Sign.f bt1522.1 (rdOf ByteArray.empty t1510 t1513)).bind fun bt1524 => (if bt1519.2 = 0 then (gemotlaw2_PartsKeys.j0 k a4 t1510 (rdOf ByteArray.empty t1510 t1513) bt1519.1 bt1524.1 (bt1524.2 != 0)) else (gemotlaw2_PartsKeys.j0 k a4 t1510 (rdOf ByteArray.empty t1510 t1513) bt1519.1 bt1524.1 true)))))) else (none)) else (none))) else (none)) else (none))) else (none)) else (none)))) else (none))
theorem gemotlaw2_PartsKeys.mono_l : ∀ k, (∀ y0 y1 y2 y3 y4 y5, LeO (gemotlaw2_PartsKeys.j0 k y0 y1 y2 y3 y4 y5) (gemotlaw2_PartsKeys.j0 (k + 1) y0 y1 y2 y3 y4 y5)) ∧ (∀ y0 y1 y2 y3 y4 y5, LeO (gemotlaw2_PartsKeys.l0 k y0 y1 y2 y3 y4 y5) (gemotlaw2_PartsKeys.l0 (k + 1) y0 y1 y2 y3 y4 y5)) ∧ (∀ y0 y1 y2 y3 y4, LeO (gemotlaw2_PartsKeys.l1 k y0 y1 y2 y3 y4) (gemotlaw2_PartsKeys.l1 (k + 1) y0 y1 y2 y3 y4))
  | 0 => ⟨fun _ _ _ _ _ _ r h => by simp [gemotlaw2_PartsKeys.j0] at h, fun _ _ _ _ _ _ r h => by simp [gemotlaw2_PartsKeys.l0] at h, fun _ _ _ _ _ r h => by simp [gemotlaw2_PartsKeys.l1] at h⟩
  | k + 1 => by
    obtain ⟨ih0, ih1, ih2⟩ := gemotlaw2_PartsKeys.mono_l k
    refine ⟨?_, ?_, ?_⟩
    · intro y0 y1 y2 y3 y4 y5
      unfold gemotlaw2_PartsKeys.j0
      repeat' first
      | (with_reducible exact ih0 _ _ _ _ _ _)
      | (with_reducible exact ih1 _ _ _ _ _ _)
      | (with_reducible exact ih2 _ _ _ _ _)
      | (with_reducible exact LeO.refl _)
      | (with_reducible exact LeO.none _)
      | (with_reducible refine LeO.ite ?_ ?_)
      | (with_reducible refine LeO.bind ?_ (fun _ => ?_))
      | exact ih0 _ _ _ _ _ _
      | exact ih1 _ _ _ _ _ _
      | exact ih2 _ _ _ _ _
      | exact LeO.none _
      | refine LeO.ite ?_ ?_
      | refine LeO.bind ?_ (fun _ => ?_)
    · intro y0 y1 y2 y3 y4 y5
      unfold gemotlaw2_PartsKeys.l0
      repeat' first
      | (with_reducible exact ih0 _ _ _ _ _ _)
      | (with_reducible exact ih1 _ _ _ _ _ _)
      | (with_reducible exact ih2 _ _ _ _ _)
      | (with_reducible exact LeO.refl _)
      | (with_reducible exact LeO.none _)
      | (with_reducible refine LeO.ite ?_ ?_)
      | (with_reducible refine LeO.bind ?_ (fun _ => ?_))
      | exact ih0 _ _ _ _ _ _
      | exact ih1 _ _ _ _ _ _
      | exact ih2 _ _ _ _ _
      | exact LeO.none _
      | refine LeO.ite ?_ ?_
      | refine LeO.bind ?_ (fun _ => ?_)
    · intro y0 y1 y2 y3 y4
      unfold gemotlaw2_PartsKeys.l1
      repeat' first
      | (with_reducible exact ih0 _ _ _ _ _ _)
      | (with_reducible exact ih1 _ _ _ _ _ _)
      | (with_reducible exact ih2 _ _ _ _ _)
      | (with_reducible exact LeO.refl _)
      | (with_reducible exact LeO.none _)
      | (with_reducible refine LeO.ite ?_ ?_)
      | (with_reducible refine LeO.bind ?_ (fun _ => ?_))
      | exact ih0 _ _ _ _ _ _
      | exact ih1 _ _ _ _ _ _
      | exact ih2 _ _ _ _ _
      | exact LeO.none _
      | refine LeO.ite ?_ ?_
      | refine LeO.bind ?_ (fun _ => ?_)
theorem gemotlaw2_PartsKeys.mono : ∀ a0 a1 a2 a3 a4 k, LeO (gemotlaw2_PartsKeys.f k a0 a1 a2 a3 a4) (gemotlaw2_PartsKeys.f (k + 1) a0 a1 a2 a3 a4) := by
  intro a0 a1 a2 a3 a4 k
  obtain ⟨ih0, ih1, ih2⟩ := gemotlaw2_PartsKeys.mono_l k
  unfold gemotlaw2_PartsKeys.f
  repeat' first
      | (with_reducible exact ih0 _ _ _ _ _ _)
      | (with_reducible exact ih1 _ _ _ _ _ _)
      | (with_reducible exact ih2 _ _ _ _ _)
      | (with_reducible exact LeO.refl _)
      | (with_reducible exact LeO.none _)
      | (with_reducible refine LeO.ite ?_ ?_)
      | (with_reducible refine LeO.bind ?_ (fun _ => ?_))
      | exact ih0 _ _ _ _ _ _
      | exact ih1 _ _ _ _ _ _
      | exact ih2 _ _ _ _ _
      | exact LeO.none _
      | refine LeO.ite ?_ ?_
      | refine LeO.bind ?_ (fun _ => ?_)
def gemotlaw2_PartsKeys.T6 : Bool × List (List Nat × List Nat) := (true, [([], []), ([], []), ([], []), ([], []), ([3], [3]), ([2, 4], [2, 4]), ([1, 5], [1, 5]), ([6], [6]), ([], []), ([], []), ([], []), ([10], [10]), ([9, 11, 5], [9, 11]), ([8, 12], [8, 12]), ([13], [13]), ([0, 7, 14, 12], [0, 7, 14]), ([15], [15]), ([16], [16]), ([16], [16]), ([17, 15, 0, 1, 2, 3, 4, 5, 6, 7, 8, 9, 10, 11, 12, 13, 14, 15, 16, 17], [17]), ([18, 19, 0, 1, 2, 3, 4, 5, 6, 7, 8, 9, 10, 11, 12, 13, 14, 15, 16, 17, 18, 19], [18])])
def gemotlaw2_PartsKeys.B6 : List Nat := [0, 0, 0, 0, 8, 28, 62, 126, 0, 0, 0, 1024, 3644, 7996, 16188, 32767, 65535, 131071, 131071, 262143, 1048575]
theorem gemotlaw2_PartsKeys.tab6 : rtab .any (opsOf Try.f28 6) = gemotlaw2_PartsKeys.T6 := by kernel_rfl
theorem gemotlaw2_PartsKeys.bits6 : waitsOk gemotlaw2_PartsKeys.T6.2 gemotlaw2_PartsKeys.B6 = true := by kernel_rfl
set_option maxHeartbeats 8000000 in
set_option maxRecDepth 100000 in
theorem gemotlaw2_PartsKeys.calls (k : Nat) (A0 : Option Addr) (c0 : Nat) (l0 : List (S171)) (a1 : Int) (a2 : Int) (a3 : Int) (a4 : Int) (r : Bool) (w : World) (hr0 : Kd.C k171 w A0 l0.length l0) (hc0 : l0.length ≤ c0) (h : gemotlaw2_PartsKeys.f k l0 a1 a2 a3 a4 = some r) :
    Calls Try.prog 28 #[.slice A0 l0.length c0, .int .i64 a1, .int .i64 a2, .int .i64 a3, .int .i64 a4] w fun e w' => e = .returned (.bool r) ∧ Below w.heap.size w w' := by
  have HR0 := Aside0.mk hr0
  have HC0 := Aside0.mk hc0
  clear hr0 hc0
  have HB := Aside0.mk (Below.refl w.heap.size w)
  have H : ((gemotlaw2_shown.f).bind fun t1509 => (if t1509 = true then ((gemotlaw2_made.f l0).bind fun t1510 => ((gemotlaw2_pick.f a1 (t1510.length : Int)).bind fun t1513 => (if 0 ≤ t1513 then (if t1513 < (t1510.length : Int) then ((gemotlaw2_pick.f a2 (t1510.length : Int)).bind fun t1515 => (if 0 ≤ t1515 then (if t1515 < (t1510.length : Int) then ((gemotlaw2_pick.f a3 (t1510.length : Int)).bind fun t1517 => (if 0 ≤ t1517 then (if t1517 < (t1510.length : Int) then ((term_Seal.f (rdOf ByteArray.empty t1510 t1513) (rdOf ByteArray.empty t1510 t1515) (rdOf ByteArray.empty t1510 t1517)).bind fun bt1519 => ((gemotlaw2_pick.f a4 8).bind fun t1521 => ((term_Private.f (wrap64 (1 + t1521))).bind fun bt1522 => ((term_Sign.f bt1522.1 (rdOf ByteArray.empty t1510 t1513)).bind fun bt1524 => (if bt1519.2 = 0 then (gemotlaw2_PartsKeys.j0 k a4 t1510 (rdOf ByteArray.empty t1510 t1513) bt1519.1 bt1524.1 (bt1524.2 != 0)) else (gemotlaw2_PartsKeys.j0 k a4 t1510 (rdOf ByteArray.empty t1510 t1513) bt1519.1 bt1524.1 true)))))) else (none)) else (none))) else (none)) else (none))) else (none)) else (none)))) else (none))) = some r := h
  clear h
  replace H := Option.bind_eq_some_iff.mp H
  obtain ⟨t1509, A60, H⟩ := H
  replace H : (if t1509 = true then ((gemotlaw2_made.f l0).bind fun t1510 => ((gemotlaw2_pick.f a1 (t1510.length : Int)).bind fun t1513 => (if 0 ≤ t1513 then (if t1513 < (t1510.length : Int) then ((gemotlaw2_pick.f a2 (t1510.length : Int)).bind fun t1515 => (if 0 ≤ t1515 then (if t1515 < (t1510.length : Int) then ((gemotlaw2_pick.f a3 (t1510.length : Int)).bind fun t1517 => (if 0 ≤ t1517 then (if t1517 < (t1510.length : Int) then ((term_Seal.f (rdOf ByteArray.empty t1510 t1513) (rdOf ByteArray.empty t1510 t1515) (rdOf ByteArray.empty t1510 t1517)).bind fun bt1519 => ((gemotlaw2_pick.f a4 8).bind fun t1521 => ((term_Private.f (wrap64 (1 + t1521))).bind fun bt1522 => ((term_Sign.f bt1522.1 (rdOf ByteArray.empty t1510 t1513)).bind fun bt1524 => (if bt1519.2 = 0 then (gemotlaw2_PartsKeys.j0 k a4 t1510 (rdOf ByteArray.empty t1510 t1513) bt1519.1 bt1524.1 (bt1524.2 != 0)) else (gemotlaw2_PartsKeys.j0 k a4 t1510 (rdOf ByteArray.empty t1510 t1513) bt1519.1 bt1524.1 true)))))) else (none)) else (none))) else (none)) else (none))) else (none)) else (none)))) else (none)) = some r := H
  have A6 := Aside0.mk A60
  clear A60
  by_cases c7 : t1509 = true
  · subst c7
    have H1 : ((gemotlaw2_made.f l0).bind fun t1510 => ((gemotlaw2_pick.f a1 (t1510.length : Int)).bind fun t1513 => (if 0 ≤ t1513 then (if t1513 < (t1510.length : Int) then ((gemotlaw2_pick.f a2 (t1510.length : Int)).bind fun t1515 => (if 0 ≤ t1515 then (if t1515 < (t1510.length : Int) then ((gemotlaw2_pick.f a3 (t1510.length : Int)).bind fun t1517 => (if 0 ≤ t1517 then (if t1517 < (t1510.length : Int) then ((term_Seal.f (rdOf ByteArray.empty t1510 t1513) (rdOf ByteArray.empty t1510 t1515) (rdOf ByteArray.empty t1510 t1517)).bind fun bt1519 => ((gemotlaw2_pick.f a4 8).bind fun t1521 => ((term_Private.f (wrap64 (1 + t1521))).bind fun bt1522 => ((term_Sign.f bt1522.1 (rdOf ByteArray.empty t1510 t1513)).bind fun bt1524 => (if bt1519.2 = 0 then (gemotlaw2_PartsKeys.j0 k a4 t1510 (rdOf ByteArray.empty t1510 t1513) bt1519.1 bt1524.1 (bt1524.2 != 0)) else (gemotlaw2_PartsKeys.j0 k a4 t1510 (rdOf ByteArray.empty t1510 t1513) bt1519.1 bt1524.1 true)))))) else (none)) else (none))) else (none)) else (none))) else (none)) else (none)))) = some r := by rw [if_pos rfl] at H; exact H
    clear H
    have H := H1
    clear H1
    replace H := Option.bind_eq_some_iff.mp H
    obtain ⟨t1510, A80, H⟩ := H
    replace H : ((gemotlaw2_pick.f a1 (t1510.length : Int)).bind fun t1513 => (if 0 ≤ t1513 then (if t1513 < (t1510.length : Int) then ((gemotlaw2_pick.f a2 (t1510.length : Int)).bind fun t1515 => (if 0 ≤ t1515 then (if t1515 < (t1510.length : Int) then ((gemotlaw2_pick.f a3 (t1510.length : Int)).bind fun t1517 => (if 0 ≤ t1517 then (if t1517 < (t1510.length : Int) then ((term_Seal.f (rdOf ByteArray.empty t1510 t1513) (rdOf ByteArray.empty t1510 t1515) (rdOf ByteArray.empty t1510 t1517)).bind fun bt1519 => ((gemotlaw2_pick.f a4 8).bind fun t1521 => ((term_Private.f (wrap64 (1 + t1521))).bind fun bt1522 => ((term_Sign.f bt1522.1 (rdOf ByteArray.empty t1510 t1513)).bind fun bt1524 => (if bt1519.2 = 0 then (gemotlaw2_PartsKeys.j0 k a4 t1510 (rdOf ByteArray.empty t1510 t1513) bt1519.1 bt1524.1 (bt1524.2 != 0)) else (gemotlaw2_PartsKeys.j0 k a4 t1510 (rdOf ByteArray.empty t1510 t1513) bt1519.1 bt1524.1 true)))))) else (none)) else (none))) else (none)) else (none))) else (none)) else (none))) = some r := H
    have A8 := Aside0.mk A80
    clear A80
    replace H := Option.bind_eq_some_iff.mp H
    obtain ⟨t1513, A90, H⟩ := H
    replace H : (if 0 ≤ t1513 then (if t1513 < (t1510.length : Int) then ((gemotlaw2_pick.f a2 (t1510.length : Int)).bind fun t1515 => (if 0 ≤ t1515 then (if t1515 < (t1510.length : Int) then ((gemotlaw2_pick.f a3 (t1510.length : Int)).bind fun t1517 => (if 0 ≤ t1517 then (if t1517 < (t1510.length : Int) then ((term_Seal.f (rdOf ByteArray.empty t1510 t1513) (rdOf ByteArray.empty t1510 t1515) (rdOf ByteArray.empty t1510 t1517)).bind fun bt1519 => ((gemotlaw2_pick.f a4 8).bind fun t1521 => ((term_Private.f (wrap64 (1 + t1521))).bind fun bt1522 => ((term_Sign.f bt1522.1 (rdOf ByteArray.empty t1510 t1513)).bind fun bt1524 => (if bt1519.2 = 0 then (gemotlaw2_PartsKeys.j0 k a4 t1510 (rdOf ByteArray.empty t1510 t1513) bt1519.1 bt1524.1 (bt1524.2 != 0)) else (gemotlaw2_PartsKeys.j0 k a4 t1510 (rdOf ByteArray.empty t1510 t1513) bt1519.1 bt1524.1 true)))))) else (none)) else (none))) else (none)) else (none))) else (none)) else (none)) = some r := H
    have A9 := Aside0.mk A90
    clear A90
    by_cases c10 : 0 ≤ t1513
    · rw [if_pos c10] at H
      have c10b0 : decide (0 ≤ t1513) = true := decide_eq_true c10
      clear c10
      by_cases c11 : t1513 < (t1510.length : Int)
      · rw [if_pos c11] at H
        have c11b0 : decide (t1513 < (t1510.length : Int)) = true := decide_eq_true c11
        clear c11
        replace H := Option.bind_eq_some_iff.mp H
        obtain ⟨t1515, A120, H⟩ := H
        replace H : (if 0 ≤ t1515 then (if t1515 < (t1510.length : Int) then ((gemotlaw2_pick.f a3 (t1510.length : Int)).bind fun t1517 => (if 0 ≤ t1517 then (if t1517 < (t1510.length : Int) then ((term_Seal.f (rdOf ByteArray.empty t1510 t1513) (rdOf ByteArray.empty t1510 t1515) (rdOf ByteArray.empty t1510 t1517)).bind fun bt1519 => ((gemotlaw2_pick.f a4 8).bind fun t1521 => ((term_Private.f (wrap64 (1 + t1521))).bind fun bt1522 => ((term_Sign.f bt1522.1 (rdOf ByteArray.empty t1510 t1513)).bind fun bt1524 => (if bt1519.2 = 0 then (gemotlaw2_PartsKeys.j0 k a4 t1510 (rdOf ByteArray.empty t1510 t1513) bt1519.1 bt1524.1 (bt1524.2 != 0)) else (gemotlaw2_PartsKeys.j0 k a4 t1510 (rdOf ByteArray.empty t1510 t1513) bt1519.1 bt1524.1 true)))))) else (none)) else (none))) else (none)) else (none)) = some r := H
        have A12 := Aside0.mk A120
        clear A120
        by_cases c13 : 0 ≤ t1515
        · rw [if_pos c13] at H
          have c13b0 : decide (0 ≤ t1515) = true := decide_eq_true c13
          clear c13
          by_cases c14 : t1515 < (t1510.length : Int)
          · rw [if_pos c14] at H
            have c14b0 : decide (t1515 < (t1510.length : Int)) = true := decide_eq_true c14
            clear c14
            replace H := Option.bind_eq_some_iff.mp H
            obtain ⟨t1517, A150, H⟩ := H
            replace H : (if 0 ≤ t1517 then (if t1517 < (t1510.length : Int) then ((term_Seal.f (rdOf ByteArray.empty t1510 t1513) (rdOf ByteArray.empty t1510 t1515) (rdOf ByteArray.empty t1510 t1517)).bind fun bt1519 => ((gemotlaw2_pick.f a4 8).bind fun t1521 => ((term_Private.f (wrap64 (1 + t1521))).bind fun bt1522 => ((term_Sign.f bt1522.1 (rdOf ByteArray.empty t1510 t1513)).bind fun bt1524 => (if bt1519.2 = 0 then (gemotlaw2_PartsKeys.j0 k a4 t1510 (rdOf ByteArray.empty t1510 t1513) bt1519.1 bt1524.1 (bt1524.2 != 0)) else (gemotlaw2_PartsKeys.j0 k a4 t1510 (rdOf ByteArray.empty t1510 t1513) bt1519.1 bt1524.1 true)))))) else (none)) else (none)) = some r := H
            have A15 := Aside0.mk A150
            clear A150
            by_cases c16 : 0 ≤ t1517
            · rw [if_pos c16] at H
              have c16b0 : decide (0 ≤ t1517) = true := decide_eq_true c16
              clear c16
              by_cases c17 : t1517 < (t1510.length : Int)
              · rw [if_pos c17] at H
                have c17b0 : decide (t1517 < (t1510.length : Int)) = true := decide_eq_true c17
                clear c17
                replace H := Option.bind_eq_some_iff.mp H
                obtain ⟨⟨t1519, t1520⟩, A180, H⟩ := H
                replace H : ((gemotlaw2_pick.f a4 8).bind fun t1521 => ((term_Private.f (wrap64 (1 + t1521))).bind fun bt1522 => ((term_Sign.f bt1522.1 (rdOf ByteArray.empty t1510 t1513)).bind fun bt1524 => (if t1520 = 0 then (gemotlaw2_PartsKeys.j0 k a4 t1510 (rdOf ByteArray.empty t1510 t1513) t1519 bt1524.1 (bt1524.2 != 0)) else (gemotlaw2_PartsKeys.j0 k a4 t1510 (rdOf ByteArray.empty t1510 t1513) t1519 bt1524.1 true))))) = some r := H
                have A18 := Aside0.mk A180
                clear A180
                replace H := Option.bind_eq_some_iff.mp H
                obtain ⟨t1521, A190, H⟩ := H
                replace H : ((term_Private.f (wrap64 (1 + t1521))).bind fun bt1522 => ((term_Sign.f bt1522.1 (rdOf ByteArray.empty t1510 t1513)).bind fun bt1524 => (if t1520 = 0 then (gemotlaw2_PartsKeys.j0 k a4 t1510 (rdOf ByteArray.empty t1510 t1513) t1519 bt1524.1 (bt1524.2 != 0)) else (gemotlaw2_PartsKeys.j0 k a4 t1510 (rdOf ByteArray.empty t1510 t1513) t1519 bt1524.1 true)))) = some r := H
                have A19 := Aside0.mk A190
                clear A190
                replace H := Option.bind_eq_some_iff.mp H
                obtain ⟨⟨t1522, t1523⟩, A200, H⟩ := H
                replace H : ((term_Sign.f t1522 (rdOf ByteArray.empty t1510 t1513)).bind fun bt1524 => (if t1520 = 0 then (gemotlaw2_PartsKeys.j0 k a4 t1510 (rdOf ByteArray.empty t1510 t1513) t1519 bt1524.1 (bt1524.2 != 0)) else (gemotlaw2_PartsKeys.j0 k a4 t1510 (rdOf ByteArray.empty t1510 t1513) t1519 bt1524.1 true))) = some r := H
                have A20 := Aside0.mk A200
                clear A200
                replace H := Option.bind_eq_some_iff.mp H
                obtain ⟨⟨t1524, t1525⟩, A210, H⟩ := H
                replace H : (if t1520 = 0 then (gemotlaw2_PartsKeys.j0 k a4 t1510 (rdOf ByteArray.empty t1510 t1513) t1519 t1524 (t1525 != 0)) else (gemotlaw2_PartsKeys.j0 k a4 t1510 (rdOf ByteArray.empty t1510 t1513) t1519 t1524 true)) = some r := H
                have A21 := Aside0.mk A210
                clear A210
                have HC22 := Aside0.mk H
                clear H
                go_enter Try.func28, Try.ntmps28
                try go_wp2_with (first | ((with_reducible refine gate_callee (f := 36) rfl ?_); refine goesL_ (some 28) rfl rfl Try.func36 (by kernel_rfl) rfl #[] rfl (by (try simp only [List.map_toArray, List.map_cons, List.map_nil]); first | done | rfl | (simp only [List.length_drop, List.length_take]; rfl)) ?_; (with_reducible refine (gemotlaw2_shown.calls  true _ A6.out).mono ?_); rintro e w23 ⟨rfl, hb⟩; refine ⟨_, rfl, ?_⟩; have n0_ := Aside0.mk (below_step (by repeat (first | (with_reducible first | exact HB.out | apply below_alloc | apply pw_below_drewN | apply below_drew1) | exact HB.out)) hb); clear HB; have HB := n0_; clear n0_; (try clear hb); (try clear hb2); (try clear hk); (try clear hi)) | ((with_reducible refine gate_callee (f := 101) rfl ?_); refine goesL_ (some 32) rfl rfl Try.func101 (by kernel_rfl) rfl #[.slice A0 l0.length c0] rfl (by (try simp only [List.map_toArray, List.map_cons, List.map_nil]); first | done | rfl | (simp only [List.length_drop, List.length_take]; rfl)) ?_; (with_reducible refine (gemotlaw2_made.calls _ _ l0 t1510 _ ?side1 ?side2 A8.out).mono ?_); (case side1 => repeat (first | exact (Kd.C_below HR0.out HB.out) | (with_reducible refine Kd.C_alloc ?_ _) | (with_reducible refine Kd.C_drewN ?_ _) | (with_reducible refine Kd.C_drew ?_))); (case side2 => exact HC0.out); rintro e w24 ⟨v1511, rfl, ho0, hb⟩; refine ⟨_, rfl, ?_⟩; have n0_ := Aside0.mk (Kd.R_lower ho0 (below_size (by repeat (first | (with_reducible first | exact HB.out | apply below_alloc | apply pw_below_drewN | apply below_drew1) | exact HB.out)))); have n1_ := Aside0.mk (below_step (by repeat (first | (with_reducible first | exact HB.out | apply below_alloc | apply pw_below_drewN | apply below_drew1) | exact HB.out)) hb); clear HB; have HO1512 := n0_; have HB := n1_; clear n0_ n1_; (try clear hb); (try clear hb2); (try clear hk); (try clear hi); (try clear ho0); obtain ⟨Ao25, co25, eo25⟩ := Kd.R_slice HO1512.out; subst eo25) | ((with_reducible refine gate_callee (f := 102) rfl ?_); refine goesL_ (some 37) rfl rfl Try.func102 (by kernel_rfl) rfl #[.int .i64 a1, .int .i64 (t1510.length : Int)] rfl (by (try simp only [List.map_toArray, List.map_cons, List.map_nil]); first | done | rfl | (simp only [List.length_drop, List.length_take]; rfl)) ?_; (with_reducible refine (gemotlaw2_pick.calls a1 (t1510.length : Int) t1513 _ A9.out).mono ?_); rintro e w' ⟨rfl, ⟨nd, rfl⟩⟩; refine ⟨_, rfl, ?_⟩; have p1514 : 0 ≤ (t1513 : Int) := of_decide_eq_true (by first | (with_reducible assumption) | assumption); have q1514 : t1513 < (t1510.length : Int) := of_decide_eq_true (by first | (with_reducible assumption) | assumption); obtain ⟨ad1514, e1514, hx1514_0⟩ := Kd.at_string (Kd.R_reads' HO1512.out).2.2 t1513 p1514 q1514; cases e1514; replace p1514 := eq_true p1514; replace q1514 := eq_true q1514))
                (try (rw [drewN_self w24]; generalize hq_ : World.drewN w24 _ = w24; have n0_ : Aside0 (Kd.R Kd.string 23 w24 w.heap.size (fun _ => True) (.slice (some ad1514) t1510.length co25) t1510) := ⟨by rw [← hq_]; exact (by (with_reducible repeat (first | apply Kd.R_alloc | apply Kd.R_drewN | apply Kd.R_drew)); exact HO1512.out)⟩; have n1_ : Aside0 (Below w.heap.size w w24) := ⟨by rw [← hq_]; exact (by repeat (first | (with_reducible first | exact HB.out | apply below_alloc | apply pw_below_drewN | apply below_drew1) | exact HB.out))⟩; clear HO1512 HB hq_; have HO1512 := n0_; have HB := n1_; clear n0_ n1_))
                have n0_ := Aside0.mk (Kd.R_drew HO1512.out)
                have n1_ := Aside0.mk (below_drew1 HB.out)
                clear HO1512
                clear HB
                have HO1512 := n0_
                have HB := n1_
                clear n0_ n1_
                have p1516 : 0 ≤ (t1515 : Int) := of_decide_eq_true (by first | (with_reducible assumption) | assumption)
                have q1516 : t1515 < (t1510.length : Int) := of_decide_eq_true (by first | (with_reducible assumption) | assumption)
                obtain ⟨ad1516, e1516, hx1516_0⟩ := Kd.at_string (Kd.R_reads' HO1512.out).2.2 t1515 p1516 q1516
                obtain rfl : ad1514 = ad1516 := (by injection e1516)
                replace p1516 := eq_true p1516
                replace q1516 := eq_true q1516
                have p1518 : 0 ≤ (t1517 : Int) := of_decide_eq_true (by first | (with_reducible assumption) | assumption)
                have q1518 : t1517 < (t1510.length : Int) := of_decide_eq_true (by first | (with_reducible assumption) | assumption)
                obtain ⟨ad1518, e1518, hx1518_0⟩ := Kd.at_string (Kd.R_reads' HO1512.out).2.2 t1517 p1518 q1518
                obtain rfl : ad1514 = ad1518 := (by injection e1518)
                replace p1518 := eq_true p1518
                replace q1518 := eq_true q1518
                refine start_ (n := 21) (S := fun w' => w'.cell? (ad1514.add (t1515).toNat) = some (.string (rdOf ByteArray.empty t1510 t1515)) ∧ w'.cell? (ad1514.add (t1517).toNat) = some (.string (rdOf ByteArray.empty t1510 t1517))) (ds := []) #[false, false, false, false, false, false, false, false, false, false, false, false, false, false, false, false, false, false, false, false, false] (by kernel_rfl) rfl rfl ⟨hx1516_0, hx1518_0⟩ (fun hHeld => ?_); refine with_tabW gemotlaw2_PartsKeys.tab6 gemotlaw2_PartsKeys.bits6 (fun HT_ HW_ => ?_)
                generalize w24.drew = w26 at HO1512 HB hx1516_0 hx1518_0 hHeld ⊢
                refine pure_ (i := 0) (N := some 41) (v := ?_) (a' := ?_) #[true, false, false, false, false, false, false, false, false, false, false, false, false, false, false, false, false, false, false, false, false] rfl rfl (any_of HT_.out (by kernel_rfl)) (fun _ _ _ h => h) (Or.inl ⟨by rfl, ?_⟩) ?_ ?_
                rotate_left
                · intro w'
                  go_simp
                  with_reducible rfl
                rotate_left
                · simp only [Act.put, List.setIfInBounds_toArray, List.set_cons_zero, List.set_cons_succ, i64_w, i32_w]
                  rfl
                refine pure_ (i := 1) (N := some 42) (v := ?_) (a' := ?_) #[true, true, false, false, false, false, false, false, false, false, false, false, false, false, false, false, false, false, false, false, false] rfl rfl (any_of HT_.out (by kernel_rfl)) (fun _ _ _ h => h) (Or.inl ⟨by rfl, ?_⟩) ?_ ?_
                rotate_left
                · intro w'
                  go_simp
                  with_reducible rfl
                rotate_left
                · simp only [Act.put, List.setIfInBounds_toArray, List.set_cons_zero, List.set_cons_succ, i64_w, i32_w]
                  rfl
                refine pure_ (i := 2) (N := some 43) (v := ?_) (a' := ?_) #[true, true, true, false, false, false, false, false, false, false, false, false, false, false, false, false, false, false, false, false, false] rfl rfl (any_of HT_.out (by kernel_rfl)) (fun _ _ _ h => h) (Or.inl ⟨by rfl, ?_⟩) ?_ ?_
                rotate_left
                · intro w'
                  go_simp
                  with_reducible rfl
                rotate_left
                · simp only [Act.put, List.setIfInBounds_toArray, List.set_cons_zero, List.set_cons_succ, i64_w, i32_w]
                  rfl
                refine pure_ (i := 3) (N := some 44) (v := ?_) (a' := ?_) #[true, true, true, true, false, false, false, false, false, false, false, false, false, false, false, false, false, false, false, false, false] rfl rfl (any_of HT_.out (by kernel_rfl)) (fun _ _ _ h => h) (Or.inl ⟨by rfl, ?_⟩) ?_ ?_
                rotate_left
                · intro w'
                  go_simp
                  with_reducible rfl
                rotate_left
                · simp only [Act.put, List.setIfInBounds_toArray, List.set_cons_zero, List.set_cons_succ, i64_w, i32_w]
                  rfl
                refine pure_ (i := 4) (N := some 45) (v := ?_) (a' := ?_) #[true, true, true, true, true, false, false, false, false, false, false, false, false, false, false, false, false, false, false, false, false] rfl rfl (any_of HT_.out (by kernel_rfl)) (fun _ _ _ h => h) (Or.inl ⟨by rfl, ?_⟩) ?_ ?_
                rotate_left
                · intro w'
                  go_simp
                  with_reducible rfl
                rotate_left
                · simp only [Act.put, List.setIfInBounds_toArray, List.set_cons_zero, List.set_cons_succ, i64_w, i32_w]
                  rfl
                refine pure_ (i := 8) (N := some 49) (v := ?_) (a' := ?_) #[true, true, true, true, true, false, false, false, true, false, false, false, false, false, false, false, false, false, false, false, false] rfl rfl (any_of HT_.out (by kernel_rfl)) (fun _ _ _ h => h) (Or.inl ⟨by rfl, ?_⟩) ?_ ?_
                rotate_left
                · intro w'
                  go_simp
                  with_reducible rfl
                rotate_left
                · simp only [Act.put, List.setIfInBounds_toArray, List.set_cons_zero, List.set_cons_succ, i64_w, i32_w]
                  rfl
                refine pure_ (i := 9) (N := some 50) (v := ?_) (a' := ?_) #[true, true, true, true, true, false, false, false, true, true, false, false, false, false, false, false, false, false, false, false, false] rfl rfl (any_of HT_.out (by kernel_rfl)) (fun _ _ _ h => h) (Or.inl ⟨by rfl, ?_⟩) ?_ ?_
                rotate_left
                · intro w'
                  go_simp
                  with_reducible rfl
                rotate_left
                · simp only [Act.put, List.setIfInBounds_toArray, List.set_cons_zero, List.set_cons_succ, i64_w, i32_w]
                  rfl
                refine pure_ (i := 10) (N := some 51) (v := ?_) (a' := ?_) #[true, true, true, true, true, false, false, false, true, true, true, false, false, false, false, false, false, false, false, false, false] rfl rfl (any_of HT_.out (by kernel_rfl)) (fun _ _ _ h => h) (Or.inl ⟨by rfl, ?_⟩) ?_ ?_
                rotate_left
                · intro w'
                  go_simp
                  with_reducible rfl
                rotate_left
                · simp only [Act.put, List.setIfInBounds_toArray, List.set_cons_zero, List.set_cons_succ, i64_w, i32_w]
                  rfl
                refine pure_ (i := 11) (N := some 52) (v := ?_) (a' := ?_) #[true, true, true, true, true, false, false, false, true, true, true, true, false, false, false, false, false, false, false, false, false] rfl rfl (any_of HT_.out (by kernel_rfl)) (fun _ _ _ h => h) (Or.inl ⟨by rfl, ?_⟩) ?_ ?_
                rotate_left
                · intro w'
                  go_simp
                  with_reducible rfl
                rotate_left
                · simp only [Act.put, List.setIfInBounds_toArray, List.set_cons_zero, List.set_cons_succ, i64_w, i32_w]
                  rfl
                refine one_ (i := 5) (N := some 46) #[true, true, true, true, true, true, false, false, true, true, true, true, false, false, false, false, false, false, false, false, false] rfl rfl (one_of HT_.out (by kernel_rfl)) (by decide) (fun K hK => ?_)
                refine goes_ Try.func102 (by kernel_rfl) rfl #[.int .i64 a2, .int .i64 (t1510.length : Int)] (by rfl) rfl rfl (by (try simp only [List.map_toArray, List.map_cons, List.map_nil]); first | done | rfl | (simp only [List.length_drop, List.length_take]; rfl)) ?_
                with_reducible refine (gemotlaw2_pick.calls a2 (t1510.length : Int) t1515 _ A12.out).mono ?_
                rintro e w' ⟨rfl, ⟨nd, rfl⟩⟩
                refine ⟨_, rfl, ?_⟩
                refine hK.out _ _ ⟨hHeld.1, hHeld.2⟩ (fun hHeld => ?_)
                clear hK K
                refine norm_ (a' := ?_) ?_ ?_
                rotate_left
                · show Act.put _ (some 46) _ = _
                  simp only [Act.put, List.setIfInBounds_toArray, List.set_cons_zero, List.set_cons_succ, i64_w, i32_w]
                  rfl
                refine pure_ (i := 6) (N := some 47) (v := ?_) (a' := ?_) #[true, true, true, true, true, true, true, false, true, true, true, true, false, false, false, false, false, false, false, false, false] rfl rfl (any_of HT_.out (by kernel_rfl)) (fun _ _ _ h => h) (Or.inl ⟨by rfl, ?_⟩) ?_ ?_
                rotate_left
                · intro w'
                  go_simp
                  with_reducible rfl
                rotate_left
                · simp only [Act.put, List.setIfInBounds_toArray, List.set_cons_zero, List.set_cons_succ, i64_w, i32_w]
                  rfl
                refine take_ (i := 7) (N := some 48) (v := ?_) (a' := ?_) #[true, true, true, true, true, true, true, true, true, true, true, true, false, false, false, false, false, false, false, false, false] rfl rfl (take_ofW HT_.out HW_.out (by kernel_rfl)) (fun _ _ _ h => h) (Or.inl ⟨by rfl, ?_⟩) hHeld ?_ ?_
                rotate_left
                · rintro w' ⟨s0, s1⟩
                  go_simp
                  with_reducible rfl
                rotate_left
                · simp only [Act.put, List.setIfInBounds_toArray, List.set_cons_zero, List.set_cons_succ, i64_w, i32_w]
                  rfl
                refine one_ (i := 12) (N := some 53) #[true, true, true, true, true, true, true, true, true, true, true, true, true, false, false, false, false, false, false, false, false] rfl rfl (one_of HT_.out (by kernel_rfl)) (by decide) (fun K hK => ?_)
                refine goes_ Try.func102 (by kernel_rfl) rfl #[.int .i64 a3, .int .i64 (t1510.length : Int)] (by rfl) rfl rfl (by (try simp only [List.map_toArray, List.map_cons, List.map_nil]); first | done | rfl | (simp only [List.length_drop, List.length_take]; rfl)) ?_
                with_reducible refine (gemotlaw2_pick.calls a3 (t1510.length : Int) t1517 _ A15.out).mono ?_
                rintro e w' ⟨rfl, ⟨nd, rfl⟩⟩
                refine ⟨_, rfl, ?_⟩
                refine hK.out _ _ ⟨hHeld.1, hHeld.2⟩ (fun hHeld => ?_)
                clear hK K
                refine norm_ (a' := ?_) ?_ ?_
                rotate_left
                · show Act.put _ (some 53) _ = _
                  simp only [Act.put, List.setIfInBounds_toArray, List.set_cons_zero, List.set_cons_succ, i64_w, i32_w]
                  rfl
                refine pure_ (i := 13) (N := some 54) (v := ?_) (a' := ?_) #[true, true, true, true, true, true, true, true, true, true, true, true, true, true, false, false, false, false, false, false, false] rfl rfl (any_of HT_.out (by kernel_rfl)) (fun _ _ _ h => h) (Or.inl ⟨by rfl, ?_⟩) ?_ ?_
                rotate_left
                · intro w'
                  go_simp
                  with_reducible rfl
                rotate_left
                · simp only [Act.put, List.setIfInBounds_toArray, List.set_cons_zero, List.set_cons_succ, i64_w, i32_w]
                  rfl
                refine take_ (i := 14) (N := some 55) (v := ?_) (a' := ?_) #[true, true, true, true, true, true, true, true, true, true, true, true, true, true, true, false, false, false, false, false, false] rfl rfl (take_ofW HT_.out HW_.out (by kernel_rfl)) (fun _ _ _ h => h) (Or.inl ⟨by rfl, ?_⟩) hHeld ?_ ?_
                rotate_left
                · rintro w' ⟨s0, s1⟩
                  go_simp
                  with_reducible rfl
                rotate_left
                · simp only [Act.put, List.setIfInBounds_toArray, List.set_cons_zero, List.set_cons_succ, i64_w, i32_w]
                  rfl
                refine one_ (i := 15) (N := some 56) #[true, true, true, true, true, true, true, true, true, true, true, true, true, true, true, true, false, false, false, false, false] rfl rfl (one_of HT_.out (by kernel_rfl)) (by decide) (fun K hK => ?_)
                refine goes_ Try.func95 (by kernel_rfl) rfl #[.string (rdOf ByteArray.empty t1510 t1513), .string (rdOf ByteArray.empty t1510 t1515), .string (rdOf ByteArray.empty t1510 t1517)] (by rfl) rfl rfl (by (try simp only [List.map_toArray, List.map_cons, List.map_nil]); first | done | rfl | (simp only [List.length_drop, List.length_take]; rfl)) ?_
                with_reducible refine (term_Seal.calls (rdOf ByteArray.empty t1510 t1513) (rdOf ByteArray.empty t1510 t1515) (rdOf ByteArray.empty t1510 t1517) t1519 t1520 _ A18.out).mono ?_
                rintro e w27 ⟨rfl, hb⟩
                have HS0_ := (hb.cell (World.block_lt_of_cell? _ _ (hHeld.1))).trans (hHeld.1)
                have HS1_ := (hb.cell (World.block_lt_of_cell? _ _ (hHeld.2))).trans (hHeld.2)
                refine ⟨_, rfl, ?_⟩
                have n0_ := Aside0.mk (Kd.R_below (by (with_reducible repeat (first | apply Kd.R_alloc | apply Kd.R_drewN | apply Kd.R_drew)); exact HO1512.out) hb)
                have n1_ := Aside0.mk (below_step (by repeat (first | (with_reducible first | exact HB.out | apply below_alloc | apply pw_below_drewN | apply below_drew1) | exact HB.out)) hb)
                clear HO1512
                clear HB
                have HO1512 := n0_
                have HB := n1_
                clear n0_ n1_
                (try clear hb)
                (try clear hb2)
                (try clear hk)
                (try clear hi)
                refine hK.out _ _ ⟨HS0_, HS1_⟩ (fun hHeld => ?_)
                clear hK K
                refine norm_ (a' := ?_) ?_ ?_
                rotate_left
                · show Act.put _ (some 56) _ = _
                  simp only [Act.put, List.setIfInBounds_toArray, List.set_cons_zero, List.set_cons_succ, i64_w, i32_w]
                  rfl
                refine pure_ (i := 16) (N := some 40) (v := ?_) (a' := ?_) #[true, true, true, true, true, true, true, true, true, true, true, true, true, true, true, true, true, false, false, false, false] rfl rfl (any_of HT_.out (by kernel_rfl)) (fun _ _ _ h => h) (Or.inl ⟨by rfl, ?_⟩) ?_ ?_
                rotate_left
                · intro w'
                  go_simp
                  with_reducible rfl
                rotate_left
                · simp only [Act.put, List.setIfInBounds_toArray, List.set_cons_zero, List.set_cons_succ, i64_w, i32_w]
                  rfl
                refine pure_ (i := 17) (N := some 57) (v := ?_) (a' := ?_) #[true, true, true, true, true, true, true, true, true, true, true, true, true, true, true, true, true, true, false, false, false] rfl rfl (any_of HT_.out (by kernel_rfl)) (fun _ _ _ h => h) (Or.inl ⟨by rfl, ?_⟩) ?_ ?_
                rotate_left
                · intro w'
                  go_simp
                  with_reducible rfl
                rotate_left
                · simp only [Act.put, List.setIfInBounds_toArray, List.set_cons_zero, List.set_cons_succ, i64_w, i32_w]
                  rfl
                refine pure_ (i := 18) (N := some 58) (v := ?_) (a' := ?_) #[true, true, true, true, true, true, true, true, true, true, true, true, true, true, true, true, true, true, true, false, false] rfl rfl (any_of HT_.out (by kernel_rfl)) (fun _ _ _ h => h) (Or.inl ⟨by rfl, ?_⟩) ?_ ?_
                rotate_left
                · intro w'
                  go_simp
                  with_reducible rfl
                rotate_left
                · simp only [Act.put, List.setIfInBounds_toArray, List.set_cons_zero, List.set_cons_succ, i64_w, i32_w]
                  rfl
                refine pure_ (i := 19) (N := some 14) (v := ?_) (a' := ?_) #[true, true, true, true, true, true, true, true, true, true, true, true, true, true, true, true, true, true, true, true, false] rfl rfl (any_of HT_.out (by kernel_rfl)) (fun _ _ _ h => h) (Or.inl ⟨by rfl, ?_⟩) ?_ ?_
                rotate_left
                · intro w'
                  go_simp
                  with_reducible rfl
                rotate_left
                · simp only [Act.put, List.setIfInBounds_toArray, List.set_cons_zero, List.set_cons_succ, i64_w, i32_w]
                  rfl
                refine pure_ (i := 20) (N := some 15) (v := ?_) (a' := ?_) #[true, true, true, true, true, true, true, true, true, true, true, true, true, true, true, true, true, true, true, true, true] rfl rfl (any_of HT_.out (by kernel_rfl)) (fun _ _ _ h => h) (Or.inl ⟨by rfl, ?_⟩) ?_ ?_
                rotate_left
                · intro w'
                  go_simp
                  with_reducible rfl
                rotate_left
                · simp only [Act.put, List.setIfInBounds_toArray, List.set_cons_zero, List.set_cons_succ, i64_w, i32_w]
                  rfl
                refine done_ (done_of HT_.out (by kernel_rfl)) ?_
                go_upto_region 9 with (first | ((with_reducible refine gate_callee (f := 102) rfl ?_); refine goesL_ (some 61) rfl rfl Try.func102 (by kernel_rfl) rfl #[.int .i64 a4, .int .i64 8] rfl (by (try simp only [List.map_toArray, List.map_cons, List.map_nil]); first | done | rfl | (simp only [List.length_drop, List.length_take]; rfl)) ?_; (with_reducible refine (gemotlaw2_pick.calls a4 8 t1521 _ A19.out).mono ?_); rintro e w' ⟨rfl, ⟨nd, rfl⟩⟩; refine ⟨_, rfl, ?_⟩) | ((with_reducible refine gate_callee (f := 81) rfl ?_); refine goesL_ (some 63) rfl rfl Try.func81 (by kernel_rfl) rfl #[.int .i64 (wrap64 (1 + t1521))] rfl (by (try simp only [List.map_toArray, List.map_cons, List.map_nil]); first | done | rfl | (simp only [List.length_drop, List.length_take]; rfl)) ?_; (with_reducible refine (term_Private.calls (wrap64 (1 + t1521)) t1522 t1523 _ A20.out).mono ?_); rintro e w28 ⟨rfl, hb⟩; refine ⟨_, rfl, ?_⟩; have n0_ := Aside0.mk (Kd.R_below (by (with_reducible repeat (first | apply Kd.R_alloc | apply Kd.R_drewN | apply Kd.R_drew)); exact HO1512.out) hb); have n1_ := Aside0.mk (below_step (by repeat (first | (with_reducible first | exact HB.out | apply below_alloc | apply pw_below_drewN | apply below_drew1) | exact HB.out)) hb); clear HO1512; clear HB; have HO1512 := n0_; have HB := n1_; clear n0_ n1_; (try clear hb); (try clear hb2); (try clear hk); (try clear hi)) | ((with_reducible refine gate_callee (f := 96) rfl ?_); refine goesL_ (some 69) rfl rfl Try.func96 (by kernel_rfl) rfl #[.string t1522, .string (rdOf ByteArray.empty t1510 t1513)] rfl (by (try simp only [List.map_toArray, List.map_cons, List.map_nil]); first | done | rfl | (simp only [List.length_drop, List.length_take]; rfl)) ?_; (with_reducible refine (term_Sign.calls t1522 (rdOf ByteArray.empty t1510 t1513) t1524 t1525 _ A21.out).mono ?_); rintro e w29 ⟨rfl, hb⟩; refine ⟨_, rfl, ?_⟩; have n0_ := Aside0.mk (Kd.R_below (by (with_reducible repeat (first | apply Kd.R_alloc | apply Kd.R_drewN | apply Kd.R_drew)); exact HO1512.out) hb); have n1_ := Aside0.mk (below_step (by repeat (first | (with_reducible first | exact HB.out | apply below_alloc | apply pw_below_drewN | apply below_drew1) | exact HB.out)) hb); clear HO1512; clear HB; have HO1512 := n0_; have HB := n1_; clear n0_ n1_; (try clear hb); (try clear hb2); (try clear hk); (try clear hi)))
                (try simp only [Act.put, List.setIfInBounds_toArray, List.set_cons_zero, List.set_cons_succ])
                go_cut [77] (fun v77 wc => ∃ (kq : Nat) (x77_21 : Bool), v77 = .bool x77_21 ∧ Aside0 (gemotlaw2_PartsKeys.j0 kq a4 t1510 (rdOf ByteArray.empty t1510 t1513) t1519 t1524 x77_21 = some r) ∧ Aside0 (kq ≤ k) ∧ Aside0 (Kd.R Kd.string 23 wc w.heap.size (fun _ => True) (.slice (some ad1514) t1510.length co25) t1510) ∧ Aside0 (Below w.heap.size w wc))
                case first =>
                  have H := HC22.out
                  clear HC22
                  by_cases c30 : t1520 = 0
                  · rw [if_pos c30] at H
                    have c30b0 : (t1520 == 0) = true := beq_iff_eq.mpr c30
                    have c30b1 : (t1520 != 0) = false := bne_eq_false_iff_eq.mpr c30
                    clear c30
                    (first | rw [c30b0] | (simp only [i64_w, i32_w]; rw [c30b0]) | skip)
                    have H' := Aside0.mk H
                    clear H
                    go_wp2
                    go_meet
                    case rel => exact ⟨_, ((t1525 != 0)), (by first | rfl | (simp; done) | (simp [*]; done)), H', ⟨by first | omega | exact Nat.le_refl _⟩, ⟨by (with_reducible repeat (first | apply Kd.R_alloc | apply Kd.R_drewN | apply Kd.R_drew)); exact HO1512.out⟩, ⟨by repeat (first | (with_reducible first | exact HB.out | apply below_alloc | apply pw_below_drewN | apply below_drew1) | exact HB.out)⟩⟩
                  · rw [if_neg c30] at H
                    have c30b0 : (t1520 == 0) = false := beq_eq_false_iff_ne.mpr c30
                    have c30b1 : (t1520 != 0) = true := bne_iff_ne.mpr c30
                    (first | rw [c30b0] | (simp only [i64_w, i32_w]; rw [c30b0]) | skip)
                    have H' := Aside0.mk H
                    clear H
                    go_wp2
                    go_meet
                    case rel => exact ⟨_, (true), (by first | rfl | (simp; done) | (simp [*]; done)), H', ⟨by first | omega | exact Nat.le_refl _⟩, ⟨by (with_reducible repeat (first | apply Kd.R_alloc | apply Kd.R_drewN | apply Kd.R_drew)); exact HO1512.out⟩, ⟨by repeat (first | (with_reducible first | exact HB.out | apply below_alloc | apply pw_below_drewN | apply below_drew1) | exact HB.out)⟩⟩
                case rest =>
                  clear HC22
                  try clear c1
                  try clear p1
                  try clear q1
                  try clear hx1
                  try clear c2
                  try clear p2
                  try clear c3
                  try clear p6
                  try clear c7
                  try clear c8
                  try clear c9
                  try clear c10
                  try clear c10b0
                  try clear c11
                  try clear c11b0
                  try clear c13
                  try clear c13b0
                  try clear c14
                  try clear c14b0
                  try clear p15
                  try clear q15
                  try clear hx15
                  try clear c16
                  try clear c16b0
                  try clear c17
                  try clear c17b0
                  try clear c28
                  try clear c30
                  try clear c30b0
                  try clear c30b1
                  try clear hx1514_0
                  try clear hx1516_0
                  try clear hx1518_0
                  try clear p1514
                  try clear p1516
                  try clear p1518
                  try clear q1514
                  try clear q1516
                  try clear q1518
                  obtain ⟨kq, x77_21, rfl, HA, HJ21, HO_12, HB⟩ := hcut
                  cases kq with
                  | zero => exact absurd HA.out (by simp [gemotlaw2_PartsKeys.j0])
                  | succ kj21 =>
                    have H := HA.out
                    clear HA
                    simp only [gemotlaw2_PartsKeys.j0] at H
                    by_cases c31 : x77_21 = true
                    · subst c31
                      have H1 : (none) = some r := by rw [if_pos rfl] at H; exact H
                      exact absurd H1 (by simp)
                    · replace c31 := Bool.eq_false_iff.mpr c31
                      subst c31
                      have H1 : (gemotlaw2_PartsKeys.l0 kj21 a4 t1510 (rdOf ByteArray.empty t1510 t1513) t1519 t1524 0) = some r := by rw [if_neg (show ¬ (false = true) by decide)] at H; exact H
                      clear H
                      have H := H1
                      clear H1
                      have H' := Aside0.mk H
                      clear H
                      go_wp2
                      go_loopg [20] kj21 (fun kq v20 w' => ∃ (x20_2 : Int), v20 = .int .i64 x20_2 ∧ Aside0 (gemotlaw2_PartsKeys.l0 kq a4 t1510 (rdOf ByteArray.empty t1510 t1513) t1519 t1524 x20_2 = some r) ∧ Aside0 (kq ≤ kj21) ∧ Aside0 (Kd.R Kd.string 23 w' w.heap.size (fun _ => True) (.slice (some ad1514) t1510.length co25) t1510) ∧ Aside0 (Below w.heap.size w w'))
                      case atStart => exact ⟨(0), (by first | rfl | (simp; done) | (simp [*]; done)), H', ⟨Nat.le_refl _⟩, ⟨by (with_reducible repeat (first | apply Kd.R_alloc | apply Kd.R_drewN | apply Kd.R_drew)); exact HO_12.out⟩, ⟨by repeat (first | (with_reducible first | exact HB.out | apply below_alloc | apply pw_below_drewN | apply below_drew1) | exact HB.out)⟩⟩
                      case round =>
                        clear H'
                        try clear c1
                        try clear p1
                        try clear q1
                        try clear hx1
                        try clear c2
                        try clear p2
                        try clear c3
                        try clear p6
                        try clear c7
                        try clear c8
                        try clear c9
                        try clear c10
                        try clear c10b0
                        try clear c11
                        try clear c11b0
                        try clear c13
                        try clear c13b0
                        try clear c14
                        try clear c14b0
                        try clear p15
                        try clear q15
                        try clear hx15
                        try clear c16
                        try clear c16b0
                        try clear c17
                        try clear c17b0
                        try clear c28
                        try clear c30
                        try clear c30b0
                        try clear c30b1
                        try clear c31
                        try clear hx1514_0
                        try clear hx1516_0
                        try clear hx1518_0
                        try clear p1
                        try clear p15
                        try clear p1514
                        try clear p1516
                        try clear p1518
                        try clear p2
                        try clear p6
                        try clear q1
                        try clear q15
                        try clear q1514
                        try clear q1516
                        try clear q1518
                        obtain ⟨x20_2, rfl, HA, HK2, HO_12, HB⟩ := hrel
                        cases gk with
                        | zero => exact absurd HA.out (by simp [gemotlaw2_PartsKeys.l0])
                        | succ k2 =>
                          have H := HA.out
                          clear HA
                          simp only [gemotlaw2_PartsKeys.l0] at H
                          by_cases c32 : x20_2 < (t1510.length : Int)
                          · rw [if_pos c32] at H
                            have c32b0 : decide (x20_2 < (t1510.length : Int)) = true := decide_eq_true c32
                            clear c32
                            by_cases c33 : 0 ≤ x20_2
                            · rw [if_pos c33] at H
                              have c33b0 : decide (0 ≤ x20_2) = true := decide_eq_true c33
                              clear c33
                              replace H := Option.bind_eq_some_iff.mp H
                              obtain ⟨⟨t1527, t1528, t1529⟩, A340, H⟩ := H
                              replace H : (if ((t1529 == 0) != ((rdOf ByteArray.empty t1510 x20_2).toList == (rdOf ByteArray.empty t1510 t1513).toList)) = true then (none) else (gemotlaw2_PartsKeys.l0 k2 a4 t1510 (rdOf ByteArray.empty t1510 t1513) t1519 t1524 (wrap64 (x20_2 + 1)))) = some r := H
                              have A34 := Aside0.mk A340
                              clear A340
                              by_cases c35 : ((t1529 == 0) != ((rdOf ByteArray.empty t1510 x20_2).toList == (rdOf ByteArray.empty t1510 t1513).toList)) = true
                              · rw [if_pos c35] at H
                                exact absurd H (by simp)
                              · rw [if_neg c35] at H
                                have c35b0 : ((t1529 == 0) != ((rdOf ByteArray.empty t1510 x20_2).toList == (rdOf ByteArray.empty t1510 t1513).toList)) = false := by simpa using c35
                                (try (have c35b1 : decide ((t1529 == 0) = ((rdOf ByteArray.empty t1510 x20_2).toList == (rdOf ByteArray.empty t1510 t1513).toList)) = true := by simpa using c35))
                                (try (have c35b2 : ((t1529 == 0) == ((rdOf ByteArray.empty t1510 x20_2).toList == (rdOf ByteArray.empty t1510 t1513).toList)) = true := by simpa using c35))
                                clear c35
                                have H' := Aside0.mk H
                                clear H
                                have p1526 : 0 ≤ (x20_2 : Int) := of_decide_eq_true (by first | (with_reducible assumption) | assumption)
                                have q1526 : x20_2 < (t1510.length : Int) := of_decide_eq_true (by first | (with_reducible assumption) | assumption)
                                obtain ⟨ad1526, e1526, hx1526_0⟩ := Kd.at_string (Kd.R_reads' HO_12.out).2.2 x20_2 p1526 q1526
                                obtain rfl : ad1514 = ad1526 := (by injection e1526)
                                replace p1526 := eq_true p1526
                                replace q1526 := eq_true q1526
                                go_wp2_with (first | ((with_reducible refine gate_callee (f := 37) rfl ?_); refine goesL_ (some 90) rfl rfl Try.func37 (by kernel_rfl) rfl #[.string t1519, .string (rdOf ByteArray.empty t1510 x20_2)] rfl (by (try simp only [List.map_toArray, List.map_cons, List.map_nil]); first | done | rfl | (simp only [List.length_drop, List.length_take]; rfl)) ?_; (with_reducible refine (parts_Open.calls t1519 (rdOf ByteArray.empty t1510 x20_2) t1527 t1528 t1529 _ A34.out).mono ?_); rintro e w37 ⟨rfl, hb⟩; refine ⟨_, rfl, ?_⟩; have n0_ := Aside0.mk (Kd.R_below (by (with_reducible repeat (first | apply Kd.R_alloc | apply Kd.R_drewN | apply Kd.R_drew)); exact HO_12.out) hb); have n1_ := Aside0.mk (below_step (by repeat (first | (with_reducible first | exact HB.out | apply below_alloc | apply pw_below_drewN | apply below_drew1) | exact HB.out)) hb); clear HO_12; clear HB; have HO_12 := n0_; have HB := n1_; clear n0_ n1_; (try clear hb); (try clear hb2); (try clear hk); (try clear hi); have p1530 : 0 ≤ (x20_2 : Int) := of_decide_eq_true (by first | (with_reducible assumption) | assumption); have q1530 : x20_2 < (t1510.length : Int) := of_decide_eq_true (by first | (with_reducible assumption) | assumption); obtain ⟨ad1530, e1530, hx1530_0⟩ := Kd.at_string (Kd.R_reads' HO_12.out).2.2 x20_2 p1530 q1530; obtain rfl : ad1514 = ad1530 := (by injection e1530); replace p1530 := eq_true p1530; replace q1530 := eq_true q1530))
                                go_roundg k2
                                case measure => have := HJ21.out; have := HK2.out; omega
                                case rel => exact ⟨(wrap64 (x20_2 + 1)), (by first | rfl | (simp; done) | (simp [*]; done)), H', ⟨by have := HJ21.out; have := HK2.out; omega⟩, ⟨by (with_reducible repeat (first | apply Kd.R_alloc | apply Kd.R_drewN | apply Kd.R_drew)); exact HO_12.out⟩, ⟨by repeat (first | (with_reducible first | exact HB.out | apply below_alloc | apply pw_below_drewN | apply below_drew1) | exact HB.out)⟩⟩
                            · rw [if_neg c33] at H
                              exact absurd H (by simp)
                          · rw [if_neg c32] at H
                            have c32b0 : decide (x20_2 < (t1510.length : Int)) = false := decide_eq_false c32
                            clear c32
                            have H' := Aside0.mk H
                            clear H
                            go_wp2
                            go_loopg [24, 25] k2 (fun kq v24 v25 w' => ∃ (x24_3 : Int) (x25_3 : Int), v24 = .int .i64 x24_3 ∧ v25 = .int .i64 x25_3 ∧ Aside0 (gemotlaw2_PartsKeys.l1 kq a4 (rdOf ByteArray.empty t1510 t1513) t1524 x24_3 x25_3 = some r) ∧ Aside0 (kq ≤ k2) ∧ Aside0 (Below w.heap.size w w'))
                            case atStart => exact ⟨(0), (0), (by first | rfl | (simp; done) | (simp [*]; done)), (by first | rfl | (simp; done) | (simp [*]; done)), H', ⟨Nat.le_refl _⟩, ⟨by repeat (first | (with_reducible first | exact HB.out | apply below_alloc | apply pw_below_drewN | apply below_drew1) | exact HB.out)⟩⟩
                            case round =>
                              clear H'
                              try clear c1
                              try clear p1
                              try clear q1
                              try clear hx1
                              try clear c2
                              try clear p2
                              try clear c3
                              try clear p6
                              try clear c7
                              try clear c8
                              try clear c9
                              try clear c10
                              try clear c10b0
                              try clear c11
                              try clear c11b0
                              try clear c13
                              try clear c13b0
                              try clear c14
                              try clear c14b0
                              try clear p15
                              try clear q15
                              try clear hx15
                              try clear c16
                              try clear c16b0
                              try clear c17
                              try clear c17b0
                              try clear c28
                              try clear c30
                              try clear c30b0
                              try clear c30b1
                              try clear c31
                              try clear c32
                              try clear c32b0
                              try clear c33
                              try clear c33b0
                              try clear c35
                              try clear c35b0
                              try clear c35b1
                              try clear c35b2
                              try clear c36
                              try clear c37
                              try clear hx1514_0
                              try clear hx1516_0
                              try clear hx1518_0
                              try clear hx1526_0
                              try clear hx1530_0
                              try clear p1
                              try clear p15
                              try clear p1514
                              try clear p1516
                              try clear p1518
                              try clear p1526
                              try clear p1530
                              try clear p2
                              try clear p6
                              try clear q1
                              try clear q15
                              try clear q1514
                              try clear q1516
                              try clear q1518
                              try clear q1526
                              try clear q1530
                              obtain ⟨x24_3, x25_3, rfl, rfl, HA, HK3, HB⟩ := hrel
                              cases gk with
                              | zero => exact absurd HA.out (by simp [gemotlaw2_PartsKeys.l1])
                              | succ k3 =>
                                have H := HA.out
                                clear HA
                                simp only [gemotlaw2_PartsKeys.l1] at H
                                by_cases c38 : x25_3 ≤ 9
                                · rw [if_pos c38] at H
                                  have c38b0 : decide (x25_3 ≤ 9) = true := decide_eq_true c38
                                  clear c38
                                  replace H := Option.bind_eq_some_iff.mp H
                                  obtain ⟨⟨t1531, t1532⟩, A390, H⟩ := H
                                  replace H : (if t1532 = 0 then (if t1531.toList = (rdOf ByteArray.empty t1510 t1513).toList then ((gemotlaw2_pick.f a4 8).bind fun t1533 => (if x25_3 = (wrap64 (1 + t1533)) then (gemotlaw2_PartsKeys.l1 k3 a4 (rdOf ByteArray.empty t1510 t1513) t1524 (wrap64 (x24_3 + 1)) (wrap64 (x25_3 + 1))) else (none))) else (none)) else (gemotlaw2_PartsKeys.l1 k3 a4 (rdOf ByteArray.empty t1510 t1513) t1524 x24_3 (wrap64 (x25_3 + 1)))) = some r := H
                                  have A39 := Aside0.mk A390
                                  clear A390
                                  by_cases c40 : t1532 = 0
                                  · rw [if_pos c40] at H
                                    have c40b0 : (t1532 == 0) = true := beq_iff_eq.mpr c40
                                    have c40b1 : (t1532 != 0) = false := bne_eq_false_iff_eq.mpr c40
                                    clear c40
                                    by_cases c41 : t1531.toList = (rdOf ByteArray.empty t1510 t1513).toList
                                    · rw [if_pos c41] at H
                                      have c41b0 : (t1531.toList == (rdOf ByteArray.empty t1510 t1513).toList) = true := beq_iff_eq.mpr c41
                                      have c41b1 : (t1531.toList != (rdOf ByteArray.empty t1510 t1513).toList) = false := bne_eq_false_iff_eq.mpr c41
                                      clear c41
                                      replace H := Option.bind_eq_some_iff.mp H
                                      obtain ⟨t1533, A420, H⟩ := H
                                      replace H : (if x25_3 = (wrap64 (1 + t1533)) then (gemotlaw2_PartsKeys.l1 k3 a4 (rdOf ByteArray.empty t1510 t1513) t1524 (wrap64 (x24_3 + 1)) (wrap64 (x25_3 + 1))) else (none)) = some r := H
                                      have A42 := Aside0.mk A420
                                      clear A420
                                      by_cases c43 : x25_3 = (wrap64 (1 + t1533))
                                      · rw [if_pos c43] at H
                                        have c43b0 : (x25_3 == (wrap64 (1 + t1533))) = true := beq_iff_eq.mpr c43
                                        have c43b1 : (x25_3 != (wrap64 (1 + t1533))) = false := bne_eq_false_iff_eq.mpr c43
                                        clear c43
                                        have H' := Aside0.mk H
                                        clear H
                                        go_wp2_with (first | ((with_reducible refine gate_callee (f := 39) rfl ?_); refine goesL_ (some 110) rfl rfl Try.func39 (by kernel_rfl) rfl #[.string t1524, .int .i64 x25_3] rfl (by (try simp only [List.map_toArray, List.map_cons, List.map_nil]); first | done | rfl | (simp only [List.length_drop, List.length_take]; rfl)) ?_; (with_reducible refine (parts_Check.calls t1524 x25_3 t1531 t1532 _ A39.out).mono ?_); rintro e w44 ⟨rfl, hb⟩; refine ⟨_, rfl, ?_⟩; have n0_ := Aside0.mk (below_step (by repeat (first | (with_reducible first | exact HB.out | apply below_alloc | apply pw_below_drewN | apply below_drew1) | exact HB.out)) hb); clear HB; have HB := n0_; clear n0_; (try clear hb); (try clear hb2); (try clear hk); (try clear hi)) | (go_at_call 102; (with_reducible refine (gemotlaw2_pick.calls a4 8 t1533 _ A42.out).mono ?_); rintro e w' ⟨rfl, ⟨nd, rfl⟩⟩))
                                        go_roundg k3
                                        case measure => have := HJ21.out; have := HK2.out; have := HK3.out; omega
                                        case rel => exact ⟨(wrap64 (x24_3 + 1)), (wrap64 (x25_3 + 1)), (by first | rfl | (simp; done) | (simp [*]; done)), (by first | rfl | (simp; done) | (simp [*]; done)), H', ⟨by have := HJ21.out; have := HK2.out; have := HK3.out; omega⟩, ⟨by repeat (first | (with_reducible first | exact HB.out | apply below_alloc | apply pw_below_drewN | apply below_drew1) | exact HB.out)⟩⟩
                                      · rw [if_neg c43] at H
                                        exact absurd H (by simp)
                                    · rw [if_neg c41] at H
                                      exact absurd H (by simp)
                                  · rw [if_neg c40] at H
                                    have c40b0 : (t1532 == 0) = false := beq_eq_false_iff_ne.mpr c40
                                    have c40b1 : (t1532 != 0) = true := bne_iff_ne.mpr c40
                                    have H' := Aside0.mk H
                                    clear H
                                    go_wp2_with (first | ((with_reducible refine gate_callee (f := 39) rfl ?_); refine goesL_ (some 110) rfl rfl Try.func39 (by kernel_rfl) rfl #[.string t1524, .int .i64 x25_3] rfl (by (try simp only [List.map_toArray, List.map_cons, List.map_nil]); first | done | rfl | (simp only [List.length_drop, List.length_take]; rfl)) ?_; (with_reducible refine (parts_Check.calls t1524 x25_3 t1531 t1532 _ A39.out).mono ?_); rintro e w47 ⟨rfl, hb⟩; refine ⟨_, rfl, ?_⟩; have n0_ := Aside0.mk (below_step (by repeat (first | (with_reducible first | exact HB.out | apply below_alloc | apply pw_below_drewN | apply below_drew1) | exact HB.out)) hb); clear HB; have HB := n0_; clear n0_; (try clear hb); (try clear hb2); (try clear hk); (try clear hi)))
                                    go_roundg k3
                                    case measure => have := HJ21.out; have := HK2.out; have := HK3.out; omega
                                    case rel => exact ⟨(x24_3), (wrap64 (x25_3 + 1)), (by first | rfl | (simp; done) | (simp [*]; done)), (by first | rfl | (simp; done) | (simp [*]; done)), H', ⟨by have := HJ21.out; have := HK2.out; have := HK3.out; omega⟩, ⟨by repeat (first | (with_reducible first | exact HB.out | apply below_alloc | apply pw_below_drewN | apply below_drew1) | exact HB.out)⟩⟩
                                · rw [if_neg c38] at H
                                  have c38b0 : decide (x25_3 ≤ 9) = false := decide_eq_false c38
                                  clear c38
                                  obtain rfl := Option.some.inj H
                                  go_wp2
                                  go_ret
                                  exact ⟨by first | rfl | (simp [errW_none, errW_some] <;> rfl) | (simp [*, errW_none, errW_some] <;> rfl), by repeat (first | (with_reducible first | exact HB.out | apply below_alloc | apply pw_below_drewN | apply below_drew1) | exact HB.out)⟩
              · rw [if_neg c17] at H
                exact absurd H (by simp)
            · rw [if_neg c16] at H
              exact absurd H (by simp)
          · rw [if_neg c14] at H
            exact absurd H (by simp)
        · rw [if_neg c13] at H
          exact absurd H (by simp)
      · rw [if_neg c11] at H
        exact absurd H (by simp)
    · rw [if_neg c10] at H
      exact absurd H (by simp)
  · replace c7 := Bool.eq_false_iff.mpr c7
    subst c7
    have H1 : (none) = some r := by rw [if_neg (show ¬ (false = true) by decide)] at H; exact H
    exact absurd H1 (by simp)

end Go.Proofs.Ytpfpmjdifnoeoaa.F
