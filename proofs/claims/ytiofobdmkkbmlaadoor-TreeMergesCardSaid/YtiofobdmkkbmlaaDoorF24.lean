-- Laid by mk.py (a program of this session) over the seat's translation.
import Derived.Test.YtiofobdmkkbmlaaDoorF0
import Derived.Test.YtiofobdmkkbmlaaDoorB7
import Derived.Test.YtiofobdmkkbmlaaDoorF50
namespace Go.Proofs.YtiofobdmkkbmlaaDoor.F
open Go.RowKit Go.Proofs.YtiofobdmkkbmlaaDoorW.PrintWords Go.Proofs.YtiofobdmkkbmlaaDoorW.PrintLast Go.Proofs.YtiofobdmkkbmlaaDoorW.PrintMore
attribute [local go_sem] max2_int min2_int max_two min_two max_three min_three max_four min_four
set_option linter.unusedVariables false
set_option linter.unusedSimpArgs false

/-! ### gemotref13_Merge: function 24 -/
mutual
def gemotref13_Merge.j0 : Nat → ByteArray → ByteArray → Bool → Option (ByteArray × Int)
  | 0, _, _, _ => none
  | k + 1, x0, x1, x23 => if x23 = true then (some ((⟨#[]⟩ : ByteArray), 1)) else ((gemotref13_deep.f k x0).bind fun t1012 => ((gemotref13_deep.f k x1).bind fun t1013 => (if (wrap64 (t1012 - t1013)) = 0 then (gemotref13_Merge.j1 k x0 x1 (wrap64 ((x0.size : Int) - (x1.size : Int)))) else (gemotref13_Merge.j1 k x0 x1 (wrap64 (t1012 - t1013))))))
def gemotref13_Merge.j1 : Nat → ByteArray → ByteArray → Int → Option (ByteArray × Int)
  | 0, _, _, _ => none
  | k + 1, x0, x1, x6 => if x6 = 0 then ((gemotref13_Members.f k x1).bind fun t1014 => (if 0 < (t1014.length : Int) then ((gemotref13_Members.f k x0).bind fun t1018 => (if 0 < (t1018.length : Int) then (if (wrap64 ((rd t1014 0) - (rd t1018 0))) > 0 then (if 1 + x0.size ≤ 9223372036854775807 then (if ((⟨#[40]⟩ : ByteArray) ++ x0).size + x1.size ≤ 9223372036854775807 then (if (((⟨#[40]⟩ : ByteArray) ++ x0) ++ x1).size + 1 ≤ 9223372036854775807 then (some ((((⟨#[40]⟩ : ByteArray) ++ x0) ++ x1) ++ (⟨#[41]⟩ : ByteArray), 0)) else (none)) else (none)) else (none)) else (if 1 + x1.size ≤ 9223372036854775807 then (if ((⟨#[40]⟩ : ByteArray) ++ x1).size + x0.size ≤ 9223372036854775807 then (if (((⟨#[40]⟩ : ByteArray) ++ x1) ++ x0).size + 1 ≤ 9223372036854775807 then (some ((((⟨#[40]⟩ : ByteArray) ++ x1) ++ x0) ++ (⟨#[41]⟩ : ByteArray), 0)) else (none)) else (none)) else (none))) else (none))) else (none))) else (if x6 > 0 then (if 1 + x0.size ≤ 9223372036854775807 then (if ((⟨#[40]⟩ : ByteArray) ++ x0).size + x1.size ≤ 9223372036854775807 then (if (((⟨#[40]⟩ : ByteArray) ++ x0) ++ x1).size + 1 ≤ 9223372036854775807 then (some ((((⟨#[40]⟩ : ByteArray) ++ x0) ++ x1) ++ (⟨#[41]⟩ : ByteArray), 0)) else (none)) else (none)) else (none)) else (if 1 + x1.size ≤ 9223372036854775807 then (if ((⟨#[40]⟩ : ByteArray) ++ x1).size + x0.size ≤ 9223372036854775807 then (if (((⟨#[40]⟩ : ByteArray) ++ x1) ++ x0).size + 1 ≤ 9223372036854775807 then (some ((((⟨#[40]⟩ : ByteArray) ++ x1) ++ x0) ++ (⟨#[41]⟩ : ByteArray), 0)) else (none)) else (none)) else (none)))
end
def gemotref13_Merge.f (k : Nat) (a0 : ByteArray) (a1 : ByteArray) : Option (ByteArray × Int) := (gemotref13_Right.f k a0).bind fun t1001 => (if t1001 = true then ((gemotref13_Right.f k a1).bind fun t1002 => (if t1002 = true then ((gemotref13_digits.f k a0).bind fun t1003 => ((gemotref13_digits.f k a1).bind fun t1006 => ((gemotref10_Both.f k t1003 t1006).bind fun t1009 => (gemotref13_Merge.j0 k a0 a1 (decide ((t1009.length : Int) > 0)))))) else (gemotref13_Merge.j0 k a0 a1 true))) else (gemotref13_Merge.j0 k a0 a1 true))
theorem gemotref13_Merge.mono_l : ∀ k, (∀ y0 y1 y2, LeO (gemotref13_Merge.j0 k y0 y1 y2) (gemotref13_Merge.j0 (k + 1) y0 y1 y2)) ∧ (∀ y0 y1 y2, LeO (gemotref13_Merge.j1 k y0 y1 y2) (gemotref13_Merge.j1 (k + 1) y0 y1 y2))
  | 0 => ⟨fun _ _ _ r h => by simp [gemotref13_Merge.j0] at h, fun _ _ _ r h => by simp [gemotref13_Merge.j1] at h⟩
  | k + 1 => by
    obtain ⟨ih0, ih1⟩ := gemotref13_Merge.mono_l k; refine ⟨?_, ?_⟩
    · intro y0 y1 y2; unfold gemotref13_Merge.j0
      repeat' first
      | (with_reducible exact ih0 _ _ _)
      | (with_reducible exact ih1 _ _ _)
      | (with_reducible exact gemotref10_Both.mono _ _ _)
      | (with_reducible exact gemotref13_Members.mono _ _)
      | (with_reducible exact gemotref13_Right.mono _ _)
      | (with_reducible exact gemotref13_deep.mono _ _)
      | (with_reducible exact gemotref13_digits.mono _ _)
      | (with_reducible exact LeO.refl _)
      | (with_reducible exact LeO.none _)
      | (with_reducible refine LeO.ite ?_ ?_)
      | (with_reducible refine LeO.bind ?_ (fun _ => ?_))
      | exact ih0 _ _ _
      | exact ih1 _ _ _
      | exact gemotref10_Both.mono _ _ _
      | exact gemotref13_Members.mono _ _
      | exact gemotref13_Right.mono _ _
      | exact gemotref13_deep.mono _ _
      | exact gemotref13_digits.mono _ _
      | exact LeO.none _
      | refine LeO.ite ?_ ?_
      | refine LeO.bind ?_ (fun _ => ?_)
    · intro y0 y1 y2; unfold gemotref13_Merge.j1
      repeat' first
      | (with_reducible exact ih0 _ _ _)
      | (with_reducible exact ih1 _ _ _)
      | (with_reducible exact gemotref10_Both.mono _ _ _)
      | (with_reducible exact gemotref13_Members.mono _ _)
      | (with_reducible exact gemotref13_Right.mono _ _)
      | (with_reducible exact gemotref13_deep.mono _ _)
      | (with_reducible exact gemotref13_digits.mono _ _)
      | (with_reducible exact LeO.refl _)
      | (with_reducible exact LeO.none _)
      | (with_reducible refine LeO.ite ?_ ?_)
      | (with_reducible refine LeO.bind ?_ (fun _ => ?_))
      | exact ih0 _ _ _
      | exact ih1 _ _ _
      | exact gemotref10_Both.mono _ _ _
      | exact gemotref13_Members.mono _ _
      | exact gemotref13_Right.mono _ _
      | exact gemotref13_deep.mono _ _
      | exact gemotref13_digits.mono _ _
      | exact LeO.none _
      | refine LeO.ite ?_ ?_
      | refine LeO.bind ?_ (fun _ => ?_)
theorem gemotref13_Merge.mono : ∀ a0 a1 k, LeO (gemotref13_Merge.f k a0 a1) (gemotref13_Merge.f (k + 1) a0 a1) := by
  intro a0 a1 k; obtain ⟨ih0, ih1⟩ := gemotref13_Merge.mono_l k; unfold gemotref13_Merge.f
  repeat' first
      | (with_reducible exact ih0 _ _ _)
      | (with_reducible exact ih1 _ _ _)
      | (with_reducible exact gemotref10_Both.mono _ _ _)
      | (with_reducible exact gemotref13_Members.mono _ _)
      | (with_reducible exact gemotref13_Right.mono _ _)
      | (with_reducible exact gemotref13_deep.mono _ _)
      | (with_reducible exact gemotref13_digits.mono _ _)
      | (with_reducible exact LeO.refl _)
      | (with_reducible exact LeO.none _)
      | (with_reducible refine LeO.ite ?_ ?_)
      | (with_reducible refine LeO.bind ?_ (fun _ => ?_))
      | exact ih0 _ _ _
      | exact ih1 _ _ _
      | exact gemotref10_Both.mono _ _ _
      | exact gemotref13_Members.mono _ _
      | exact gemotref13_Right.mono _ _
      | exact gemotref13_deep.mono _ _
      | exact gemotref13_digits.mono _ _
      | exact LeO.none _
      | refine LeO.ite ?_ ?_
      | refine LeO.bind ?_ (fun _ => ?_)
def gemotref13_Merge.T7 : Bool × List (List Nat × List Nat) := (true, [([], []), ([0], [0]), ([1], [1]), ([2], [2]), ([], []), ([4, 1], [4]), ([5], [5]), ([6], [6]), ([3, 7], [3, 7]), ([8, 5, 0, 1, 2, 3, 4, 5, 6, 7, 8], [8])])
def gemotref13_Merge.B7 : List Nat := [0, 1, 3, 7, 0, 19, 51, 115, 255, 511]
theorem gemotref13_Merge.tab7 : rtab .any (opsOf Tryd.f24 7) = gemotref13_Merge.T7 := by kernel_rfl
theorem gemotref13_Merge.bits7 : waitsOk gemotref13_Merge.T7.2 gemotref13_Merge.B7 = true := by kernel_rfl
theorem wpAnyLast_more {P : Program} {ops : Array Oper} {Q : Exit → Act → World → Prop} {md : Region.Mode} {S S' : World → Prop} (himp : ∀ w, S' w → S w) : ∀ (fuel : Nat) (listed : Array Bool) (a : Act) (w : World), S' w → wpAnyLast P md ops Q S' [] fuel listed a w → wpAnyLast P md ops Q S [] fuel listed a w
  | 0, _, _, _, _, h => h
  | fuel + 1, _, _, _, hw, h => ⟨h.1, fun i hi => wpOp_mono (fun a' w' h' => ⟨fun _ _ => himp _ (h'.1 (by simp) hw), wpAnyLast_more himp fuel _ a' w' (h'.1 (by simp) hw) h'.2⟩) (h.2 i hi)⟩
set_option maxHeartbeats 8000000 in
set_option maxRecDepth 100000 in
theorem gemotref13_Merge.calls (k : Nat) (a0 : ByteArray) (a1 : ByteArray) (r1 : ByteArray) (r2 : Int) (w : World) (h : gemotref13_Merge.f k a0 a1 = some (r1, r2)) :
    Calls Tryd.prog 24 #[.string a0, .string a1] w fun e w' => e = .returned (.tuple #[.string r1, .int .i64 r2]) ∧ Below w.heap.size w w' := by
  have HB := Aside0.mk (Below.refl w.heap.size w)
  have H : ((gemotref13_Right.f k a0).bind fun t1001 => (if t1001 = true then ((gemotref13_Right.f k a1).bind fun t1002 => (if t1002 = true then ((gemotref13_digits.f k a0).bind fun t1003 => ((gemotref13_digits.f k a1).bind fun t1006 => ((gemotref10_Both.f k t1003 t1006).bind fun t1009 => (gemotref13_Merge.j0 k a0 a1 (decide ((t1009.length : Int) > 0)))))) else (gemotref13_Merge.j0 k a0 a1 true))) else (gemotref13_Merge.j0 k a0 a1 true))) = some (r1, r2) := h
  clear h; have HC3 := Aside0.mk H
  clear H; go_enter Tryd.func24, Tryd.ntmps24
  go_upto_region 1 with (fail)
  go_cut [23] (fun v23 wc => ∃ (kq : Nat) (x23_2 : Bool), v23 = .bool x23_2 ∧ Aside0 (gemotref13_Merge.j0 kq a0 a1 x23_2 = some (r1, r2)) ∧ Aside0 (kq ≤ k) ∧ Aside0 (Below w.heap.size w wc))
  case first =>
    have H := HC3.out; clear HC3; replace H := Option.bind_eq_some_iff.mp H
    obtain ⟨t1001, A40, H⟩ := H; replace H : (if t1001 = true then ((gemotref13_Right.f k a1).bind fun t1002 => (if t1002 = true then ((gemotref13_digits.f k a0).bind fun t1003 => ((gemotref13_digits.f k a1).bind fun t1006 => ((gemotref10_Both.f k t1003 t1006).bind fun t1009 => (gemotref13_Merge.j0 k a0 a1 (decide ((t1009.length : Int) > 0)))))) else (gemotref13_Merge.j0 k a0 a1 true))) else (gemotref13_Merge.j0 k a0 a1 true)) = some (r1, r2) := H
    have A4 := Aside0.mk A40
    clear A40; by_cases c5 : t1001 = true
    · subst c5; have H1 : ((gemotref13_Right.f k a1).bind fun t1002 => (if t1002 = true then ((gemotref13_digits.f k a0).bind fun t1003 => ((gemotref13_digits.f k a1).bind fun t1006 => ((gemotref10_Both.f k t1003 t1006).bind fun t1009 => (gemotref13_Merge.j0 k a0 a1 (decide ((t1009.length : Int) > 0)))))) else (gemotref13_Merge.j0 k a0 a1 true))) = some (r1, r2) := by rw [if_pos rfl] at H; exact H
      clear H; have H := H1; clear H1; replace H := Option.bind_eq_some_iff.mp H
      obtain ⟨t1002, A60, H⟩ := H; replace H : (if t1002 = true then ((gemotref13_digits.f k a0).bind fun t1003 => ((gemotref13_digits.f k a1).bind fun t1006 => ((gemotref10_Both.f k t1003 t1006).bind fun t1009 => (gemotref13_Merge.j0 k a0 a1 (decide ((t1009.length : Int) > 0)))))) else (gemotref13_Merge.j0 k a0 a1 true)) = some (r1, r2) := H
      have A6 := Aside0.mk A60
      clear A60; by_cases c7 : t1002 = true
      · subst c7; have H1 : ((gemotref13_digits.f k a0).bind fun t1003 => ((gemotref13_digits.f k a1).bind fun t1006 => ((gemotref10_Both.f k t1003 t1006).bind fun t1009 => (gemotref13_Merge.j0 k a0 a1 (decide ((t1009.length : Int) > 0)))))) = some (r1, r2) := by rw [if_pos rfl] at H; exact H
        clear H; have H := H1; clear H1; replace H := Option.bind_eq_some_iff.mp H
        obtain ⟨t1003, A80, H⟩ := H; replace H : ((gemotref13_digits.f k a1).bind fun t1006 => ((gemotref10_Both.f k t1003 t1006).bind fun t1009 => (gemotref13_Merge.j0 k a0 a1 (decide ((t1009.length : Int) > 0))))) = some (r1, r2) := H
        have A8 := Aside0.mk A80
        clear A80; replace H := Option.bind_eq_some_iff.mp H
        obtain ⟨t1006, A90, H⟩ := H; replace H : ((gemotref10_Both.f k t1003 t1006).bind fun t1009 => (gemotref13_Merge.j0 k a0 a1 (decide ((t1009.length : Int) > 0)))) = some (r1, r2) := H
        have A9 := Aside0.mk A90
        clear A90; replace H := Option.bind_eq_some_iff.mp H
        obtain ⟨t1009, A100, H⟩ := H; replace H : (gemotref13_Merge.j0 k a0 a1 (decide ((t1009.length : Int) > 0))) = some (r1, r2) := H
        have A10 := Aside0.mk A100
        clear A100; have H' := Aside0.mk H
        clear H; go_wp2_with (first | ((with_reducible refine gate_callee (f := 17) rfl ?_); refine goesL_ (some 8) rfl rfl Tryd.func17 (by kernel_rfl) rfl #[.string a0] rfl (by simp only [List.map_toArray, List.map_cons, List.map_nil] <;> rfl) ?_; (with_reducible refine (gemotref13_Right.calls k a0 true _ A4.out).mono ?_); rintro e w11 ⟨rfl, hb⟩; refine ⟨_, rfl, ?_⟩; have n0_ := Aside0.mk (below_step (by repeat with_reducible first | exact HB.out | apply below_alloc | apply pw_below_drewN | apply below_drew1) hb); clear HB; have HB := n0_; clear n0_; (try clear hb)) | (go_at_call 17; (with_reducible refine (gemotref13_Right.calls k a1 true _ A6.out).mono ?_); rintro e w12 ⟨rfl, hb⟩; have n0_ := Aside0.mk (below_step (by repeat with_reducible first | exact HB.out | apply below_alloc | apply pw_below_drewN | apply below_drew1) hb); clear HB; have HB := n0_; clear n0_; (try clear hb)) | (go_at_call 39; (with_reducible refine (gemotref13_digits.calls k a0 t1003 _ A8.out).mono ?_); rintro e w13 ⟨v1004, rfl, ho0, hb⟩; have n0_ := Aside0.mk (Kd.R_lower ho0 (below_size (by repeat with_reducible first | exact HB.out | apply below_alloc | apply pw_below_drewN | apply below_drew1))); have n1_ := Aside0.mk (below_step (by repeat with_reducible first | exact HB.out | apply below_alloc | apply pw_below_drewN | apply below_drew1) hb); clear HB; have HO1005 := n0_; have HB := n1_; clear n0_ n1_; (try clear hb); (try clear ho0)) | (go_at_call 39; (with_reducible refine (gemotref13_digits.calls k a1 t1006 _ A9.out).mono ?_); rintro e w14 ⟨v1007, rfl, ho0, hb⟩; have n0_ := Aside0.mk (Kd.R_elder' (by (with_reducible repeat (first | apply Kd.R_alloc | apply Kd.R_drewN | apply Kd.R_drew)); exact HO1005.out) (Kd.R_base ho0) hb); have n1_ := Aside0.mk (Kd.R_lower (Kd.R_new' ho0 (Kd.R_lt (by (with_reducible repeat (first | apply Kd.R_alloc | apply Kd.R_drewN | apply Kd.R_drew)); exact HO1005.out))) (below_size (by repeat with_reducible first | exact HB.out | apply below_alloc | apply pw_below_drewN | apply below_drew1))); have n2_ := Aside0.mk (below_step (by repeat with_reducible first | exact HB.out | apply below_alloc | apply pw_below_drewN | apply below_drew1) hb); clear HO1005; clear HB; have HO1005 := n0_; have HO1008 := n1_; have HB := n2_; clear n0_ n1_ n2_; (try clear hb); (try clear ho0); obtain ⟨Ao15, co15, eo15⟩ := Kd.R_slice HO1005.out; subst eo15; obtain ⟨Ao16, co16, eo16⟩ := Kd.R_slice HO1008.out; subst eo16) | (go_at_call 50; (with_reducible refine (gemotref10_Both.calls k _ _ t1003 _ _ t1006 t1009 _ ?side1 ?side2 ?side3 ?side4 A10.out).mono ?_); (case side1 => repeat (first | exact (Kd.R_reads' HO1005.out).2.2 | (with_reducible refine Kd.C_alloc ?_ _) | (with_reducible refine Kd.C_drewN ?_ _) | (with_reducible refine Kd.C_drew ?_))); (case side2 => exact (Kd.R_reads' HO1005.out).2.1); (case side3 => repeat (first | exact (Kd.R_reads' HO1008.out).2.2 | (with_reducible refine Kd.C_alloc ?_ _) | (with_reducible refine Kd.C_drewN ?_ _) | (with_reducible refine Kd.C_drew ?_))); (case side4 => exact (Kd.R_reads' HO1008.out).2.1); rintro e w17 ⟨v1010, rfl, ho0, hb⟩; have n0_ := Aside0.mk (Kd.R_elder' (by (with_reducible repeat (first | apply Kd.R_alloc | apply Kd.R_drewN | apply Kd.R_drew)); exact HO1005.out) (Kd.R_base ho0) hb); have n1_ := Aside0.mk (Kd.R_elder' (by (with_reducible repeat (first | apply Kd.R_alloc | apply Kd.R_drewN | apply Kd.R_drew)); exact HO1008.out) (Kd.R_base ho0) hb); have n2_ := Aside0.mk (Kd.R_lower (Kd.R_new' (Kd.R_new' ho0 (Kd.R_lt (by (with_reducible repeat (first | apply Kd.R_alloc | apply Kd.R_drewN | apply Kd.R_drew)); exact HO1005.out))) (Kd.R_lt (by (with_reducible repeat (first | apply Kd.R_alloc | apply Kd.R_drewN | apply Kd.R_drew)); exact HO1008.out))) (below_size (by repeat with_reducible first | exact HB.out | apply below_alloc | apply pw_below_drewN | apply below_drew1))); have n3_ := Aside0.mk (below_step (by repeat with_reducible first | exact HB.out | apply below_alloc | apply pw_below_drewN | apply below_drew1) hb); clear HO1005; clear HO1008; clear HB; have HO1005 := n0_; have HO1008 := n1_; have HO1011 := n2_; have HB := n3_; clear n0_ n1_ n2_ n3_; (try clear hb); (try clear ho0); obtain ⟨Ao18, co18, eo18⟩ := Kd.R_slice HO1011.out; subst eo18))
        go_meet
        case rel => exact ⟨_, (decide ((t1009.length : Int) > 0)), (by first | rfl | (simp; done) | (simp [*]; done)), H', ⟨by first | omega | exact Nat.le_refl _⟩, ⟨by repeat (first | (with_reducible first | exact HB.out | apply below_alloc | apply pw_below_drewN | apply below_drew1) | exact HB.out)⟩⟩
      · replace c7 := Bool.eq_false_iff.mpr c7
        subst c7; have H1 : (gemotref13_Merge.j0 k a0 a1 true) = some (r1, r2) := by rw [if_neg (show ¬ (false = true) by decide)] at H; exact H
        clear H; have H := H1; clear H1; have H' := Aside0.mk H
        clear H; go_wp2_with (first | ((with_reducible refine gate_callee (f := 17) rfl ?_); refine goesL_ (some 8) rfl rfl Tryd.func17 (by kernel_rfl) rfl #[.string a0] rfl (by simp only [List.map_toArray, List.map_cons, List.map_nil] <;> rfl) ?_; (with_reducible refine (gemotref13_Right.calls k a0 true _ A4.out).mono ?_); rintro e w19 ⟨rfl, hb⟩; refine ⟨_, rfl, ?_⟩; have n0_ := Aside0.mk (below_step (by repeat with_reducible first | exact HB.out | apply below_alloc | apply pw_below_drewN | apply below_drew1) hb); clear HB; have HB := n0_; clear n0_; (try clear hb)) | (go_at_call 17; (with_reducible refine (gemotref13_Right.calls k a1 false _ A6.out).mono ?_); rintro e w20 ⟨rfl, hb⟩; have n0_ := Aside0.mk (below_step (by repeat with_reducible first | exact HB.out | apply below_alloc | apply pw_below_drewN | apply below_drew1) hb); clear HB; have HB := n0_; clear n0_; (try clear hb)))
        go_meet
        case rel => exact ⟨_, (true), (by first | rfl | (simp; done) | (simp [*]; done)), H', ⟨by first | omega | exact Nat.le_refl _⟩, ⟨by repeat (first | (with_reducible first | exact HB.out | apply below_alloc | apply pw_below_drewN | apply below_drew1) | exact HB.out)⟩⟩
    · replace c5 := Bool.eq_false_iff.mpr c5
      subst c5; have H1 : (gemotref13_Merge.j0 k a0 a1 true) = some (r1, r2) := by rw [if_neg (show ¬ (false = true) by decide)] at H; exact H
      clear H; have H := H1; clear H1; have H' := Aside0.mk H
      clear H; go_wp2_with (first | ((with_reducible refine gate_callee (f := 17) rfl ?_); refine goesL_ (some 8) rfl rfl Tryd.func17 (by kernel_rfl) rfl #[.string a0] rfl (by simp only [List.map_toArray, List.map_cons, List.map_nil] <;> rfl) ?_; (with_reducible refine (gemotref13_Right.calls k a0 false _ A4.out).mono ?_); rintro e w21 ⟨rfl, hb⟩; refine ⟨_, rfl, ?_⟩; have n0_ := Aside0.mk (below_step (by repeat with_reducible first | exact HB.out | apply below_alloc | apply pw_below_drewN | apply below_drew1) hb); clear HB; have HB := n0_; clear n0_; (try clear hb)))
      go_meet
      case rel => exact ⟨_, (true), (by first | rfl | (simp; done) | (simp [*]; done)), H', ⟨by first | omega | exact Nat.le_refl _⟩, ⟨by repeat (first | (with_reducible first | exact HB.out | apply below_alloc | apply pw_below_drewN | apply below_drew1) | exact HB.out)⟩⟩
  case rest =>
    clear HC3; try clear c1
    try clear c2
    try clear p2
    try clear c5
    try clear c7
    try clear c17
    obtain ⟨kq, x23_2, rfl, HA, HJ2, HB⟩ := hcut; cases kq with
    | zero => exact absurd HA.out (by simp [gemotref13_Merge.j0])
    | succ kj2 =>
      have H := HA.out; clear HA; simp only [gemotref13_Merge.j0] at H; by_cases c22 : x23_2 = true
      · subst c22; have H1 : (some ((⟨#[]⟩ : ByteArray), 1)) = some (r1, r2) := by rw [if_pos rfl] at H; exact H
        clear H; have H := H1; clear H1; simp only [Option.some.injEq, Prod.mk.injEq] at H; obtain ⟨rfl, rfl⟩ := H; go_wp2; go_ret2
        exact ⟨by first | rfl | (simp [errW_none, errW_some] <;> rfl) | (simp [*, errW_none, errW_some] <;> rfl), by repeat (first | (with_reducible first | exact HB.out | apply below_alloc | apply pw_below_drewN | apply below_drew1) | exact HB.out)⟩
      · replace c22 := Bool.eq_false_iff.mpr c22
        subst c22; have H1 : ((gemotref13_deep.f kj2 a0).bind fun t1012 => ((gemotref13_deep.f kj2 a1).bind fun t1013 => (if (wrap64 (t1012 - t1013)) = 0 then (gemotref13_Merge.j1 kj2 a0 a1 (wrap64 ((a0.size : Int) - (a1.size : Int)))) else (gemotref13_Merge.j1 kj2 a0 a1 (wrap64 (t1012 - t1013)))))) = some (r1, r2) := by rw [if_neg (show ¬ (false = true) by decide)] at H; exact H
        clear H; have H := H1; clear H1; replace H := Option.bind_eq_some_iff.mp H
        obtain ⟨t1012, A230, H⟩ := H; replace H : ((gemotref13_deep.f kj2 a1).bind fun t1013 => (if (wrap64 (t1012 - t1013)) = 0 then (gemotref13_Merge.j1 kj2 a0 a1 (wrap64 ((a0.size : Int) - (a1.size : Int)))) else (gemotref13_Merge.j1 kj2 a0 a1 (wrap64 (t1012 - t1013))))) = some (r1, r2) := H
        have A23 := Aside0.mk A230
        clear A230; replace H := Option.bind_eq_some_iff.mp H
        obtain ⟨t1013, A240, H⟩ := H; replace H : (if (wrap64 (t1012 - t1013)) = 0 then (gemotref13_Merge.j1 kj2 a0 a1 (wrap64 ((a0.size : Int) - (a1.size : Int)))) else (gemotref13_Merge.j1 kj2 a0 a1 (wrap64 (t1012 - t1013)))) = some (r1, r2) := H
        have A24 := Aside0.mk A240
        clear A240; have HC25 := Aside0.mk H
        clear H; go_upto_if 30 with (first | ((with_reducible refine gate_callee (f := 47) rfl ?_); refine goesL_ (some 25) rfl rfl Tryd.func47 (by kernel_rfl) rfl #[.string a0] rfl (by simp only [List.map_toArray, List.map_cons, List.map_nil] <;> rfl) ?_; (with_reducible refine (gemotref13_deep.calls kj2 a0 t1012 _ A23.out).mono ?_); rintro e w26 ⟨rfl, hb⟩; refine ⟨_, rfl, ?_⟩; have n0_ := Aside0.mk (below_step (by repeat with_reducible first | exact HB.out | apply below_alloc | apply pw_below_drewN | apply below_drew1) hb); clear HB; have HB := n0_; clear n0_; (try clear hb)) | ((with_reducible refine gate_callee (f := 47) rfl ?_); refine goesL_ (some 27) rfl rfl Tryd.func47 (by kernel_rfl) rfl #[.string a1] rfl (by simp only [List.map_toArray, List.map_cons, List.map_nil] <;> rfl) ?_; (with_reducible refine (gemotref13_deep.calls kj2 a1 t1013 _ A24.out).mono ?_); rintro e w27 ⟨rfl, hb⟩; refine ⟨_, rfl, ?_⟩; have n0_ := Aside0.mk (below_step (by repeat with_reducible first | exact HB.out | apply below_alloc | apply pw_below_drewN | apply below_drew1) hb); clear HB; have HB := n0_; clear n0_; (try clear hb)))
        (try simp only [Act.put, List.setIfInBounds_toArray, List.set_cons_zero, List.set_cons_succ]); go_cut [6] (fun v6 wc => ∃ (kq : Nat) (x6_24 : Int), v6 = .int .i64 x6_24 ∧ Aside0 (gemotref13_Merge.j1 kq a0 a1 x6_24 = some (r1, r2)) ∧ Aside0 (kq ≤ kj2) ∧ Aside0 (Below w.heap.size w wc))
        case first =>
          have H := HC25.out; clear HC25; by_cases c28 : (wrap64 (t1012 - t1013)) = 0
          · rw [if_pos c28] at H
            have c28b0 : ((wrap64 (t1012 - t1013)) == 0) = true := beq_iff_eq.mpr c28
            have c28b1 : ((wrap64 (t1012 - t1013)) != 0) = false := bne_eq_false_iff_eq.mpr c28
            clear c28; (first | rw [c28b0] | (simp only [i64_w, i32_w]; rw [c28b0]) | skip); have H' := Aside0.mk H
            clear H; go_wp2; go_meet
            case rel => exact ⟨_, (wrap64 ((a0.size : Int) - (a1.size : Int))), (by first | rfl | (simp; done) | (simp [*]; done)), H', ⟨by have := HJ2.out; first | omega | exact Nat.le_refl _⟩, ⟨by repeat (first | (with_reducible first | exact HB.out | apply below_alloc | apply pw_below_drewN | apply below_drew1) | exact HB.out)⟩⟩
          · rw [if_neg c28] at H
            have c28b0 : ((wrap64 (t1012 - t1013)) == 0) = false := beq_eq_false_iff_ne.mpr c28
            have c28b1 : ((wrap64 (t1012 - t1013)) != 0) = true := bne_iff_ne.mpr c28
            (first | rw [c28b0] | (simp only [i64_w, i32_w]; rw [c28b0]) | skip); have H' := Aside0.mk H
            clear H; go_wp2; go_meet
            case rel => exact ⟨_, (wrap64 (t1012 - t1013)), (by first | rfl | (simp; done) | (simp [*]; done)), H', ⟨by have := HJ2.out; first | omega | exact Nat.le_refl _⟩, ⟨by repeat (first | (with_reducible first | exact HB.out | apply below_alloc | apply pw_below_drewN | apply below_drew1) | exact HB.out)⟩⟩
        case rest =>
          clear HC25; try clear c1
          try clear c2
          try clear p2
          try clear c4
          try clear c5
          try clear p6
          try clear c7
          try clear c17
          try clear c22
          try clear c24
          try clear c28
          try clear c28b0
          try clear c28b1
          try clear p2
          obtain ⟨kq, x6_24, rfl, HA, HJ24, HB⟩ := hcut; cases kq with
          | zero => exact absurd HA.out (by simp [gemotref13_Merge.j1])
          | succ kj24 =>
            have H := HA.out; clear HA; simp only [gemotref13_Merge.j1] at H; by_cases c29 : x6_24 = 0
            · rw [if_pos c29] at H
              have c29b0 : (x6_24 == 0) = true := beq_iff_eq.mpr c29
              have c29b1 : (x6_24 != 0) = false := bne_eq_false_iff_eq.mpr c29
              clear c29; replace H := Option.bind_eq_some_iff.mp H
              obtain ⟨t1014, A300, H⟩ := H; replace H : (if 0 < (t1014.length : Int) then ((gemotref13_Members.f kj24 a0).bind fun t1018 => (if 0 < (t1018.length : Int) then (if (wrap64 ((rd t1014 0) - (rd t1018 0))) > 0 then (if 1 + a0.size ≤ 9223372036854775807 then (if ((⟨#[40]⟩ : ByteArray) ++ a0).size + a1.size ≤ 9223372036854775807 then (if (((⟨#[40]⟩ : ByteArray) ++ a0) ++ a1).size + 1 ≤ 9223372036854775807 then (some ((((⟨#[40]⟩ : ByteArray) ++ a0) ++ a1) ++ (⟨#[41]⟩ : ByteArray), 0)) else (none)) else (none)) else (none)) else (if 1 + a1.size ≤ 9223372036854775807 then (if ((⟨#[40]⟩ : ByteArray) ++ a1).size + a0.size ≤ 9223372036854775807 then (if (((⟨#[40]⟩ : ByteArray) ++ a1) ++ a0).size + 1 ≤ 9223372036854775807 then (some ((((⟨#[40]⟩ : ByteArray) ++ a1) ++ a0) ++ (⟨#[41]⟩ : ByteArray), 0)) else (none)) else (none)) else (none))) else (none))) else (none)) = some (r1, r2) := H
              have A30 := Aside0.mk A300
              clear A300; by_cases c31 : 0 < (t1014.length : Int)
              · rw [if_pos c31] at H
                have c31b0 : decide (0 < (t1014.length : Int)) = true := decide_eq_true c31
                have c31b1 : decide (0 < t1014.length) = true := decide_eq_true (by omega)
                clear c31; replace H := Option.bind_eq_some_iff.mp H
                obtain ⟨t1018, A320, H⟩ := H; replace H : (if 0 < (t1018.length : Int) then (if (wrap64 ((rd t1014 0) - (rd t1018 0))) > 0 then (if 1 + a0.size ≤ 9223372036854775807 then (if ((⟨#[40]⟩ : ByteArray) ++ a0).size + a1.size ≤ 9223372036854775807 then (if (((⟨#[40]⟩ : ByteArray) ++ a0) ++ a1).size + 1 ≤ 9223372036854775807 then (some ((((⟨#[40]⟩ : ByteArray) ++ a0) ++ a1) ++ (⟨#[41]⟩ : ByteArray), 0)) else (none)) else (none)) else (none)) else (if 1 + a1.size ≤ 9223372036854775807 then (if ((⟨#[40]⟩ : ByteArray) ++ a1).size + a0.size ≤ 9223372036854775807 then (if (((⟨#[40]⟩ : ByteArray) ++ a1) ++ a0).size + 1 ≤ 9223372036854775807 then (some ((((⟨#[40]⟩ : ByteArray) ++ a1) ++ a0) ++ (⟨#[41]⟩ : ByteArray), 0)) else (none)) else (none)) else (none))) else (none)) = some (r1, r2) := H
                have A32 := Aside0.mk A320
                clear A320; by_cases c33 : 0 < (t1018.length : Int)
                · rw [if_pos c33] at H
                  have c33b0 : decide (0 < (t1018.length : Int)) = true := decide_eq_true c33
                  have c33b1 : decide (0 < t1018.length) = true := decide_eq_true (by omega)
                  clear c33; by_cases c34 : (wrap64 ((rd t1014 0) - (rd t1018 0))) > 0
                  · rw [if_pos c34] at H
                    have c34b0 : decide (0 < (wrap64 ((rd t1014 0) - (rd t1018 0)))) = true := decide_eq_true c34
                    clear c34; by_cases c35 : 1 + a0.size ≤ 9223372036854775807
                    · rw [if_pos c35] at H
                      have c35b0 := eq_true c35
                      have c35b1 : decide (1 + a0.size ≤ 9223372036854775807) = true := decide_eq_true c35
                      try have c35b2 : (9223372036854775807 < 1 + a0.size) = False := eq_false (Nat.not_lt.2 c35)
                      by_cases c36 : ((⟨#[40]⟩ : ByteArray) ++ a0).size + a1.size ≤ 9223372036854775807
                      · rw [if_pos c36] at H
                        have c36b0 := eq_true c36
                        have c36b1 : decide (((⟨#[40]⟩ : ByteArray) ++ a0).size + a1.size ≤ 9223372036854775807) = true := decide_eq_true c36
                        try have c36b2 : (9223372036854775807 < ((⟨#[40]⟩ : ByteArray) ++ a0).size + a1.size) = False := eq_false (Nat.not_lt.2 c36)
                        try have c36b9 : (9223372036854775807 < 1 + a0.size + a1.size) = False := eq_false (Nat.not_lt.2 (by have h_ := c36; simp only [ByteArray.size_append] at h_; exact h_))
                        by_cases c37 : (((⟨#[40]⟩ : ByteArray) ++ a0) ++ a1).size + 1 ≤ 9223372036854775807
                        · rw [if_pos c37] at H
                          have c37b0 := eq_true c37
                          have c37b1 : decide ((((⟨#[40]⟩ : ByteArray) ++ a0) ++ a1).size + 1 ≤ 9223372036854775807) = true := decide_eq_true c37
                          try have c37b2 : (9223372036854775807 < (((⟨#[40]⟩ : ByteArray) ++ a0) ++ a1).size + 1) = False := eq_false (Nat.not_lt.2 c37)
                          try have c37b9 : (9223372036854775807 < 1 + a0.size + a1.size + 1) = False := eq_false (Nat.not_lt.2 (by have h_ := c37; simp only [ByteArray.size_append] at h_; exact h_))
                          simp only [Option.some.injEq, Prod.mk.injEq] at H; obtain ⟨rfl, rfl⟩ := H; try go_wp2
                          have n0_ := Aside0.mk (below_drew1 HB.out)
                          clear HB; have HB := n0_; clear n0_; refine start_ (n := 10) (S := fun _ => True) (ds := []) #[false, false, false, false, false, false, false, false, false, false] (by kernel_rfl) rfl rfl trivial (fun hHeld => ?_); refine with_tabW gemotref13_Merge.tab7 gemotref13_Merge.bits7 (fun HT_ HW_ => ?_)
                          generalize wc.drew = w38 at HB hHeld ⊢
                          refine pure_ (i := 0) (N := some 38) (v := ?_) (a' := ?_) #[true, false, false, false, false, false, false, false, false, false] rfl rfl (any_of HT_.out (by kernel_rfl)) (fun _ _ _ h => h) (Or.inl ⟨by rfl, ?_⟩) ?_ ?_
                          rotate_left
                          · intro w'; go_simp; with_reducible rfl
                          rotate_left; · (simp only [Act.put, List.setIfInBounds_toArray, List.set_cons_zero, List.set_cons_succ, i64_w, i32_w]; rfl)
                          refine pure_ (i := 4) (N := some 42) (v := ?_) (a' := ?_) #[true, false, false, false, true, false, false, false, false, false] rfl rfl (any_of HT_.out (by kernel_rfl)) (fun _ _ _ h => h) (Or.inl ⟨by rfl, ?_⟩) ?_ ?_
                          rotate_left
                          · intro w'; go_simp; with_reducible rfl
                          rotate_left; · (simp only [Act.put, List.setIfInBounds_toArray, List.set_cons_zero, List.set_cons_succ, i64_w, i32_w]; rfl)
                          refine one_ (i := 1) (N := some 39) #[true, true, false, false, true, false, false, false, false, false] rfl rfl (one_of HT_.out (by kernel_rfl)) (by decide) (fun K hK => ?_)
                          refine goes_ Tryd.func20 (by kernel_rfl) rfl #[.string a1] (by rfl) rfl rfl (by (try simp only [List.map_toArray, List.map_cons, List.map_nil]); first | done | rfl | (simp only [List.length_drop, List.length_take]; rfl)) ?_
                          with_reducible refine (gemotref13_Members.calls kj24 a1 t1014 _ A30.out).mono ?_
                          rintro e w39 ⟨v1015, rfl, ho0, hb⟩; refine ⟨_, rfl, ?_⟩
                          have n0_ := Aside0.mk (Kd.R_lower ho0 (below_size (by repeat (first | (with_reducible first | exact HB.out | apply below_alloc | apply pw_below_drewN | apply below_drew1) | exact HB.out))))
                          have n1_ := Aside0.mk (below_step (by repeat (first | (with_reducible first | exact HB.out | apply below_alloc | apply pw_below_drewN | apply below_drew1) | exact HB.out)) hb)
                          clear HB; have HO1016 := n0_; have HB := n1_; clear n0_ n1_; (try clear hb); (try clear hb2); (try clear hk); (try clear hi); (try clear ho0); obtain ⟨Ao40, co40, eo40⟩ := Kd.R_slice HO1016.out; (first | subst eo40 | (injection eo40 with f1_ f2_ f3_; have f4_ := f1_.symm; have f5_ := f3_.symm; clear f1_ f2_ f3_; subst f4_; subst f5_)); have p1017 : 0 ≤ (0 : Int) := (by omega)
                          have q1017 : 0 < (t1014.length : Int) := of_decide_eq_true (by first | (with_reducible assumption) | assumption)
                          obtain ⟨ad1017, e1017, hx1017_0⟩ := Kd.at_int (Kd.R_reads' HO1016.out).2.2 0 p1017 q1017
                          cases e1017
                          have qi1017 : (0 < t1014.length) = True := eq_true (by omega)
                          (try rw [show ((0 : Int)).toNat = 0 from rfl] at hx1017_0); (try rw [Addr.add_zero'] at hx1017_0); replace p1017 := eq_true p1017
                          replace q1017 := eq_true q1017
                          refine hK.out _ _ trivial (fun _ => ?_)
                          refine wpAnyLast_more (S' := fun w' => w'.cell? ad1017 = some (.int .i64 (rd t1014 0))) (fun _ _ => trivial) _ _ _ _ hx1017_0 ?_
                          have hHeld := hx1017_0; clear hK K; refine norm_ (a' := ?_) ?_ ?_
                          rotate_left
                          · show Act.put _ (some 39) _ = _
                            simp only [Act.put, List.setIfInBounds_toArray, List.set_cons_zero, List.set_cons_succ, i64_w, i32_w]; rfl
                          refine pure_ (i := 2) (N := some 40) (v := ?_) (a' := ?_) #[true, true, true, false, true, false, false, false, false, false] rfl rfl (any_of HT_.out (by kernel_rfl)) (fun _ _ _ h => h) (Or.inl ⟨by rfl, ?_⟩) ?_ ?_
                          rotate_left
                          · intro w'; go_simp; with_reducible rfl
                          rotate_left; · (simp only [Act.put, List.setIfInBounds_toArray, List.set_cons_zero, List.set_cons_succ, i64_w, i32_w]; rfl)
                          refine take_ (i := 3) (N := some 41) (v := ?_) (a' := ?_) #[true, true, true, true, true, false, false, false, false, false] rfl rfl (take_ofW HT_.out HW_.out (by kernel_rfl)) (fun _ _ _ h => h) (Or.inl ⟨by rfl, ?_⟩) hHeld ?_ ?_
                          rotate_left
                          · rintro w' s0; go_simp; with_reducible rfl
                          rotate_left; · (simp only [Act.put, List.setIfInBounds_toArray, List.set_cons_zero, List.set_cons_succ, i64_w, i32_w]; rfl)
                          refine one_ (i := 5) (N := some 43) #[true, true, true, true, true, true, false, false, false, false] rfl rfl (one_of HT_.out (by kernel_rfl)) (by decide) (fun K hK => ?_)
                          refine goes_ Tryd.func20 (by kernel_rfl) rfl #[.string a0] (by rfl) rfl rfl (by (try simp only [List.map_toArray, List.map_cons, List.map_nil]); first | done | rfl | (simp only [List.length_drop, List.length_take]; rfl)) ?_
                          with_reducible refine (gemotref13_Members.calls kj24 a0 t1018 _ A32.out).mono ?_
                          rintro e w41 ⟨v1019, rfl, ho0, hb⟩; have HS0_ := (hb.cell (World.block_lt_of_cell? _ _ hHeld)).trans hHeld
                          refine ⟨_, rfl, ?_⟩
                          have n0_ := Aside0.mk (Kd.R_elder' (by (with_reducible repeat (first | apply Kd.R_alloc | apply Kd.R_drewN | apply Kd.R_drew)); exact HO1016.out) (Kd.R_base ho0) hb)
                          have n1_ := Aside0.mk (Kd.R_lower (Kd.R_new' ho0 (Kd.R_lt (by (with_reducible repeat (first | apply Kd.R_alloc | apply Kd.R_drewN | apply Kd.R_drew)); exact HO1016.out))) (below_size (by repeat with_reducible first | exact HB.out | apply below_alloc | apply pw_below_drewN | apply below_drew1)))
                          have n2_ := Aside0.mk (below_step (by repeat (first | (with_reducible first | exact HB.out | apply below_alloc | apply pw_below_drewN | apply below_drew1) | exact HB.out)) hb)
                          clear HO1016; clear HB; have HO1016 := n0_; have HO1020 := n1_; have HB := n2_; clear n0_ n1_ n2_; (try clear hb); (try clear hb2); (try clear hk); (try clear hi); (try clear ho0); obtain ⟨Ao42, co42, eo42⟩ := Kd.R_slice HO1020.out; (first | subst eo42 | (injection eo42 with f1_ f2_ f3_; have f4_ := f1_.symm; have f5_ := f3_.symm; clear f1_ f2_ f3_; subst f4_; subst f5_)); have p1021 : 0 ≤ (0 : Int) := (by omega)
                          have q1021 : 0 < (t1018.length : Int) := of_decide_eq_true (by first | (with_reducible assumption) | assumption)
                          obtain ⟨ad1021, e1021, hx1021_0⟩ := Kd.at_int (Kd.R_reads' HO1020.out).2.2 0 p1021 q1021
                          cases e1021
                          have qi1021 : (0 < t1018.length) = True := eq_true (by omega)
                          (try rw [show ((0 : Int)).toNat = 0 from rfl] at hx1021_0); (try rw [Addr.add_zero'] at hx1021_0); replace p1021 := eq_true p1021
                          replace q1021 := eq_true q1021
                          refine hK.out _ _ HS0_ (fun _ => ?_)
                          refine wpAnyLast_more (S' := fun w' => w'.cell? ad1017 = some (.int .i64 (rd t1014 0)) ∧ w'.cell? ad1021 = some (.int .i64 (rd t1018 0))) (fun _ h_ => h_.1) _ _ _ _ ⟨HS0_, hx1021_0⟩ ?_
                          have hHeld := And.intro HS0_ hx1021_0
                          clear hK K; refine norm_ (a' := ?_) ?_ ?_
                          rotate_left
                          · show Act.put _ (some 43) _ = _
                            simp only [Act.put, List.setIfInBounds_toArray, List.set_cons_zero, List.set_cons_succ, i64_w, i32_w]; rfl
                          refine pure_ (i := 6) (N := some 44) (v := ?_) (a' := ?_) #[true, true, true, true, true, true, true, false, false, false] rfl rfl (any_of HT_.out (by kernel_rfl)) (fun _ _ _ h => h) (Or.inl ⟨by rfl, ?_⟩) ?_ ?_
                          rotate_left
                          · intro w'; go_simp; with_reducible rfl
                          rotate_left; · (simp only [Act.put, List.setIfInBounds_toArray, List.set_cons_zero, List.set_cons_succ, i64_w, i32_w]; rfl)
                          refine take_ (i := 7) (N := some 45) (v := ?_) (a' := ?_) #[true, true, true, true, true, true, true, true, false, false] rfl rfl (take_ofW HT_.out HW_.out (by kernel_rfl)) (fun _ _ _ h => h) (Or.inl ⟨by rfl, ?_⟩) hHeld ?_ ?_
                          rotate_left
                          · rintro w' ⟨s0, s1⟩; go_simp; with_reducible rfl
                          rotate_left; · (simp only [Act.put, List.setIfInBounds_toArray, List.set_cons_zero, List.set_cons_succ, i64_w, i32_w]; rfl)
                          refine pure_ (i := 8) (N := some 46) (v := ?_) (a' := ?_) #[true, true, true, true, true, true, true, true, true, false] rfl rfl (any_of HT_.out (by kernel_rfl)) (fun _ _ _ h => h) (Or.inl ⟨by rfl, ?_⟩) ?_ ?_
                          rotate_left
                          · intro w'; go_simp; with_reducible rfl
                          rotate_left; · (simp only [Act.put, List.setIfInBounds_toArray, List.set_cons_zero, List.set_cons_succ, i64_w, i32_w]; rfl)
                          refine pure_ (i := 9) (N := some 6) (v := ?_) (a' := ?_) #[true, true, true, true, true, true, true, true, true, true] rfl rfl (any_of HT_.out (by kernel_rfl)) (fun _ _ _ h => h) (Or.inl ⟨by rfl, ?_⟩) ?_ ?_
                          rotate_left
                          · intro w'; go_simp; with_reducible rfl
                          rotate_left; · (simp only [Act.put, List.setIfInBounds_toArray, List.set_cons_zero, List.set_cons_succ, i64_w, i32_w]; rfl)
                          refine done_ (done_of HT_.out (by kernel_rfl)) ?_
                          try go_wp2
                          go_ret2
                          exact ⟨by first | rfl | (simp [errW_none, errW_some] <;> rfl) | (simp [*, errW_none, errW_some] <;> rfl), by repeat (first | (with_reducible first | exact HB.out | apply below_alloc | apply pw_below_drewN | apply below_drew1) | exact HB.out)⟩
                        · rw [if_neg c37] at H
                          exact absurd H (by simp)
                      · rw [if_neg c36] at H
                        exact absurd H (by simp)
                    · rw [if_neg c35] at H
                      exact absurd H (by simp)
                  · rw [if_neg c34] at H
                    have c34b0 : decide (0 < (wrap64 ((rd t1014 0) - (rd t1018 0)))) = false := decide_eq_false c34
                    clear c34; by_cases c43 : 1 + a1.size ≤ 9223372036854775807
                    · rw [if_pos c43] at H
                      have c43b0 := eq_true c43
                      have c43b1 : decide (1 + a1.size ≤ 9223372036854775807) = true := decide_eq_true c43
                      try have c43b2 : (9223372036854775807 < 1 + a1.size) = False := eq_false (Nat.not_lt.2 c43)
                      by_cases c44 : ((⟨#[40]⟩ : ByteArray) ++ a1).size + a0.size ≤ 9223372036854775807
                      · rw [if_pos c44] at H
                        have c44b0 := eq_true c44
                        have c44b1 : decide (((⟨#[40]⟩ : ByteArray) ++ a1).size + a0.size ≤ 9223372036854775807) = true := decide_eq_true c44
                        try have c44b2 : (9223372036854775807 < ((⟨#[40]⟩ : ByteArray) ++ a1).size + a0.size) = False := eq_false (Nat.not_lt.2 c44)
                        try have c44b9 : (9223372036854775807 < 1 + a1.size + a0.size) = False := eq_false (Nat.not_lt.2 (by have h_ := c44; simp only [ByteArray.size_append] at h_; exact h_))
                        by_cases c45 : (((⟨#[40]⟩ : ByteArray) ++ a1) ++ a0).size + 1 ≤ 9223372036854775807
                        · rw [if_pos c45] at H
                          have c45b0 := eq_true c45
                          have c45b1 : decide ((((⟨#[40]⟩ : ByteArray) ++ a1) ++ a0).size + 1 ≤ 9223372036854775807) = true := decide_eq_true c45
                          try have c45b2 : (9223372036854775807 < (((⟨#[40]⟩ : ByteArray) ++ a1) ++ a0).size + 1) = False := eq_false (Nat.not_lt.2 c45)
                          try have c45b9 : (9223372036854775807 < 1 + a1.size + a0.size + 1) = False := eq_false (Nat.not_lt.2 (by have h_ := c45; simp only [ByteArray.size_append] at h_; exact h_))
                          simp only [Option.some.injEq, Prod.mk.injEq] at H; obtain ⟨rfl, rfl⟩ := H; try go_wp2
                          have n0_ := Aside0.mk (below_drew1 HB.out)
                          clear HB; have HB := n0_; clear n0_; refine start_ (n := 10) (S := fun _ => True) (ds := []) #[false, false, false, false, false, false, false, false, false, false] (by kernel_rfl) rfl rfl trivial (fun hHeld => ?_); refine with_tabW gemotref13_Merge.tab7 gemotref13_Merge.bits7 (fun HT_ HW_ => ?_)
                          generalize wc.drew = w46 at HB hHeld ⊢
                          refine pure_ (i := 0) (N := some 38) (v := ?_) (a' := ?_) #[true, false, false, false, false, false, false, false, false, false] rfl rfl (any_of HT_.out (by kernel_rfl)) (fun _ _ _ h => h) (Or.inl ⟨by rfl, ?_⟩) ?_ ?_
                          rotate_left
                          · intro w'; go_simp; with_reducible rfl
                          rotate_left; · (simp only [Act.put, List.setIfInBounds_toArray, List.set_cons_zero, List.set_cons_succ, i64_w, i32_w]; rfl)
                          refine pure_ (i := 4) (N := some 42) (v := ?_) (a' := ?_) #[true, false, false, false, true, false, false, false, false, false] rfl rfl (any_of HT_.out (by kernel_rfl)) (fun _ _ _ h => h) (Or.inl ⟨by rfl, ?_⟩) ?_ ?_
                          rotate_left
                          · intro w'; go_simp; with_reducible rfl
                          rotate_left; · (simp only [Act.put, List.setIfInBounds_toArray, List.set_cons_zero, List.set_cons_succ, i64_w, i32_w]; rfl)
                          refine one_ (i := 1) (N := some 39) #[true, true, false, false, true, false, false, false, false, false] rfl rfl (one_of HT_.out (by kernel_rfl)) (by decide) (fun K hK => ?_)
                          refine goes_ Tryd.func20 (by kernel_rfl) rfl #[.string a1] (by rfl) rfl rfl (by (try simp only [List.map_toArray, List.map_cons, List.map_nil]); first | done | rfl | (simp only [List.length_drop, List.length_take]; rfl)) ?_
                          with_reducible refine (gemotref13_Members.calls kj24 a1 t1014 _ A30.out).mono ?_
                          rintro e w47 ⟨v1015, rfl, ho0, hb⟩; refine ⟨_, rfl, ?_⟩
                          have n0_ := Aside0.mk (Kd.R_lower ho0 (below_size (by repeat (first | (with_reducible first | exact HB.out | apply below_alloc | apply pw_below_drewN | apply below_drew1) | exact HB.out))))
                          have n1_ := Aside0.mk (below_step (by repeat (first | (with_reducible first | exact HB.out | apply below_alloc | apply pw_below_drewN | apply below_drew1) | exact HB.out)) hb)
                          clear HB; have HO1016 := n0_; have HB := n1_; clear n0_ n1_; (try clear hb); (try clear hb2); (try clear hk); (try clear hi); (try clear ho0); obtain ⟨Ao48, co48, eo48⟩ := Kd.R_slice HO1016.out; (first | subst eo48 | (injection eo48 with f1_ f2_ f3_; have f4_ := f1_.symm; have f5_ := f3_.symm; clear f1_ f2_ f3_; subst f4_; subst f5_)); have p1017 : 0 ≤ (0 : Int) := (by omega)
                          have q1017 : 0 < (t1014.length : Int) := of_decide_eq_true (by first | (with_reducible assumption) | assumption)
                          obtain ⟨ad1017, e1017, hx1017_0⟩ := Kd.at_int (Kd.R_reads' HO1016.out).2.2 0 p1017 q1017
                          cases e1017
                          have qi1017 : (0 < t1014.length) = True := eq_true (by omega)
                          (try rw [show ((0 : Int)).toNat = 0 from rfl] at hx1017_0); (try rw [Addr.add_zero'] at hx1017_0); replace p1017 := eq_true p1017
                          replace q1017 := eq_true q1017
                          refine hK.out _ _ trivial (fun _ => ?_)
                          refine wpAnyLast_more (S' := fun w' => w'.cell? ad1017 = some (.int .i64 (rd t1014 0))) (fun _ _ => trivial) _ _ _ _ hx1017_0 ?_
                          have hHeld := hx1017_0; clear hK K; refine norm_ (a' := ?_) ?_ ?_
                          rotate_left
                          · show Act.put _ (some 39) _ = _
                            simp only [Act.put, List.setIfInBounds_toArray, List.set_cons_zero, List.set_cons_succ, i64_w, i32_w]; rfl
                          refine pure_ (i := 2) (N := some 40) (v := ?_) (a' := ?_) #[true, true, true, false, true, false, false, false, false, false] rfl rfl (any_of HT_.out (by kernel_rfl)) (fun _ _ _ h => h) (Or.inl ⟨by rfl, ?_⟩) ?_ ?_
                          rotate_left
                          · intro w'; go_simp; with_reducible rfl
                          rotate_left; · (simp only [Act.put, List.setIfInBounds_toArray, List.set_cons_zero, List.set_cons_succ, i64_w, i32_w]; rfl)
                          refine take_ (i := 3) (N := some 41) (v := ?_) (a' := ?_) #[true, true, true, true, true, false, false, false, false, false] rfl rfl (take_ofW HT_.out HW_.out (by kernel_rfl)) (fun _ _ _ h => h) (Or.inl ⟨by rfl, ?_⟩) hHeld ?_ ?_
                          rotate_left
                          · rintro w' s0; go_simp; with_reducible rfl
                          rotate_left; · (simp only [Act.put, List.setIfInBounds_toArray, List.set_cons_zero, List.set_cons_succ, i64_w, i32_w]; rfl)
                          refine one_ (i := 5) (N := some 43) #[true, true, true, true, true, true, false, false, false, false] rfl rfl (one_of HT_.out (by kernel_rfl)) (by decide) (fun K hK => ?_)
                          refine goes_ Tryd.func20 (by kernel_rfl) rfl #[.string a0] (by rfl) rfl rfl (by (try simp only [List.map_toArray, List.map_cons, List.map_nil]); first | done | rfl | (simp only [List.length_drop, List.length_take]; rfl)) ?_
                          with_reducible refine (gemotref13_Members.calls kj24 a0 t1018 _ A32.out).mono ?_
                          rintro e w49 ⟨v1019, rfl, ho0, hb⟩; have HS0_ := (hb.cell (World.block_lt_of_cell? _ _ hHeld)).trans hHeld
                          refine ⟨_, rfl, ?_⟩
                          have n0_ := Aside0.mk (Kd.R_elder' (by (with_reducible repeat (first | apply Kd.R_alloc | apply Kd.R_drewN | apply Kd.R_drew)); exact HO1016.out) (Kd.R_base ho0) hb)
                          have n1_ := Aside0.mk (Kd.R_lower (Kd.R_new' ho0 (Kd.R_lt (by (with_reducible repeat (first | apply Kd.R_alloc | apply Kd.R_drewN | apply Kd.R_drew)); exact HO1016.out))) (below_size (by repeat with_reducible first | exact HB.out | apply below_alloc | apply pw_below_drewN | apply below_drew1)))
                          have n2_ := Aside0.mk (below_step (by repeat (first | (with_reducible first | exact HB.out | apply below_alloc | apply pw_below_drewN | apply below_drew1) | exact HB.out)) hb)
                          clear HO1016; clear HB; have HO1016 := n0_; have HO1020 := n1_; have HB := n2_; clear n0_ n1_ n2_; (try clear hb); (try clear hb2); (try clear hk); (try clear hi); (try clear ho0); obtain ⟨Ao50, co50, eo50⟩ := Kd.R_slice HO1020.out; (first | subst eo50 | (injection eo50 with f1_ f2_ f3_; have f4_ := f1_.symm; have f5_ := f3_.symm; clear f1_ f2_ f3_; subst f4_; subst f5_)); have p1021 : 0 ≤ (0 : Int) := (by omega)
                          have q1021 : 0 < (t1018.length : Int) := of_decide_eq_true (by first | (with_reducible assumption) | assumption)
                          obtain ⟨ad1021, e1021, hx1021_0⟩ := Kd.at_int (Kd.R_reads' HO1020.out).2.2 0 p1021 q1021
                          cases e1021
                          have qi1021 : (0 < t1018.length) = True := eq_true (by omega)
                          (try rw [show ((0 : Int)).toNat = 0 from rfl] at hx1021_0); (try rw [Addr.add_zero'] at hx1021_0); replace p1021 := eq_true p1021
                          replace q1021 := eq_true q1021
                          refine hK.out _ _ HS0_ (fun _ => ?_)
                          refine wpAnyLast_more (S' := fun w' => w'.cell? ad1017 = some (.int .i64 (rd t1014 0)) ∧ w'.cell? ad1021 = some (.int .i64 (rd t1018 0))) (fun _ h_ => h_.1) _ _ _ _ ⟨HS0_, hx1021_0⟩ ?_
                          have hHeld := And.intro HS0_ hx1021_0
                          clear hK K; refine norm_ (a' := ?_) ?_ ?_
                          rotate_left
                          · show Act.put _ (some 43) _ = _
                            simp only [Act.put, List.setIfInBounds_toArray, List.set_cons_zero, List.set_cons_succ, i64_w, i32_w]; rfl
                          refine pure_ (i := 6) (N := some 44) (v := ?_) (a' := ?_) #[true, true, true, true, true, true, true, false, false, false] rfl rfl (any_of HT_.out (by kernel_rfl)) (fun _ _ _ h => h) (Or.inl ⟨by rfl, ?_⟩) ?_ ?_
                          rotate_left
                          · intro w'; go_simp; with_reducible rfl
                          rotate_left; · (simp only [Act.put, List.setIfInBounds_toArray, List.set_cons_zero, List.set_cons_succ, i64_w, i32_w]; rfl)
                          refine take_ (i := 7) (N := some 45) (v := ?_) (a' := ?_) #[true, true, true, true, true, true, true, true, false, false] rfl rfl (take_ofW HT_.out HW_.out (by kernel_rfl)) (fun _ _ _ h => h) (Or.inl ⟨by rfl, ?_⟩) hHeld ?_ ?_
                          rotate_left
                          · rintro w' ⟨s0, s1⟩; go_simp; with_reducible rfl
                          rotate_left; · (simp only [Act.put, List.setIfInBounds_toArray, List.set_cons_zero, List.set_cons_succ, i64_w, i32_w]; rfl)
                          refine pure_ (i := 8) (N := some 46) (v := ?_) (a' := ?_) #[true, true, true, true, true, true, true, true, true, false] rfl rfl (any_of HT_.out (by kernel_rfl)) (fun _ _ _ h => h) (Or.inl ⟨by rfl, ?_⟩) ?_ ?_
                          rotate_left
                          · intro w'; go_simp; with_reducible rfl
                          rotate_left; · (simp only [Act.put, List.setIfInBounds_toArray, List.set_cons_zero, List.set_cons_succ, i64_w, i32_w]; rfl)
                          refine pure_ (i := 9) (N := some 6) (v := ?_) (a' := ?_) #[true, true, true, true, true, true, true, true, true, true] rfl rfl (any_of HT_.out (by kernel_rfl)) (fun _ _ _ h => h) (Or.inl ⟨by rfl, ?_⟩) ?_ ?_
                          rotate_left
                          · intro w'; go_simp; with_reducible rfl
                          rotate_left; · (simp only [Act.put, List.setIfInBounds_toArray, List.set_cons_zero, List.set_cons_succ, i64_w, i32_w]; rfl)
                          refine done_ (done_of HT_.out (by kernel_rfl)) ?_
                          try go_wp2
                          go_ret2
                          exact ⟨by first | rfl | (simp [errW_none, errW_some] <;> rfl) | (simp [*, errW_none, errW_some] <;> rfl), by repeat (first | (with_reducible first | exact HB.out | apply below_alloc | apply pw_below_drewN | apply below_drew1) | exact HB.out)⟩
                        · rw [if_neg c45] at H
                          exact absurd H (by simp)
                      · rw [if_neg c44] at H
                        exact absurd H (by simp)
                    · rw [if_neg c43] at H
                      exact absurd H (by simp)
                · rw [if_neg c33] at H
                  exact absurd H (by simp)
              · rw [if_neg c31] at H
                exact absurd H (by simp)
            · rw [if_neg c29] at H
              have c29b0 : (x6_24 == 0) = false := beq_eq_false_iff_ne.mpr c29
              have c29b1 : (x6_24 != 0) = true := bne_iff_ne.mpr c29
              by_cases c51 : x6_24 > 0
              · rw [if_pos c51] at H
                have c51b0 : decide (0 < x6_24) = true := decide_eq_true c51
                clear c51; by_cases c52 : 1 + a0.size ≤ 9223372036854775807
                · rw [if_pos c52] at H
                  have c52b0 := eq_true c52
                  have c52b1 : decide (1 + a0.size ≤ 9223372036854775807) = true := decide_eq_true c52
                  try have c52b2 : (9223372036854775807 < 1 + a0.size) = False := eq_false (Nat.not_lt.2 c52)
                  by_cases c53 : ((⟨#[40]⟩ : ByteArray) ++ a0).size + a1.size ≤ 9223372036854775807
                  · rw [if_pos c53] at H
                    have c53b0 := eq_true c53
                    have c53b1 : decide (((⟨#[40]⟩ : ByteArray) ++ a0).size + a1.size ≤ 9223372036854775807) = true := decide_eq_true c53
                    try have c53b2 : (9223372036854775807 < ((⟨#[40]⟩ : ByteArray) ++ a0).size + a1.size) = False := eq_false (Nat.not_lt.2 c53)
                    try have c53b9 : (9223372036854775807 < 1 + a0.size + a1.size) = False := eq_false (Nat.not_lt.2 (by have h_ := c53; simp only [ByteArray.size_append] at h_; exact h_))
                    by_cases c54 : (((⟨#[40]⟩ : ByteArray) ++ a0) ++ a1).size + 1 ≤ 9223372036854775807
                    · rw [if_pos c54] at H
                      have c54b0 := eq_true c54
                      have c54b1 : decide ((((⟨#[40]⟩ : ByteArray) ++ a0) ++ a1).size + 1 ≤ 9223372036854775807) = true := decide_eq_true c54
                      try have c54b2 : (9223372036854775807 < (((⟨#[40]⟩ : ByteArray) ++ a0) ++ a1).size + 1) = False := eq_false (Nat.not_lt.2 c54)
                      try have c54b9 : (9223372036854775807 < 1 + a0.size + a1.size + 1) = False := eq_false (Nat.not_lt.2 (by have h_ := c54; simp only [ByteArray.size_append] at h_; exact h_))
                      simp only [Option.some.injEq, Prod.mk.injEq] at H; obtain ⟨rfl, rfl⟩ := H; go_wp2; go_ret2
                      exact ⟨by first | rfl | (simp [errW_none, errW_some] <;> rfl) | (simp [*, errW_none, errW_some] <;> rfl), by repeat (first | (with_reducible first | exact HB.out | apply below_alloc | apply pw_below_drewN | apply below_drew1) | exact HB.out)⟩
                    · rw [if_neg c54] at H
                      exact absurd H (by simp)
                  · rw [if_neg c53] at H
                    exact absurd H (by simp)
                · rw [if_neg c52] at H
                  exact absurd H (by simp)
              · rw [if_neg c51] at H
                have c51b0 : decide (0 < x6_24) = false := decide_eq_false c51
                clear c51; by_cases c55 : 1 + a1.size ≤ 9223372036854775807
                · rw [if_pos c55] at H
                  have c55b0 := eq_true c55
                  have c55b1 : decide (1 + a1.size ≤ 9223372036854775807) = true := decide_eq_true c55
                  try have c55b2 : (9223372036854775807 < 1 + a1.size) = False := eq_false (Nat.not_lt.2 c55)
                  by_cases c56 : ((⟨#[40]⟩ : ByteArray) ++ a1).size + a0.size ≤ 9223372036854775807
                  · rw [if_pos c56] at H
                    have c56b0 := eq_true c56
                    have c56b1 : decide (((⟨#[40]⟩ : ByteArray) ++ a1).size + a0.size ≤ 9223372036854775807) = true := decide_eq_true c56
                    try have c56b2 : (9223372036854775807 < ((⟨#[40]⟩ : ByteArray) ++ a1).size + a0.size) = False := eq_false (Nat.not_lt.2 c56)
                    try have c56b9 : (9223372036854775807 < 1 + a1.size + a0.size) = False := eq_false (Nat.not_lt.2 (by have h_ := c56; simp only [ByteArray.size_append] at h_; exact h_))
                    by_cases c57 : (((⟨#[40]⟩ : ByteArray) ++ a1) ++ a0).size + 1 ≤ 9223372036854775807
                    · rw [if_pos c57] at H
                      have c57b0 := eq_true c57
                      have c57b1 : decide ((((⟨#[40]⟩ : ByteArray) ++ a1) ++ a0).size + 1 ≤ 9223372036854775807) = true := decide_eq_true c57
                      try have c57b2 : (9223372036854775807 < (((⟨#[40]⟩ : ByteArray) ++ a1) ++ a0).size + 1) = False := eq_false (Nat.not_lt.2 c57)
                      try have c57b9 : (9223372036854775807 < 1 + a1.size + a0.size + 1) = False := eq_false (Nat.not_lt.2 (by have h_ := c57; simp only [ByteArray.size_append] at h_; exact h_))
                      simp only [Option.some.injEq, Prod.mk.injEq] at H; obtain ⟨rfl, rfl⟩ := H; go_wp2; go_ret2
                      exact ⟨by first | rfl | (simp [errW_none, errW_some] <;> rfl) | (simp [*, errW_none, errW_some] <;> rfl), by repeat (first | (with_reducible first | exact HB.out | apply below_alloc | apply pw_below_drewN | apply below_drew1) | exact HB.out)⟩
                    · rw [if_neg c57] at H
                      exact absurd H (by simp)
                  · rw [if_neg c56] at H
                    exact absurd H (by simp)
                · rw [if_neg c55] at H
                  exact absurd H (by simp)

end Go.Proofs.YtiofobdmkkbmlaaDoor.F
