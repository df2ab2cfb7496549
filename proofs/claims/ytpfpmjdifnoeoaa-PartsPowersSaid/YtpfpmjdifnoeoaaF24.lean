-- Laid by mk.py (a program of this session) over the seat's translation.
import Derived.Test.YtpfpmjdifnoeoaaF0
import Derived.Test.YtpfpmjdifnoeoaaF101
import Derived.Test.YtpfpmjdifnoeoaaF102
import Derived.Test.YtpfpmjdifnoeoaaF36
import Derived.Test.YtpfpmjdifnoeoaaB3
import Derived.Test.YtpfpmjdifnoeoaaB2
namespace Go.Proofs.Ytpfpmjdifnoeoaa.F
open Go.RowKit Go.Proofs.YtpfpmjdifnoeoaaW.PrintWords Go.Proofs.YtpfpmjdifnoeoaaW.PrintLast Go.Proofs.YtpfpmjdifnoeoaaW.PrintMore
attribute [local go_sem] max2_int min2_int max_two min_two max_three min_three max_four min_four
set_option linter.unusedVariables false
set_option linter.unusedSimpArgs false

/-! ### gemotlaw2_PartsPowers: function 24 -/
mutual
def gemotlaw2_PartsPowers.j0 : Nat → ByteArray → ByteArray → ByteArray → Int → Bool → Option (Bool)
  | 0, _, _, _, _, _ => none
  | k + 1, x9, x10, x11, x12, x51 => if x51 = true then (if x12 = 1 then (some (x11.toList == ([] : List UInt8))) else (none)) else (if x12 = 0 then ((parts_Of.f x9).bind fun t1012 => ((parts_Of.f x11).bind fun t1015 => (if (t1015.length : Int) = (wrap64 ((t1012.length : Int) + 1)) then (gemotlaw2_PartsPowers.l0 k x10 t1012 t1015 0 false 0) else (none)))) else (if x12 = 3 then (some true) else (some (x12 == 4))))
def gemotlaw2_PartsPowers.l0 : Nat → ByteArray → List ByteArray → List ByteArray → Int → Bool → Int → Option (Bool)
  | 0, _, _, _, _, _, _ => none
  | k + 1, x10, x14, x15, x16, x17, x18 => if x18 < (x15.length : Int) then (if x18 > 0 then (if 0 ≤ x18 then (if 0 ≤ (wrap64 (x18 - 1)) then (if (wrap64 (x18 - 1)) < (x15.length : Int) then (gemotlaw2_PartsPowers.j2 k x10 x14 x15 x16 x17 x18 (Op.bytesLess ((rdOf ByteArray.empty x15 x18).toList) ((rdOf ByteArray.empty x15 (wrap64 (x18 - 1))).toList))) else (none)) else (none)) else (none)) else (gemotlaw2_PartsPowers.j2 k x10 x14 x15 x16 x17 x18 false)) else (if x16 = (x14.length : Int) then (some x17) else (none))
def gemotlaw2_PartsPowers.j2 : Nat → ByteArray → List ByteArray → List ByteArray → Int → Bool → Int → Bool → Option (Bool)
  | 0, _, _, _, _, _, _, _ => none
  | k + 1, x10, x14, x15, x16, x17, x18, x95 => if x95 = true then (none) else (if x16 < (x14.length : Int) then (if 0 ≤ x18 then (if x18 < (x15.length : Int) then (if 0 ≤ x16 then (gemotlaw2_PartsPowers.j3 k x10 x14 x15 x16 x17 x18 ((rdOf ByteArray.empty x15 x18).toList == (rdOf ByteArray.empty x14 x16).toList)) else (none)) else (none)) else (none)) else (gemotlaw2_PartsPowers.j3 k x10 x14 x15 x16 x17 x18 false))
def gemotlaw2_PartsPowers.j3 : Nat → ByteArray → List ByteArray → List ByteArray → Int → Bool → Int → Bool → Option (Bool)
  | 0, _, _, _, _, _, _, _ => none
  | k + 1, x10, x14, x15, x16, x17, x18, x110 => if x110 = true then (gemotlaw2_PartsPowers.l0 k x10 x14 x15 (wrap64 (x16 + 1)) x17 (wrap64 (x18 + 1))) else (if 0 ≤ x18 then (if x18 < (x15.length : Int) then (if (rdOf ByteArray.empty x15 x18).toList = x10.toList then (if x17 = true then (none) else (gemotlaw2_PartsPowers.l0 k x10 x14 x15 x16 true (wrap64 (x18 + 1)))) else (none)) else (none)) else (none))
end
def gemotlaw2_PartsPowers.f (k : Nat) (l0 : List (S171)) (a1 : Int) (a2 : Int) : Option (Bool) := (gemotlaw2_shown.f).bind fun t1001 => (if t1001 = true then ((gemotlaw2_made.f l0).bind fun t1002 => ((gemotlaw2_pick.f a1 (t1002.length : Int)).bind fun t1005 => (if 0 ≤ t1005 then (if t1005 < (t1002.length : Int) then ((gemotlaw2_pick.f a2 (t1002.length : Int)).bind fun t1007 => (if 0 ≤ t1007 then (if t1007 < (t1002.length : Int) then ((term_Power.f (rdOf ByteArray.empty t1002 t1005) (rdOf ByteArray.empty t1002 t1007)).bind fun bt1009 => ((parts_Kind.f (rdOf ByteArray.empty t1002 t1005)).bind fun t1011 => (if t1011 = 103 then (gemotlaw2_PartsPowers.j0 k (rdOf ByteArray.empty t1002 t1005) (rdOf ByteArray.empty t1002 t1007) bt1009.1 bt1009.2 false) else (gemotlaw2_PartsPowers.j0 k (rdOf ByteArray.empty t1002 t1005) (rdOf ByteArray.empty t1002 t1007) bt1009.1 bt1009.2 (t1011 != 101))))) else (none)) else (none))) else (none)) else (none)))) else (none))
theorem gemotlaw2_PartsPowers.mono_l : ∀ k, (∀ y0 y1 y2 y3 y4, LeO (gemotlaw2_PartsPowers.j0 k y0 y1 y2 y3 y4) (gemotlaw2_PartsPowers.j0 (k + 1) y0 y1 y2 y3 y4)) ∧ (∀ y0 y1 y2 y3 y4 y5, LeO (gemotlaw2_PartsPowers.l0 k y0 y1 y2 y3 y4 y5) (gemotlaw2_PartsPowers.l0 (k + 1) y0 y1 y2 y3 y4 y5)) ∧ (∀ y0 y1 y2 y3 y4 y5 y6, LeO (gemotlaw2_PartsPowers.j2 k y0 y1 y2 y3 y4 y5 y6) (gemotlaw2_PartsPowers.j2 (k + 1) y0 y1 y2 y3 y4 y5 y6)) ∧ (∀ y0 y1 y2 y3 y4 y5 y6, LeO (gemotlaw2_PartsPowers.j3 k y0 y1 y2 y3 y4 y5 y6) (gemotlaw2_PartsPowers.j3 (k + 1) y0 y1 y2 y3 y4 y5 y6))
  | 0 => ⟨fun _ _ _ _ _ r h => by simp [gemotlaw2_PartsPowers.j0] at h, fun _ _ _ _ _ _ r h => by simp [gemotlaw2_PartsPowers.l0] at h, fun _ _ _ _ _ _ _ r h => by simp [gemotlaw2_PartsPowers.j2] at h, fun _ _ _ _ _ _ _ r h => by simp [gemotlaw2_PartsPowers.j3] at h⟩
  | k + 1 => by
    obtain ⟨ih0, ih1, ih2, ih3⟩ := gemotlaw2_PartsPowers.mono_l k
    refine ⟨?_, ?_, ?_, ?_⟩
    · intro y0 y1 y2 y3 y4
      unfold gemotlaw2_PartsPowers.j0
      repeat' first
      | (with_reducible exact ih0 _ _ _ _ _)
      | (with_reducible exact ih1 _ _ _ _ _ _)
      | (with_reducible exact ih2 _ _ _ _ _ _ _)
      | (with_reducible exact ih3 _ _ _ _ _ _ _)
      | (with_reducible exact LeO.refl _)
      | (with_reducible exact LeO.none _)
      | (with_reducible refine LeO.ite ?_ ?_)
      | (with_reducible refine LeO.bind ?_ (fun _ => ?_))
      | exact ih0 _ _ _ _ _
      | exact ih1 _ _ _ _ _ _
      | exact ih2 _ _ _ _ _ _ _
      | exact ih3 _ _ _ _ _ _ _
      | exact LeO.none _
      | refine LeO.ite ?_ ?_
      | refine LeO.bind ?_ (fun _ => ?_)
    · intro y0 y1 y2 y3 y4 y5
      unfold gemotlaw2_PartsPowers.l0
      repeat' first
      | (with_reducible exact ih0 _ _ _ _ _)
      | (with_reducible exact ih1 _ _ _ _ _ _)
      | (with_reducible exact ih2 _ _ _ _ _ _ _)
      | (with_reducible exact ih3 _ _ _ _ _ _ _)
      | (with_reducible exact LeO.refl _)
      | (with_reducible exact LeO.none _)
      | (with_reducible refine LeO.ite ?_ ?_)
      | (with_reducible refine LeO.bind ?_ (fun _ => ?_))
      | exact ih0 _ _ _ _ _
      | exact ih1 _ _ _ _ _ _
      | exact ih2 _ _ _ _ _ _ _
      | exact ih3 _ _ _ _ _ _ _
      | exact LeO.none _
      | refine LeO.ite ?_ ?_
      | refine LeO.bind ?_ (fun _ => ?_)
    · intro y0 y1 y2 y3 y4 y5 y6
      unfold gemotlaw2_PartsPowers.j2
      repeat' first
      | (with_reducible exact ih0 _ _ _ _ _)
      | (with_reducible exact ih1 _ _ _ _ _ _)
      | (with_reducible exact ih2 _ _ _ _ _ _ _)
      | (with_reducible exact ih3 _ _ _ _ _ _ _)
      | (with_reducible exact LeO.refl _)
      | (with_reducible exact LeO.none _)
      | (with_reducible refine LeO.ite ?_ ?_)
      | (with_reducible refine LeO.bind ?_ (fun _ => ?_))
      | exact ih0 _ _ _ _ _
      | exact ih1 _ _ _ _ _ _
      | exact ih2 _ _ _ _ _ _ _
      | exact ih3 _ _ _ _ _ _ _
      | exact LeO.none _
      | refine LeO.ite ?_ ?_
      | refine LeO.bind ?_ (fun _ => ?_)
    · intro y0 y1 y2 y3 y4 y5 y6
      unfold gemotlaw2_PartsPowers.j3
      repeat' first
      | (with_reducible exact ih0 _ _ _ _ _)
      | (with_reducible exact ih1 _ _ _ _ _ _)
      | (with_reducible exact ih2 _ _ _ _ _ _ _)
      | (with_reducible exact ih3 _ _ _ _ _ _ _)
      | (with_reducible exact LeO.refl _)
      | (with_reducible exact LeO.none _)
      | (with_reducible refine LeO.ite ?_ ?_)
      | (with_reducible refine LeO.bind ?_ (fun _ => ?_))
      | exact ih0 _ _ _ _ _
      | exact ih1 _ _ _ _ _ _
      | exact ih2 _ _ _ _ _ _ _
      | exact ih3 _ _ _ _ _ _ _
      | exact LeO.none _
      | refine LeO.ite ?_ ?_
      | refine LeO.bind ?_ (fun _ => ?_)
theorem gemotlaw2_PartsPowers.mono : ∀ a0 a1 a2 k, LeO (gemotlaw2_PartsPowers.f k a0 a1 a2) (gemotlaw2_PartsPowers.f (k + 1) a0 a1 a2) := by
  intro a0 a1 a2 k
  obtain ⟨ih0, ih1, ih2, ih3⟩ := gemotlaw2_PartsPowers.mono_l k
  unfold gemotlaw2_PartsPowers.f
  repeat' first
      | (with_reducible exact ih0 _ _ _ _ _)
      | (with_reducible exact ih1 _ _ _ _ _ _)
      | (with_reducible exact ih2 _ _ _ _ _ _ _)
      | (with_reducible exact ih3 _ _ _ _ _ _ _)
      | (with_reducible exact LeO.refl _)
      | (with_reducible exact LeO.none _)
      | (with_reducible refine LeO.ite ?_ ?_)
      | (with_reducible refine LeO.bind ?_ (fun _ => ?_))
      | exact ih0 _ _ _ _ _
      | exact ih1 _ _ _ _ _ _
      | exact ih2 _ _ _ _ _ _ _
      | exact ih3 _ _ _ _ _ _ _
      | exact LeO.none _
      | refine LeO.ite ?_ ?_
      | refine LeO.bind ?_ (fun _ => ?_)
set_option maxHeartbeats 8000000 in
set_option maxRecDepth 100000 in
theorem gemotlaw2_PartsPowers.calls (k : Nat) (A0 : Option Addr) (c0 : Nat) (l0 : List (S171)) (a1 : Int) (a2 : Int) (r : Bool) (w : World) (hr0 : Kd.C k171 w A0 l0.length l0) (hc0 : l0.length ≤ c0) (h : gemotlaw2_PartsPowers.f k l0 a1 a2 = some r) :
    Calls Try.prog 24 #[.slice A0 l0.length c0, .int .i64 a1, .int .i64 a2] w fun e w' => e = .returned (.bool r) ∧ Below w.heap.size w w' := by
  have HR0 := Aside0.mk hr0
  have HC0 := Aside0.mk hc0
  clear hr0 hc0
  have HB := Aside0.mk (Below.refl w.heap.size w)
  have H : ((gemotlaw2_shown.f).bind fun t1001 => (if t1001 = true then ((gemotlaw2_made.f l0).bind fun t1002 => ((gemotlaw2_pick.f a1 (t1002.length : Int)).bind fun t1005 => (if 0 ≤ t1005 then (if t1005 < (t1002.length : Int) then ((gemotlaw2_pick.f a2 (t1002.length : Int)).bind fun t1007 => (if 0 ≤ t1007 then (if t1007 < (t1002.length : Int) then ((term_Power.f (rdOf ByteArray.empty t1002 t1005) (rdOf ByteArray.empty t1002 t1007)).bind fun bt1009 => ((parts_Kind.f (rdOf ByteArray.empty t1002 t1005)).bind fun t1011 => (if t1011 = 103 then (gemotlaw2_PartsPowers.j0 k (rdOf ByteArray.empty t1002 t1005) (rdOf ByteArray.empty t1002 t1007) bt1009.1 bt1009.2 false) else (gemotlaw2_PartsPowers.j0 k (rdOf ByteArray.empty t1002 t1005) (rdOf ByteArray.empty t1002 t1007) bt1009.1 bt1009.2 (t1011 != 101))))) else (none)) else (none))) else (none)) else (none)))) else (none))) = some r := h
  clear h
  replace H := Option.bind_eq_some_iff.mp H
  obtain ⟨t1001, A40, H⟩ := H
  replace H : (if t1001 = true then ((gemotlaw2_made.f l0).bind fun t1002 => ((gemotlaw2_pick.f a1 (t1002.length : Int)).bind fun t1005 => (if 0 ≤ t1005 then (if t1005 < (t1002.length : Int) then ((gemotlaw2_pick.f a2 (t1002.length : Int)).bind fun t1007 => (if 0 ≤ t1007 then (if t1007 < (t1002.length : Int) then ((term_Power.f (rdOf ByteArray.empty t1002 t1005) (rdOf ByteArray.empty t1002 t1007)).bind fun bt1009 => ((parts_Kind.f (rdOf ByteArray.empty t1002 t1005)).bind fun t1011 => (if t1011 = 103 then (gemotlaw2_PartsPowers.j0 k (rdOf ByteArray.empty t1002 t1005) (rdOf ByteArray.empty t1002 t1007) bt1009.1 bt1009.2 false) else (gemotlaw2_PartsPowers.j0 k (rdOf ByteArray.empty t1002 t1005) (rdOf ByteArray.empty t1002 t1007) bt1009.1 bt1009.2 (t1011 != 101))))) else (none)) else (none))) else (none)) else (none)))) else (none)) = some r := H
  have A4 := Aside0.mk A40
  clear A40
  by_cases c5 : t1001 = true
  · subst c5
    have H1 : ((gemotlaw2_made.f l0).bind fun t1002 => ((gemotlaw2_pick.f a1 (t1002.length : Int)).bind fun t1005 => (if 0 ≤ t1005 then (if t1005 < (t1002.length : Int) then ((gemotlaw2_pick.f a2 (t1002.length : Int)).bind fun t1007 => (if 0 ≤ t1007 then (if t1007 < (t1002.length : Int) then ((term_Power.f (rdOf ByteArray.empty t1002 t1005) (rdOf ByteArray.empty t1002 t1007)).bind fun bt1009 => ((parts_Kind.f (rdOf ByteArray.empty t1002 t1005)).bind fun t1011 => (if t1011 = 103 then (gemotlaw2_PartsPowers.j0 k (rdOf ByteArray.empty t1002 t1005) (rdOf ByteArray.empty t1002 t1007) bt1009.1 bt1009.2 false) else (gemotlaw2_PartsPowers.j0 k (rdOf ByteArray.empty t1002 t1005) (rdOf ByteArray.empty t1002 t1007) bt1009.1 bt1009.2 (t1011 != 101))))) else (none)) else (none))) else (none)) else (none)))) = some r := by rw [if_pos rfl] at H; exact H
    clear H
    have H := H1
    clear H1
    replace H := Option.bind_eq_some_iff.mp H
    obtain ⟨t1002, A60, H⟩ := H
    replace H : ((gemotlaw2_pick.f a1 (t1002.length : Int)).bind fun t1005 => (if 0 ≤ t1005 then (if t1005 < (t1002.length : Int) then ((gemotlaw2_pick.f a2 (t1002.length : Int)).bind fun t1007 => (if 0 ≤ t1007 then (if t1007 < (t1002.length : Int) then ((term_Power.f (rdOf ByteArray.empty t1002 t1005) (rdOf ByteArray.empty t1002 t1007)).bind fun bt1009 => ((parts_Kind.f (rdOf ByteArray.empty t1002 t1005)).bind fun t1011 => (if t1011 = 103 then (gemotlaw2_PartsPowers.j0 k (rdOf ByteArray.empty t1002 t1005) (rdOf ByteArray.empty t1002 t1007) bt1009.1 bt1009.2 false) else (gemotlaw2_PartsPowers.j0 k (rdOf ByteArray.empty t1002 t1005) (rdOf ByteArray.empty t1002 t1007) bt1009.1 bt1009.2 (t1011 != 101))))) else (none)) else (none))) else (none)) else (none))) = some r := H
    have A6 := Aside0.mk A60
    clear A60
    replace H := Option.bind_eq_some_iff.mp H
    obtain ⟨t1005, A70, H⟩ := H
    replace H : (if 0 ≤ t1005 then (if t1005 < (t1002.length : Int) then ((gemotlaw2_pick.f a2 (t1002.length : Int)).bind fun t1007 => (if 0 ≤ t1007 then (if t1007 < (t1002.length : Int) then ((term_Power.f (rdOf ByteArray.empty t1002 t1005) (rdOf ByteArray.empty t1002 t1007)).bind fun bt1009 => ((parts_Kind.f (rdOf ByteArray.empty t1002 t1005)).bind fun t1011 => (if t1011 = 103 then (gemotlaw2_PartsPowers.j0 k (rdOf ByteArray.empty t1002 t1005) (rdOf ByteArray.empty t1002 t1007) bt1009.1 bt1009.2 false) else (gemotlaw2_PartsPowers.j0 k (rdOf ByteArray.empty t1002 t1005) (rdOf ByteArray.empty t1002 t1007) bt1009.1 bt1009.2 (t1011 != 101))))) else (none)) else (none))) else (none)) else (none)) = some r := H
    have A7 := Aside0.mk A70
    clear A70
    by_cases c8 : 0 ≤ t1005
    · rw [if_pos c8] at H
      have c8b0 : decide (0 ≤ t1005) = true := decide_eq_true c8
      clear c8
      by_cases c9 : t1005 < (t1002.length : Int)
      · rw [if_pos c9] at H
        have c9b0 : decide (t1005 < (t1002.length : Int)) = true := decide_eq_true c9
        clear c9
        replace H := Option.bind_eq_some_iff.mp H
        obtain ⟨t1007, A100, H⟩ := H
        replace H : (if 0 ≤ t1007 then (if t1007 < (t1002.length : Int) then ((term_Power.f (rdOf ByteArray.empty t1002 t1005) (rdOf ByteArray.empty t1002 t1007)).bind fun bt1009 => ((parts_Kind.f (rdOf ByteArray.empty t1002 t1005)).bind fun t1011 => (if t1011 = 103 then (gemotlaw2_PartsPowers.j0 k (rdOf ByteArray.empty t1002 t1005) (rdOf ByteArray.empty t1002 t1007) bt1009.1 bt1009.2 false) else (gemotlaw2_PartsPowers.j0 k (rdOf ByteArray.empty t1002 t1005) (rdOf ByteArray.empty t1002 t1007) bt1009.1 bt1009.2 (t1011 != 101))))) else (none)) else (none)) = some r := H
        have A10 := Aside0.mk A100
        clear A100
        by_cases c11 : 0 ≤ t1007
        · rw [if_pos c11] at H
          have c11b0 : decide (0 ≤ t1007) = true := decide_eq_true c11
          clear c11
          by_cases c12 : t1007 < (t1002.length : Int)
          · rw [if_pos c12] at H
            have c12b0 : decide (t1007 < (t1002.length : Int)) = true := decide_eq_true c12
            clear c12
            replace H := Option.bind_eq_some_iff.mp H
            obtain ⟨⟨t1009, t1010⟩, A130, H⟩ := H
            replace H : ((parts_Kind.f (rdOf ByteArray.empty t1002 t1005)).bind fun t1011 => (if t1011 = 103 then (gemotlaw2_PartsPowers.j0 k (rdOf ByteArray.empty t1002 t1005) (rdOf ByteArray.empty t1002 t1007) t1009 t1010 false) else (gemotlaw2_PartsPowers.j0 k (rdOf ByteArray.empty t1002 t1005) (rdOf ByteArray.empty t1002 t1007) t1009 t1010 (t1011 != 101)))) = some r := H
            have A13 := Aside0.mk A130
            clear A130
            replace H := Option.bind_eq_some_iff.mp H
            obtain ⟨t1011, A140, H⟩ := H
            replace H : (if t1011 = 103 then (gemotlaw2_PartsPowers.j0 k (rdOf ByteArray.empty t1002 t1005) (rdOf ByteArray.empty t1002 t1007) t1009 t1010 false) else (gemotlaw2_PartsPowers.j0 k (rdOf ByteArray.empty t1002 t1005) (rdOf ByteArray.empty t1002 t1007) t1009 t1010 (t1011 != 101))) = some r := H
            have A14 := Aside0.mk A140
            clear A140
            have HC15 := Aside0.mk H
            clear H
            go_enter Try.func24, Try.ntmps24
            go_upto_region 9 with (first | (go_at_call 36; (with_reducible refine (gemotlaw2_shown.calls  true _ A4.out).mono ?_); rintro e w16 ⟨rfl, hb⟩; have n0_ := Aside0.mk (below_step (by repeat (first | (with_reducible first | exact HB.out | apply below_alloc | apply pw_below_drewN | apply below_drew1) | exact HB.out)) hb); clear HB; have HB := n0_; clear n0_; (try clear hb); (try clear hb2); (try clear hk); (try clear hi)) | (go_at_call 101; (with_reducible refine (gemotlaw2_made.calls _ _ l0 t1002 _ ?side1 ?side2 A6.out).mono ?_); (case side1 => repeat (first | exact (Kd.C_below HR0.out HB.out) | (with_reducible refine Kd.C_alloc ?_ _) | (with_reducible refine Kd.C_drewN ?_ _) | (with_reducible refine Kd.C_drew ?_))); (case side2 => exact HC0.out); rintro e w17 ⟨v1003, rfl, ho0, hb⟩; have n0_ := Aside0.mk (Kd.R_lower ho0 (below_size (by repeat (first | (with_reducible first | exact HB.out | apply below_alloc | apply pw_below_drewN | apply below_drew1) | exact HB.out)))); have n1_ := Aside0.mk (below_step (by repeat (first | (with_reducible first | exact HB.out | apply below_alloc | apply pw_below_drewN | apply below_drew1) | exact HB.out)) hb); clear HB; have HO1004 := n0_; have HB := n1_; clear n0_ n1_; (try clear hb); (try clear hb2); (try clear hk); (try clear hi); (try clear ho0); obtain ⟨Ao18, co18, eo18⟩ := Kd.R_slice HO1004.out; subst eo18) | (go_at_call 102; (with_reducible refine (gemotlaw2_pick.calls a1 (t1002.length : Int) t1005 _ A7.out).mono ?_); rintro e w' ⟨rfl, ⟨nd, rfl⟩⟩; (try first | exact ⟨rfl, _, World.drewN_drewN _ _ _⟩ | exact ⟨rfl, _, Eq.trans (World.drewN_drewN _ _ _) (congrArg (World.drewN _) (Nat.add_assoc _ _ _))⟩); have p1006 : 0 ≤ (t1005 : Int) := of_decide_eq_true (by first | (with_reducible assumption) | assumption); have q1006 : t1005 < (t1002.length : Int) := of_decide_eq_true (by first | (with_reducible assumption) | assumption); obtain ⟨ad1006, e1006, hx1006_0⟩ := Kd.at_string (Kd.R_reads' HO1004.out).2.2 t1005 p1006 q1006; cases e1006; replace p1006 := eq_true p1006; replace q1006 := eq_true q1006) | (go_at_call 102; (with_reducible refine (gemotlaw2_pick.calls a2 (t1002.length : Int) t1007 _ A10.out).mono ?_); rintro e w' ⟨rfl, ⟨nd, rfl⟩⟩; (try first | exact ⟨rfl, _, World.drewN_drewN _ _ _⟩ | exact ⟨rfl, _, Eq.trans (World.drewN_drewN _ _ _) (congrArg (World.drewN _) (Nat.add_assoc _ _ _))⟩); have p1008 : 0 ≤ (t1007 : Int) := of_decide_eq_true (by first | (with_reducible assumption) | assumption); have q1008 : t1007 < (t1002.length : Int) := of_decide_eq_true (by first | (with_reducible assumption) | assumption); obtain ⟨ad1008, e1008, hx1008_0⟩ := Kd.at_string (Kd.R_reads' HO1004.out).2.2 t1007 p1008 q1008; obtain rfl : ad1006 = ad1008 := (by injection e1008); replace p1008 := eq_true p1008; replace q1008 := eq_true q1008) | (go_at_call 88; (with_reducible refine (term_Power.calls (rdOf ByteArray.empty t1002 t1005) (rdOf ByteArray.empty t1002 t1007) t1009 t1010 _ A13.out).mono ?_); rintro e w19 ⟨rfl, hb⟩; have n0_ := Aside0.mk (Kd.R_below (by (with_reducible repeat (first | apply Kd.R_alloc | apply Kd.R_drewN | apply Kd.R_drew)); exact HO1004.out) hb); have n1_ := Aside0.mk (below_step (by repeat (first | (with_reducible first | exact HB.out | apply below_alloc | apply pw_below_drewN | apply below_drew1) | exact HB.out)) hb); clear HO1004; clear HB; have HO1004 := n0_; have HB := n1_; clear n0_ n1_; (try clear hb); (try clear hb2); (try clear hk); (try clear hi)) | (go_at_call 71; (with_reducible refine (parts_Kind.calls (rdOf ByteArray.empty t1002 t1005) t1011 _ A14.out).mono ?_); rintro e w20 ⟨rfl, hb⟩; have n0_ := Aside0.mk (Kd.R_below (by (with_reducible repeat (first | apply Kd.R_alloc | apply Kd.R_drewN | apply Kd.R_drew)); exact HO1004.out) hb); have n1_ := Aside0.mk (below_step (by repeat (first | (with_reducible first | exact HB.out | apply below_alloc | apply pw_below_drewN | apply below_drew1) | exact HB.out)) hb); clear HO1004; clear HB; have HO1004 := n0_; have HB := n1_; clear n0_ n1_; (try clear hb); (try clear hb2); (try clear hk); (try clear hi)))
            repeat (go_quiet (first | (go_at_call 36; (with_reducible refine (gemotlaw2_shown.calls  true _ A4.out).mono ?_); rintro e w16 ⟨rfl, hb⟩; have n0_ := Aside0.mk (below_step (by repeat (first | (with_reducible first | exact HB.out | apply below_alloc | apply pw_below_drewN | apply below_drew1) | exact HB.out)) hb); clear HB; have HB := n0_; clear n0_; (try clear hb); (try clear hb2); (try clear hk); (try clear hi)) | (go_at_call 101; (with_reducible refine (gemotlaw2_made.calls _ _ l0 t1002 _ ?side1 ?side2 A6.out).mono ?_); (case side1 => repeat (first | exact (Kd.C_below HR0.out HB.out) | (with_reducible refine Kd.C_alloc ?_ _) | (with_reducible refine Kd.C_drewN ?_ _) | (with_reducible refine Kd.C_drew ?_))); (case side2 => exact HC0.out); rintro e w17 ⟨v1003, rfl, ho0, hb⟩; have n0_ := Aside0.mk (Kd.R_lower ho0 (below_size (by repeat (first | (with_reducible first | exact HB.out | apply below_alloc | apply pw_below_drewN | apply below_drew1) | exact HB.out)))); have n1_ := Aside0.mk (below_step (by repeat (first | (with_reducible first | exact HB.out | apply below_alloc | apply pw_below_drewN | apply below_drew1) | exact HB.out)) hb); clear HB; have HO1004 := n0_; have HB := n1_; clear n0_ n1_; (try clear hb); (try clear hb2); (try clear hk); (try clear hi); (try clear ho0); obtain ⟨Ao18, co18, eo18⟩ := Kd.R_slice HO1004.out; subst eo18) | (go_at_call 102; (with_reducible refine (gemotlaw2_pick.calls a1 (t1002.length : Int) t1005 _ A7.out).mono ?_); rintro e w' ⟨rfl, ⟨nd, rfl⟩⟩; (try first | exact ⟨rfl, _, World.drewN_drewN _ _ _⟩ | exact ⟨rfl, _, Eq.trans (World.drewN_drewN _ _ _) (congrArg (World.drewN _) (Nat.add_assoc _ _ _))⟩); have p1006 : 0 ≤ (t1005 : Int) := of_decide_eq_true (by first | (with_reducible assumption) | assumption); have q1006 : t1005 < (t1002.length : Int) := of_decide_eq_true (by first | (with_reducible assumption) | assumption); obtain ⟨ad1006, e1006, hx1006_0⟩ := Kd.at_string (Kd.R_reads' HO1004.out).2.2 t1005 p1006 q1006; cases e1006; replace p1006 := eq_true p1006; replace q1006 := eq_true q1006) | (go_at_call 102; (with_reducible refine (gemotlaw2_pick.calls a2 (t1002.length : Int) t1007 _ A10.out).mono ?_); rintro e w' ⟨rfl, ⟨nd, rfl⟩⟩; (try first | exact ⟨rfl, _, World.drewN_drewN _ _ _⟩ | exact ⟨rfl, _, Eq.trans (World.drewN_drewN _ _ _) (congrArg (World.drewN _) (Nat.add_assoc _ _ _))⟩); have p1008 : 0 ≤ (t1007 : Int) := of_decide_eq_true (by first | (with_reducible assumption) | assumption); have q1008 : t1007 < (t1002.length : Int) := of_decide_eq_true (by first | (with_reducible assumption) | assumption); obtain ⟨ad1008, e1008, hx1008_0⟩ := Kd.at_string (Kd.R_reads' HO1004.out).2.2 t1007 p1008 q1008; obtain rfl : ad1006 = ad1008 := (by injection e1008); replace p1008 := eq_true p1008; replace q1008 := eq_true q1008) | (go_at_call 88; (with_reducible refine (term_Power.calls (rdOf ByteArray.empty t1002 t1005) (rdOf ByteArray.empty t1002 t1007) t1009 t1010 _ A13.out).mono ?_); rintro e w19 ⟨rfl, hb⟩; have n0_ := Aside0.mk (Kd.R_below (by (with_reducible repeat (first | apply Kd.R_alloc | apply Kd.R_drewN | apply Kd.R_drew)); exact HO1004.out) hb); have n1_ := Aside0.mk (below_step (by repeat (first | (with_reducible first | exact HB.out | apply below_alloc | apply pw_below_drewN | apply below_drew1) | exact HB.out)) hb); clear HO1004; clear HB; have HO1004 := n0_; have HB := n1_; clear n0_ n1_; (try clear hb); (try clear hb2); (try clear hk); (try clear hi)) | (go_at_call 71; (with_reducible refine (parts_Kind.calls (rdOf ByteArray.empty t1002 t1005) t1011 _ A14.out).mono ?_); rintro e w20 ⟨rfl, hb⟩; have n0_ := Aside0.mk (Kd.R_below (by (with_reducible repeat (first | apply Kd.R_alloc | apply Kd.R_drewN | apply Kd.R_drew)); exact HO1004.out) hb); have n1_ := Aside0.mk (below_step (by repeat (first | (with_reducible first | exact HB.out | apply below_alloc | apply pw_below_drewN | apply below_drew1) | exact HB.out)) hb); clear HO1004; clear HB; have HO1004 := n0_; have HB := n1_; clear n0_ n1_; (try clear hb); (try clear hb2); (try clear hk); (try clear hi))); go_upto_region 9 with (first | (go_at_call 36; (with_reducible refine (gemotlaw2_shown.calls  true _ A4.out).mono ?_); rintro e w16 ⟨rfl, hb⟩; have n0_ := Aside0.mk (below_step (by repeat (first | (with_reducible first | exact HB.out | apply below_alloc | apply pw_below_drewN | apply below_drew1) | exact HB.out)) hb); clear HB; have HB := n0_; clear n0_; (try clear hb); (try clear hb2); (try clear hk); (try clear hi)) | (go_at_call 101; (with_reducible refine (gemotlaw2_made.calls _ _ l0 t1002 _ ?side1 ?side2 A6.out).mono ?_); (case side1 => repeat (first | exact (Kd.C_below HR0.out HB.out) | (with_reducible refine Kd.C_alloc ?_ _) | (with_reducible refine Kd.C_drewN ?_ _) | (with_reducible refine Kd.C_drew ?_))); (case side2 => exact HC0.out); rintro e w17 ⟨v1003, rfl, ho0, hb⟩; have n0_ := Aside0.mk (Kd.R_lower ho0 (below_size (by repeat (first | (with_reducible first | exact HB.out | apply below_alloc | apply pw_below_drewN | apply below_drew1) | exact HB.out)))); have n1_ := Aside0.mk (below_step (by repeat (first | (with_reducible first | exact HB.out | apply below_alloc | apply pw_below_drewN | apply below_drew1) | exact HB.out)) hb); clear HB; have HO1004 := n0_; have HB := n1_; clear n0_ n1_; (try clear hb); (try clear hb2); (try clear hk); (try clear hi); (try clear ho0); obtain ⟨Ao18, co18, eo18⟩ := Kd.R_slice HO1004.out; subst eo18) | (go_at_call 102; (with_reducible refine (gemotlaw2_pick.calls a1 (t1002.length : Int) t1005 _ A7.out).mono ?_); rintro e w' ⟨rfl, ⟨nd, rfl⟩⟩; (try first | exact ⟨rfl, _, World.drewN_drewN _ _ _⟩ | exact ⟨rfl, _, Eq.trans (World.drewN_drewN _ _ _) (congrArg (World.drewN _) (Nat.add_assoc _ _ _))⟩); have p1006 : 0 ≤ (t1005 : Int) := of_decide_eq_true (by first | (with_reducible assumption) | assumption); have q1006 : t1005 < (t1002.length : Int) := of_decide_eq_true (by first | (with_reducible assumption) | assumption); obtain ⟨ad1006, e1006, hx1006_0⟩ := Kd.at_string (Kd.R_reads' HO1004.out).2.2 t1005 p1006 q1006; cases e1006; replace p1006 := eq_true p1006; replace q1006 := eq_true q1006) | (go_at_call 102; (with_reducible refine (gemotlaw2_pick.calls a2 (t1002.length : Int) t1007 _ A10.out).mono ?_); rintro e w' ⟨rfl, ⟨nd, rfl⟩⟩; (try first | exact ⟨rfl, _, World.drewN_drewN _ _ _⟩ | exact ⟨rfl, _, Eq.trans (World.drewN_drewN _ _ _) (congrArg (World.drewN _) (Nat.add_assoc _ _ _))⟩); have p1008 : 0 ≤ (t1007 : Int) := of_decide_eq_true (by first | (with_reducible assumption) | assumption); have q1008 : t1007 < (t1002.length : Int) := of_decide_eq_true (by first | (with_reducible assumption) | assumption); obtain ⟨ad1008, e1008, hx1008_0⟩ := Kd.at_string (Kd.R_reads' HO1004.out).2.2 t1007 p1008 q1008; obtain rfl : ad1006 = ad1008 := (by injection e1008); replace p1008 := eq_true p1008; replace q1008 := eq_true q1008) | (go_at_call 88; (with_reducible refine (term_Power.calls (rdOf ByteArray.empty t1002 t1005) (rdOf ByteArray.empty t1002 t1007) t1009 t1010 _ A13.out).mono ?_); rintro e w19 ⟨rfl, hb⟩; have n0_ := Aside0.mk (Kd.R_below (by (with_reducible repeat (first | apply Kd.R_alloc | apply Kd.R_drewN | apply Kd.R_drew)); exact HO1004.out) hb); have n1_ := Aside0.mk (below_step (by repeat (first | (with_reducible first | exact HB.out | apply below_alloc | apply pw_below_drewN | apply below_drew1) | exact HB.out)) hb); clear HO1004; clear HB; have HO1004 := n0_; have HB := n1_; clear n0_ n1_; (try clear hb); (try clear hb2); (try clear hk); (try clear hi)) | (go_at_call 71; (with_reducible refine (parts_Kind.calls (rdOf ByteArray.empty t1002 t1005) t1011 _ A14.out).mono ?_); rintro e w20 ⟨rfl, hb⟩; have n0_ := Aside0.mk (Kd.R_below (by (with_reducible repeat (first | apply Kd.R_alloc | apply Kd.R_drewN | apply Kd.R_drew)); exact HO1004.out) hb); have n1_ := Aside0.mk (below_step (by repeat (first | (with_reducible first | exact HB.out | apply below_alloc | apply pw_below_drewN | apply below_drew1) | exact HB.out)) hb); clear HO1004; clear HB; have HO1004 := n0_; have HB := n1_; clear n0_ n1_; (try clear hb); (try clear hb2); (try clear hk); (try clear hi))))
            (try simp only [Act.put, List.setIfInBounds_toArray, List.set_cons_zero, List.set_cons_succ])
            go_cut [51] (fun v51 wc => ∃ (kq : Nat) (x51_14 : Bool), v51 = .bool x51_14 ∧ Aside0 (gemotlaw2_PartsPowers.j0 kq (rdOf ByteArray.empty t1002 t1005) (rdOf ByteArray.empty t1002 t1007) t1009 t1010 x51_14 = some r) ∧ Aside0 (kq ≤ k) ∧ Aside0 (Below w.heap.size w wc))
            case first =>
              have H := HC15.out
              clear HC15
              by_cases c21 : t1011 = 103
              · rw [if_pos c21] at H
                have c21b0 : (t1011 == 103) = true := beq_iff_eq.mpr c21
                have c21b1 : (t1011 != 103) = false := bne_eq_false_iff_eq.mpr c21
                clear c21
                (first | rw [c21b0] | (simp only [i64_w, i32_w]; rw [c21b0]) | skip)
                have H' := Aside0.mk H
                clear H
                go_wp2
                repeat (go_quiet (fail); try go_wp2)
                go_meet
                case rel => exact ⟨_, (false), (by first | rfl | (simp; done) | (simp [*]; done)), H', ⟨by first | omega | exact Nat.le_refl _⟩, ⟨by repeat (first | (with_reducible first | exact HB.out | apply below_alloc | apply pw_below_drewN | apply below_drew1) | exact HB.out)⟩⟩
              · rw [if_neg c21] at H
                have c21b0 : (t1011 == 103) = false := beq_eq_false_iff_ne.mpr c21
                have c21b1 : (t1011 != 103) = true := bne_iff_ne.mpr c21
                (first | rw [c21b0] | (simp only [i64_w, i32_w]; rw [c21b0]) | skip)
                have H' := Aside0.mk H
                clear H
                go_wp2
                repeat (go_quiet (fail); try go_wp2)
                go_meet
                case rel => exact ⟨_, ((t1011 != 101)), (by first | rfl | (simp; done) | (simp [*]; done)), H', ⟨by first | omega | exact Nat.le_refl _⟩, ⟨by repeat (first | (with_reducible first | exact HB.out | apply below_alloc | apply pw_below_drewN | apply below_drew1) | exact HB.out)⟩⟩
            case rest =>
              clear HC15
              try clear c1
              try clear p1
              try clear q1
              try clear hx1
              try clear c2
              try clear p2
              try clear c5
              try clear c8
              try clear c8b0
              try clear c9
              try clear c9b0
              try clear p10
              try clear q10
              try clear hx10
              try clear c11
              try clear c11b0
              try clear c12
              try clear c12b0
              try clear c21
              try clear c21b0
              try clear c21b1
              try clear hx1006_0
              try clear hx1008_0
              try clear p1006
              try clear p1008
              try clear q1006
              try clear q1008
              obtain ⟨kq, x51_14, rfl, HA, HJ14, HB⟩ := hcut
              cases kq with
              | zero => exact absurd HA.out (by simp [gemotlaw2_PartsPowers.j0])
              | succ kj14 =>
                have H := HA.out
                clear HA
                simp only [gemotlaw2_PartsPowers.j0] at H
                by_cases c22 : x51_14 = true
                · subst c22
                  have H1 : (if t1010 = 1 then (some (t1009.toList == ([] : List UInt8))) else (none)) = some r := by rw [if_pos rfl] at H; exact H
                  clear H
                  have H := H1
                  clear H1
                  by_cases c23 : t1010 = 1
                  · rw [if_pos c23] at H
                    have c23b0 : (t1010 == 1) = true := beq_iff_eq.mpr c23
                    have c23b1 : (t1010 != 1) = false := bne_eq_false_iff_eq.mpr c23
                    clear c23
                    obtain rfl := Option.some.inj H
                    go_wp2
                    repeat (go_quiet (fail); try go_wp2)
                    go_ret
                    exact ⟨by first | rfl | (simp [errW_none, errW_some] <;> rfl) | (simp [*, errW_none, errW_some] <;> rfl), by repeat (first | (with_reducible first | exact HB.out | apply below_alloc | apply pw_below_drewN | apply below_drew1) | exact HB.out)⟩
                  · rw [if_neg c23] at H
                    exact absurd H (by simp)
                · replace c22 := Bool.eq_false_iff.mpr c22
                  subst c22
                  have H1 : (if t1010 = 0 then ((parts_Of.f (rdOf ByteArray.empty t1002 t1005)).bind fun t1012 => ((parts_Of.f t1009).bind fun t1015 => (if (t1015.length : Int) = (wrap64 ((t1012.length : Int) + 1)) then (gemotlaw2_PartsPowers.l0 kj14 (rdOf ByteArray.empty t1002 t1007) t1012 t1015 0 false 0) else (none)))) else (if t1010 = 3 then (some true) else (some (t1010 == 4)))) = some r := by rw [if_neg (show ¬ (false = true) by decide)] at H; exact H
                  clear H
                  have H := H1
                  clear H1
                  by_cases c24 : t1010 = 0
                  · rw [if_pos c24] at H
                    have c24b0 : (t1010 == 0) = true := beq_iff_eq.mpr c24
                    have c24b1 : (t1010 != 0) = false := bne_eq_false_iff_eq.mpr c24
                    clear c24
                    replace H := Option.bind_eq_some_iff.mp H
                    obtain ⟨t1012, A250, H⟩ := H
                    replace H : ((parts_Of.f t1009).bind fun t1015 => (if (t1015.length : Int) = (wrap64 ((t1012.length : Int) + 1)) then (gemotlaw2_PartsPowers.l0 kj14 (rdOf ByteArray.empty t1002 t1007) t1012 t1015 0 false 0) else (none))) = some r := H
                    have A25 := Aside0.mk A250
                    clear A250
                    replace H := Option.bind_eq_some_iff.mp H
                    obtain ⟨t1015, A260, H⟩ := H
                    replace H : (if (t1015.length : Int) = (wrap64 ((t1012.length : Int) + 1)) then (gemotlaw2_PartsPowers.l0 kj14 (rdOf ByteArray.empty t1002 t1007) t1012 t1015 0 false 0) else (none)) = some r := H
                    have A26 := Aside0.mk A260
                    clear A260
                    by_cases c27 : (t1015.length : Int) = (wrap64 ((t1012.length : Int) + 1))
                    · rw [if_pos c27] at H
                      have c27b0 : ((t1015.length : Int) == (wrap64 ((t1012.length : Int) + 1))) = true := beq_iff_eq.mpr c27
                      have c27b1 : ((t1015.length : Int) != (wrap64 ((t1012.length : Int) + 1))) = false := bne_eq_false_iff_eq.mpr c27
                      clear c27
                      have H' := Aside0.mk H
                      clear H
                      go_wp2_with (first | (go_at_call 74; (with_reducible refine (parts_Of.calls (rdOf ByteArray.empty t1002 t1005) t1012 _ A25.out).mono ?_); rintro e w28 ⟨v1013, rfl, ho0, hb⟩; have n0_ := Aside0.mk (Kd.R_lower ho0 (below_size (by repeat (first | (with_reducible first | exact HB.out | apply below_alloc | apply pw_below_drewN | apply below_drew1) | exact HB.out)))); have n1_ := Aside0.mk (below_step (by repeat (first | (with_reducible first | exact HB.out | apply below_alloc | apply pw_below_drewN | apply below_drew1) | exact HB.out)) hb); clear HB; have HO1014 := n0_; have HB := n1_; clear n0_ n1_; (try clear hb); (try clear hb2); (try clear hk); (try clear hi); (try clear ho0)) | (go_at_call 74; (with_reducible refine (parts_Of.calls t1009 t1015 _ A26.out).mono ?_); rintro e w29 ⟨v1016, rfl, ho0, hb⟩; have n0_ := Aside0.mk (Kd.R_elder' (by (with_reducible repeat (first | apply Kd.R_alloc | apply Kd.R_drewN | apply Kd.R_drew)); exact HO1014.out) (Kd.R_base ho0) hb); have n1_ := Aside0.mk (Kd.R_lower (Kd.R_new' ho0 (Kd.R_lt (by (with_reducible repeat (first | apply Kd.R_alloc | apply Kd.R_drewN | apply Kd.R_drew)); exact HO1014.out))) (below_size (by repeat (first | (with_reducible first | exact HB.out | apply below_alloc | apply pw_below_drewN | apply below_drew1) | exact HB.out)))); have n2_ := Aside0.mk (below_step (by repeat (first | (with_reducible first | exact HB.out | apply below_alloc | apply pw_below_drewN | apply below_drew1) | exact HB.out)) hb); clear HO1014; clear HB; have HO1014 := n0_; have HO1017 := n1_; have HB := n2_; clear n0_ n1_ n2_; (try clear hb); (try clear hb2); (try clear hk); (try clear hi); (try clear ho0); obtain ⟨Ao30, co30, eo30⟩ := Kd.R_slice HO1017.out; subst eo30; obtain ⟨Ao31, co31, eo31⟩ := Kd.R_slice HO1014.out; subst eo31))
                      repeat (go_quiet (first | (go_at_call 74; (with_reducible refine (parts_Of.calls (rdOf ByteArray.empty t1002 t1005) t1012 _ A25.out).mono ?_); rintro e w28 ⟨v1013, rfl, ho0, hb⟩; have n0_ := Aside0.mk (Kd.R_lower ho0 (below_size (by repeat (first | (with_reducible first | exact HB.out | apply below_alloc | apply pw_below_drewN | apply below_drew1) | exact HB.out)))); have n1_ := Aside0.mk (below_step (by repeat (first | (with_reducible first | exact HB.out | apply below_alloc | apply pw_below_drewN | apply below_drew1) | exact HB.out)) hb); clear HB; have HO1014 := n0_; have HB := n1_; clear n0_ n1_; (try clear hb); (try clear hb2); (try clear hk); (try clear hi); (try clear ho0)) | (go_at_call 74; (with_reducible refine (parts_Of.calls t1009 t1015 _ A26.out).mono ?_); rintro e w29 ⟨v1016, rfl, ho0, hb⟩; have n0_ := Aside0.mk (Kd.R_elder' (by (with_reducible repeat (first | apply Kd.R_alloc | apply Kd.R_drewN | apply Kd.R_drew)); exact HO1014.out) (Kd.R_base ho0) hb); have n1_ := Aside0.mk (Kd.R_lower (Kd.R_new' ho0 (Kd.R_lt (by (with_reducible repeat (first | apply Kd.R_alloc | apply Kd.R_drewN | apply Kd.R_drew)); exact HO1014.out))) (below_size (by repeat (first | (with_reducible first | exact HB.out | apply below_alloc | apply pw_below_drewN | apply below_drew1) | exact HB.out)))); have n2_ := Aside0.mk (below_step (by repeat (first | (with_reducible first | exact HB.out | apply below_alloc | apply pw_below_drewN | apply below_drew1) | exact HB.out)) hb); clear HO1014; clear HB; have HO1014 := n0_; have HO1017 := n1_; have HB := n2_; clear n0_ n1_ n2_; (try clear hb); (try clear hb2); (try clear hk); (try clear hi); (try clear ho0); obtain ⟨Ao30, co30, eo30⟩ := Kd.R_slice HO1017.out; subst eo30; obtain ⟨Ao31, co31, eo31⟩ := Kd.R_slice HO1014.out; subst eo31)); try go_wp2_with (first | (go_at_call 74; (with_reducible refine (parts_Of.calls (rdOf ByteArray.empty t1002 t1005) t1012 _ A25.out).mono ?_); rintro e w28 ⟨v1013, rfl, ho0, hb⟩; have n0_ := Aside0.mk (Kd.R_lower ho0 (below_size (by repeat (first | (with_reducible first | exact HB.out | apply below_alloc | apply pw_below_drewN | apply below_drew1) | exact HB.out)))); have n1_ := Aside0.mk (below_step (by repeat (first | (with_reducible first | exact HB.out | apply below_alloc | apply pw_below_drewN | apply below_drew1) | exact HB.out)) hb); clear HB; have HO1014 := n0_; have HB := n1_; clear n0_ n1_; (try clear hb); (try clear hb2); (try clear hk); (try clear hi); (try clear ho0)) | (go_at_call 74; (with_reducible refine (parts_Of.calls t1009 t1015 _ A26.out).mono ?_); rintro e w29 ⟨v1016, rfl, ho0, hb⟩; have n0_ := Aside0.mk (Kd.R_elder' (by (with_reducible repeat (first | apply Kd.R_alloc | apply Kd.R_drewN | apply Kd.R_drew)); exact HO1014.out) (Kd.R_base ho0) hb); have n1_ := Aside0.mk (Kd.R_lower (Kd.R_new' ho0 (Kd.R_lt (by (with_reducible repeat (first | apply Kd.R_alloc | apply Kd.R_drewN | apply Kd.R_drew)); exact HO1014.out))) (below_size (by repeat (first | (with_reducible first | exact HB.out | apply below_alloc | apply pw_below_drewN | apply below_drew1) | exact HB.out)))); have n2_ := Aside0.mk (below_step (by repeat (first | (with_reducible first | exact HB.out | apply below_alloc | apply pw_below_drewN | apply below_drew1) | exact HB.out)) hb); clear HO1014; clear HB; have HO1014 := n0_; have HO1017 := n1_; have HB := n2_; clear n0_ n1_ n2_; (try clear hb); (try clear hb2); (try clear hk); (try clear hi); (try clear ho0); obtain ⟨Ao30, co30, eo30⟩ := Kd.R_slice HO1017.out; subst eo30; obtain ⟨Ao31, co31, eo31⟩ := Kd.R_slice HO1014.out; subst eo31)))
                      go_loopg [16, 17, 18] kj14 (fun kq v16 v17 v18 w' => ∃ (x16_2 : Int) (x17_2 : Bool) (x18_2 : Int), v16 = .int .i64 x16_2 ∧ v17 = .bool x17_2 ∧ v18 = .int .i64 x18_2 ∧ Aside0 (gemotlaw2_PartsPowers.l0 kq (rdOf ByteArray.empty t1002 t1007) t1012 t1015 x16_2 x17_2 x18_2 = some r) ∧ Aside0 (kq ≤ kj14) ∧ Aside0 (Kd.R Kd.string 23 w' w.heap.size (fun k_ => some k_ ≠ ((.slice Ao30 t1015.length co30) : Value).ownBlock) (.slice Ao31 t1012.length co31) t1012) ∧ Aside0 (Kd.R Kd.string 23 w' w.heap.size (fun k_ => some k_ ≠ ((.slice Ao31 t1012.length co31) : Value).ownBlock) (.slice Ao30 t1015.length co30) t1015) ∧ Aside0 (Below w.heap.size w w'))
                      case atStart => exact ⟨(0), (false), (0), (by first | rfl | (simp; done) | (simp [*]; done)), (by first | rfl | (simp; done) | (simp [*]; done)), (by first | rfl | (simp; done) | (simp [*]; done)), H', ⟨Nat.le_refl _⟩, ⟨by (with_reducible repeat (first | apply Kd.R_alloc | apply Kd.R_drewN | apply Kd.R_drew)); exact Kd.R_mono HO1014.out (fun _ hk => hk.2)⟩, ⟨by (with_reducible repeat (first | apply Kd.R_alloc | apply Kd.R_drewN | apply Kd.R_drew)); exact Kd.R_mono HO1017.out (fun _ hk => hk.2)⟩, ⟨by repeat (first | (with_reducible first | exact HB.out | apply below_alloc | apply pw_below_drewN | apply below_drew1) | exact HB.out)⟩⟩
                      case round =>
                        clear H'
                        try clear c1
                        try clear p1
                        try clear q1
                        try clear hx1
                        try clear c2
                        try clear p2
                        try clear c5
                        try clear p6
                        try clear c8
                        try clear c8b0
                        try clear c9
                        try clear c9b0
                        try clear p10
                        try clear q10
                        try clear hx10
                        try clear c11
                        try clear c11b0
                        try clear c12
                        try clear c12b0
                        try clear c21
                        try clear c21b0
                        try clear c21b1
                        try clear c22
                        try clear c23
                        try clear c23b0
                        try clear c23b1
                        try clear c24
                        try clear c24b0
                        try clear c24b1
                        try clear c27
                        try clear c27b0
                        try clear c27b1
                        try clear hx1006_0
                        try clear hx1008_0
                        try clear p1
                        try clear p10
                        try clear p1006
                        try clear p1008
                        try clear p2
                        try clear q1
                        try clear q10
                        try clear q1006
                        try clear q1008
                        obtain ⟨x16_2, x17_2, x18_2, rfl, rfl, rfl, HA, HK2, HO_14, HO_15, HB⟩ := hrel
                        cases gk with
                        | zero => exact absurd HA.out (by simp [gemotlaw2_PartsPowers.l0])
                        | succ k2 =>
                          have H := HA.out
                          clear HA
                          simp only [gemotlaw2_PartsPowers.l0] at H
                          by_cases c32 : x18_2 < (t1015.length : Int)
                          · rw [if_pos c32] at H
                            have c32b0 : decide (x18_2 < (t1015.length : Int)) = true := decide_eq_true c32
                            clear c32
                            have HC33 := Aside0.mk H
                            clear H
                            go_upto_region 22 with (fail)
                            repeat (go_quiet (fail); go_upto_region 22 with (fail))
                            go_cut [95] (fun v95 wc => ∃ (kq : Nat) (x95_32 : Bool), v95 = .bool x95_32 ∧ Aside0 (gemotlaw2_PartsPowers.j2 kq (rdOf ByteArray.empty t1002 t1007) t1012 t1015 x16_2 x17_2 x18_2 x95_32 = some r) ∧ Aside0 (kq ≤ k2) ∧ Aside0 (Kd.R Kd.string 23 wc w.heap.size (fun k_ => some k_ ≠ ((.slice Ao30 t1015.length co30) : Value).ownBlock) (.slice Ao31 t1012.length co31) t1012) ∧ Aside0 (Kd.R Kd.string 23 wc w.heap.size (fun k_ => some k_ ≠ ((.slice Ao31 t1012.length co31) : Value).ownBlock) (.slice Ao30 t1015.length co30) t1015) ∧ Aside0 (Below w.heap.size w wc))
                            case first =>
                              have H := HC33.out
                              clear HC33
                              by_cases c34 : x18_2 > 0
                              · rw [if_pos c34] at H
                                have c34b0 : decide (0 < x18_2) = true := decide_eq_true c34
                                clear c34
                                (first | rw [c34b0] | (simp only [i64_w, i32_w]; rw [c34b0]) | skip)
                                by_cases c35 : 0 ≤ x18_2
                                · rw [if_pos c35] at H
                                  have c35b0 : decide (0 ≤ x18_2) = true := decide_eq_true c35
                                  clear c35
                                  obtain ⟨ji36, hji36⟩ : ∃ j_ : Int, (wrap64 (x18_2 - 1)) = j_ := ⟨_, rfl⟩
                                  replace H : (if 0 ≤ (ji36) then (if (ji36) < (t1015.length : Int) then (gemotlaw2_PartsPowers.j2 k2 (rdOf ByteArray.empty t1002 t1007) t1012 t1015 x16_2 x17_2 x18_2 (Op.bytesLess ((rdOf ByteArray.empty t1015 x18_2).toList) ((rdOf ByteArray.empty t1015 (ji36)).toList))) else (none)) else (none)) = some r := by first | (rw [hji36] at H; exact H) | (simp only [hji36] at H ⊢; exact H)
                                  have hji36w : (IntKind.i64.wrap (x18_2 - 1)) = ji36 := (i64_w _).trans hji36
                                  by_cases c37 : 0 ≤ (ji36)
                                  · rw [if_pos c37] at H
                                    have c37b0 : decide (0 ≤ (ji36)) = true := decide_eq_true c37
                                    clear c37
                                    by_cases c38 : (ji36) < (t1015.length : Int)
                                    · rw [if_pos c38] at H
                                      have c38b0 : decide ((ji36) < (t1015.length : Int)) = true := decide_eq_true c38
                                      clear c38
                                      have H' := Aside0.mk H
                                      clear H
                                      have p1018 : 0 ≤ (x18_2 : Int) := of_decide_eq_true (by first | (with_reducible assumption) | assumption)
                                      have q1018 : x18_2 < (t1015.length : Int) := of_decide_eq_true (by first | (with_reducible assumption) | assumption)
                                      obtain ⟨ad1018, e1018, hx1018_0⟩ := Kd.at_string (Kd.R_reads' HO_15.out).2.2 x18_2 p1018 q1018
                                      cases e1018
                                      replace p1018 := eq_true p1018
                                      replace q1018 := eq_true q1018
                                      have p1019 : 0 ≤ ((ji36) : Int) := of_decide_eq_true (by first | (with_reducible assumption) | assumption)
                                      have q1019 : (ji36) < (t1015.length : Int) := of_decide_eq_true (by first | (with_reducible assumption) | assumption)
                                      obtain ⟨ad1019, e1019, hx1019_0⟩ := Kd.at_string (Kd.R_reads' HO_15.out).2.2 (ji36) p1019 q1019
                                      obtain rfl : ad1018 = ad1019 := (by injection e1019)
                                      replace p1019 := eq_true p1019
                                      replace q1019 := eq_true q1019
                                      go_wp2
                                      repeat (go_quiet (fail); try go_wp2)
                                      go_meet
                                      case rel => exact ⟨_, ((Op.bytesLess ((rdOf ByteArray.empty t1015 x18_2).toList) ((rdOf ByteArray.empty t1015 (ji36)).toList))), (by first | rfl | (simp; done) | (simp only [← hji36] <;> (first | rfl | simp)) | (simp [*]; done)), H', ⟨by have := HJ14.out; have := HK2.out; first | omega | exact Nat.le_refl _⟩, ⟨by (with_reducible repeat (first | apply Kd.R_alloc | apply Kd.R_drewN | apply Kd.R_drew)); exact HO_14.out⟩, ⟨by (with_reducible repeat (first | apply Kd.R_alloc | apply Kd.R_drewN | apply Kd.R_drew)); exact HO_15.out⟩, ⟨by repeat (first | (with_reducible first | exact HB.out | apply below_alloc | apply pw_below_drewN | apply below_drew1) | exact HB.out)⟩⟩
                                    · rw [if_neg c38] at H
                                      exact absurd H (by simp)
                                  · rw [if_neg c37] at H
                                    exact absurd H (by simp)
                                · rw [if_neg c35] at H
                                  exact absurd H (by simp)
                              · rw [if_neg c34] at H
                                have c34b0 : decide (0 < x18_2) = false := decide_eq_false c34
                                clear c34
                                (first | rw [c34b0] | (simp only [i64_w, i32_w]; rw [c34b0]) | skip)
                                have H' := Aside0.mk H
                                clear H
                                go_wp2
                                repeat (go_quiet (fail); try go_wp2)
                                go_meet
                                case rel => exact ⟨_, (false), (by first | rfl | (simp; done) | (simp [*]; done)), H', ⟨by have := HJ14.out; have := HK2.out; first | omega | exact Nat.le_refl _⟩, ⟨by (with_reducible repeat (first | apply Kd.R_alloc | apply Kd.R_drewN | apply Kd.R_drew)); exact HO_14.out⟩, ⟨by (with_reducible repeat (first | apply Kd.R_alloc | apply Kd.R_drewN | apply Kd.R_drew)); exact HO_15.out⟩, ⟨by repeat (first | (with_reducible first | exact HB.out | apply below_alloc | apply pw_below_drewN | apply below_drew1) | exact HB.out)⟩⟩
                            case rest =>
                              clear HC33
                              try clear c1
                              try clear p1
                              try clear q1
                              try clear hx1
                              try clear c2
                              try clear p2
                              try clear c3
                              try clear c5
                              try clear p6
                              try clear c8
                              try clear c8b0
                              try clear c9
                              try clear c9b0
                              try clear p10
                              try clear q10
                              try clear hx10
                              try clear c11
                              try clear c11b0
                              try clear c12
                              try clear c12b0
                              try clear c21
                              try clear c21b0
                              try clear c21b1
                              try clear c22
                              try clear c23
                              try clear c23b0
                              try clear c23b1
                              try clear c24
                              try clear c24b0
                              try clear c24b1
                              try clear c27
                              try clear c27b0
                              try clear c27b1
                              try clear c32
                              try clear c32b0
                              try clear c34
                              try clear c34b0
                              try clear c35
                              try clear c35b0
                              try clear c37
                              try clear c37b0
                              try clear c38
                              try clear c38b0
                              try clear hx1006_0
                              try clear hx1008_0
                              try clear hx1018_0
                              try clear hx1019_0
                              try clear p1
                              try clear p10
                              try clear p1006
                              try clear p1008
                              try clear p1018
                              try clear p1019
                              try clear p2
                              try clear p6
                              try clear q1
                              try clear q10
                              try clear q1006
                              try clear q1008
                              try clear q1018
                              try clear q1019
                              obtain ⟨kq, x95_32, rfl, HA, HJ32, HO_14, HO_15, HB⟩ := hcut
                              cases kq with
                              | zero => exact absurd HA.out (by simp [gemotlaw2_PartsPowers.j2])
                              | succ kj32 =>
                                have H := HA.out
                                clear HA
                                simp only [gemotlaw2_PartsPowers.j2] at H
                                by_cases c39 : x95_32 = true
                                · subst c39
                                  have H1 : (none) = some r := by rw [if_pos rfl] at H; exact H
                                  exact absurd H1 (by simp)
                                · replace c39 := Bool.eq_false_iff.mpr c39
                                  subst c39
                                  have H1 : (if x16_2 < (t1012.length : Int) then (if 0 ≤ x18_2 then (if x18_2 < (t1015.length : Int) then (if 0 ≤ x16_2 then (gemotlaw2_PartsPowers.j3 kj32 (rdOf ByteArray.empty t1002 t1007) t1012 t1015 x16_2 x17_2 x18_2 ((rdOf ByteArray.empty t1015 x18_2).toList == (rdOf ByteArray.empty t1012 x16_2).toList)) else (none)) else (none)) else (none)) else (gemotlaw2_PartsPowers.j3 kj32 (rdOf ByteArray.empty t1002 t1007) t1012 t1015 x16_2 x17_2 x18_2 false)) = some r := by rw [if_neg (show ¬ (false = true) by decide)] at H; exact H
                                  clear H
                                  have H := H1
                                  clear H1
                                  have HC40 := Aside0.mk H
                                  clear H
                                  go_upto_region 24 with (fail)
                                  repeat (go_quiet (fail); go_upto_region 24 with (fail))
                                  go_cut [110] (fun v110 wc => ∃ (kq : Nat) (x110_39 : Bool), v110 = .bool x110_39 ∧ Aside0 (gemotlaw2_PartsPowers.j3 kq (rdOf ByteArray.empty t1002 t1007) t1012 t1015 x16_2 x17_2 x18_2 x110_39 = some r) ∧ Aside0 (kq ≤ kj32) ∧ Aside0 (Kd.R Kd.string 23 wc w.heap.size (fun k_ => some k_ ≠ ((.slice Ao30 t1015.length co30) : Value).ownBlock) (.slice Ao31 t1012.length co31) t1012) ∧ Aside0 (Kd.R Kd.string 23 wc w.heap.size (fun k_ => some k_ ≠ ((.slice Ao31 t1012.length co31) : Value).ownBlock) (.slice Ao30 t1015.length co30) t1015) ∧ Aside0 (Below w.heap.size w wc))
                                  case first =>
                                    have H := HC40.out
                                    clear HC40
                                    by_cases c41 : x16_2 < (t1012.length : Int)
                                    · rw [if_pos c41] at H
                                      have c41b0 : decide (x16_2 < (t1012.length : Int)) = true := decide_eq_true c41
                                      clear c41
                                      (first | rw [c41b0] | (simp only [i64_w, i32_w]; rw [c41b0]) | skip)
                                      by_cases c42 : 0 ≤ x18_2
                                      · rw [if_pos c42] at H
                                        have c42b0 : decide (0 ≤ x18_2) = true := decide_eq_true c42
                                        clear c42
                                        by_cases c43 : x18_2 < (t1015.length : Int)
                                        · rw [if_pos c43] at H
                                          have c43b0 : decide (x18_2 < (t1015.length : Int)) = true := decide_eq_true c43
                                          clear c43
                                          by_cases c44 : 0 ≤ x16_2
                                          · rw [if_pos c44] at H
                                            have c44b0 : decide (0 ≤ x16_2) = true := decide_eq_true c44
                                            clear c44
                                            have H' := Aside0.mk H
                                            clear H
                                            have p1020 : 0 ≤ (x18_2 : Int) := of_decide_eq_true (by first | (with_reducible assumption) | assumption)
                                            have q1020 : x18_2 < (t1015.length : Int) := of_decide_eq_true (by first | (with_reducible assumption) | assumption)
                                            obtain ⟨ad1020, e1020, hx1020_0⟩ := Kd.at_string (Kd.R_reads' HO_15.out).2.2 x18_2 p1020 q1020
                                            cases e1020
                                            replace p1020 := eq_true p1020
                                            replace q1020 := eq_true q1020
                                            have p1021 : 0 ≤ (x16_2 : Int) := of_decide_eq_true (by first | (with_reducible assumption) | assumption)
                                            have q1021 : x16_2 < (t1012.length : Int) := of_decide_eq_true (by first | (with_reducible assumption) | assumption)
                                            obtain ⟨ad1021, e1021, hx1021_0⟩ := Kd.at_string (Kd.R_reads' HO_14.out).2.2 x16_2 p1021 q1021
                                            cases e1021
                                            replace p1021 := eq_true p1021
                                            replace q1021 := eq_true q1021
                                            go_wp2
                                            repeat (go_quiet (fail); try go_wp2)
                                            go_meet
                                            case rel => exact ⟨_, (((rdOf ByteArray.empty t1015 x18_2).toList == (rdOf ByteArray.empty t1012 x16_2).toList)), (by first | rfl | (simp; done) | (simp [*]; done)), H', ⟨by have := HJ14.out; have := HK2.out; have := HJ32.out; first | omega | exact Nat.le_refl _⟩, ⟨by (with_reducible repeat (first | apply Kd.R_alloc | apply Kd.R_drewN | apply Kd.R_drew)); exact HO_14.out⟩, ⟨by (with_reducible repeat (first | apply Kd.R_alloc | apply Kd.R_drewN | apply Kd.R_drew)); exact HO_15.out⟩, ⟨by repeat (first | (with_reducible first | exact HB.out | apply below_alloc | apply pw_below_drewN | apply below_drew1) | exact HB.out)⟩⟩
                                          · rw [if_neg c44] at H
                                            exact absurd H (by simp)
                                        · rw [if_neg c43] at H
                                          exact absurd H (by simp)
                                      · rw [if_neg c42] at H
                                        exact absurd H (by simp)
                                    · rw [if_neg c41] at H
                                      have c41b0 : decide (x16_2 < (t1012.length : Int)) = false := decide_eq_false c41
                                      clear c41
                                      (first | rw [c41b0] | (simp only [i64_w, i32_w]; rw [c41b0]) | skip)
                                      have H' := Aside0.mk H
                                      clear H
                                      go_wp2
                                      repeat (go_quiet (fail); try go_wp2)
                                      go_meet
                                      case rel => exact ⟨_, (false), (by first | rfl | (simp; done) | (simp [*]; done)), H', ⟨by have := HJ14.out; have := HK2.out; have := HJ32.out; first | omega | exact Nat.le_refl _⟩, ⟨by (with_reducible repeat (first | apply Kd.R_alloc | apply Kd.R_drewN | apply Kd.R_drew)); exact HO_14.out⟩, ⟨by (with_reducible repeat (first | apply Kd.R_alloc | apply Kd.R_drewN | apply Kd.R_drew)); exact HO_15.out⟩, ⟨by repeat (first | (with_reducible first | exact HB.out | apply below_alloc | apply pw_below_drewN | apply below_drew1) | exact HB.out)⟩⟩
                                  case rest =>
                                    clear HC40
                                    try clear c1
                                    try clear p1
                                    try clear q1
                                    try clear hx1
                                    try clear c2
                                    try clear p2
                                    try clear c3
                                    try clear c4
                                    try clear c5
                                    try clear p6
                                    try clear c8
                                    try clear c8b0
                                    try clear c9
                                    try clear c9b0
                                    try clear p10
                                    try clear q10
                                    try clear hx10
                                    try clear c11
                                    try clear c11b0
                                    try clear c12
                                    try clear c12b0
                                    try clear c21
                                    try clear c21b0
                                    try clear c21b1
                                    try clear c22
                                    try clear c23
                                    try clear c23b0
                                    try clear c23b1
                                    try clear c24
                                    try clear c24b0
                                    try clear c24b1
                                    try clear c27
                                    try clear c27b0
                                    try clear c27b1
                                    try clear c32
                                    try clear c32b0
                                    try clear c34
                                    try clear c34b0
                                    try clear c35
                                    try clear c35b0
                                    try clear c37
                                    try clear c37b0
                                    try clear c38
                                    try clear c38b0
                                    try clear c39
                                    try clear c41
                                    try clear c41b0
                                    try clear c42
                                    try clear c42b0
                                    try clear c43
                                    try clear c43b0
                                    try clear c44
                                    try clear c44b0
                                    try clear hx1006_0
                                    try clear hx1008_0
                                    try clear hx1018_0
                                    try clear hx1019_0
                                    try clear hx1020_0
                                    try clear hx1021_0
                                    try clear p1
                                    try clear p10
                                    try clear p1006
                                    try clear p1008
                                    try clear p1018
                                    try clear p1019
                                    try clear p1020
                                    try clear p1021
                                    try clear p2
                                    try clear p6
                                    try clear q1
                                    try clear q10
                                    try clear q1006
                                    try clear q1008
                                    try clear q1018
                                    try clear q1019
                                    try clear q1020
                                    try clear q1021
                                    obtain ⟨kq, x110_39, rfl, HA, HJ39, HO_14, HO_15, HB⟩ := hcut
                                    cases kq with
                                    | zero => exact absurd HA.out (by simp [gemotlaw2_PartsPowers.j3])
                                    | succ kj39 =>
                                      have H := HA.out
                                      clear HA
                                      simp only [gemotlaw2_PartsPowers.j3] at H
                                      by_cases c45 : x110_39 = true
                                      · subst c45
                                        have H1 : (gemotlaw2_PartsPowers.l0 kj39 (rdOf ByteArray.empty t1002 t1007) t1012 t1015 (wrap64 (x16_2 + 1)) x17_2 (wrap64 (x18_2 + 1))) = some r := by rw [if_pos rfl] at H; exact H
                                        clear H
                                        have H := H1
                                        clear H1
                                        have H' := Aside0.mk H
                                        clear H
                                        go_wp2
                                        repeat (go_quiet (fail); try go_wp2)
                                        go_roundg kj39
                                        case measure => have := HJ14.out; have := HK2.out; have := HJ32.out; have := HJ39.out; omega
                                        case rel => exact ⟨(wrap64 (x16_2 + 1)), (x17_2), (wrap64 (x18_2 + 1)), (by first | rfl | (simp; done) | (simp [*]; done)), (by first | rfl | (simp; done) | (simp [*]; done)), (by first | rfl | (simp; done) | (simp [*]; done)), H', ⟨by have := HJ14.out; have := HK2.out; have := HJ32.out; have := HJ39.out; omega⟩, ⟨by (with_reducible repeat (first | apply Kd.R_alloc | apply Kd.R_drewN | apply Kd.R_drew)); exact HO_14.out⟩, ⟨by (with_reducible repeat (first | apply Kd.R_alloc | apply Kd.R_drewN | apply Kd.R_drew)); exact HO_15.out⟩, ⟨by repeat (first | (with_reducible first | exact HB.out | apply below_alloc | apply pw_below_drewN | apply below_drew1) | exact HB.out)⟩⟩
                                      · replace c45 := Bool.eq_false_iff.mpr c45
                                        subst c45
                                        have H1 : (if 0 ≤ x18_2 then (if x18_2 < (t1015.length : Int) then (if (rdOf ByteArray.empty t1015 x18_2).toList = (rdOf ByteArray.empty t1002 t1007).toList then (if x17_2 = true then (none) else (gemotlaw2_PartsPowers.l0 kj39 (rdOf ByteArray.empty t1002 t1007) t1012 t1015 x16_2 true (wrap64 (x18_2 + 1)))) else (none)) else (none)) else (none)) = some r := by rw [if_neg (show ¬ (false = true) by decide)] at H; exact H
                                        clear H
                                        have H := H1
                                        clear H1
                                        by_cases c46 : 0 ≤ x18_2
                                        · rw [if_pos c46] at H
                                          have c46b0 : decide (0 ≤ x18_2) = true := decide_eq_true c46
                                          clear c46
                                          by_cases c47 : x18_2 < (t1015.length : Int)
                                          · rw [if_pos c47] at H
                                            have c47b0 : decide (x18_2 < (t1015.length : Int)) = true := decide_eq_true c47
                                            clear c47
                                            by_cases c48 : (rdOf ByteArray.empty t1015 x18_2).toList = (rdOf ByteArray.empty t1002 t1007).toList
                                            · rw [if_pos c48] at H
                                              have c48b0 : ((rdOf ByteArray.empty t1015 x18_2).toList == (rdOf ByteArray.empty t1002 t1007).toList) = true := beq_iff_eq.mpr c48
                                              have c48b1 : ((rdOf ByteArray.empty t1015 x18_2).toList != (rdOf ByteArray.empty t1002 t1007).toList) = false := bne_eq_false_iff_eq.mpr c48
                                              clear c48
                                              by_cases c49 : x17_2 = true
                                              · subst c49
                                                have H1 : (none) = some r := by rw [if_pos rfl] at H; exact H
                                                exact absurd H1 (by simp)
                                              · replace c49 := Bool.eq_false_iff.mpr c49
                                                subst c49
                                                have H1 : (gemotlaw2_PartsPowers.l0 kj39 (rdOf ByteArray.empty t1002 t1007) t1012 t1015 x16_2 true (wrap64 (x18_2 + 1))) = some r := by rw [if_neg (show ¬ (false = true) by decide)] at H; exact H
                                                clear H
                                                have H := H1
                                                clear H1
                                                have H' := Aside0.mk H
                                                clear H
                                                have p1022 : 0 ≤ (x18_2 : Int) := of_decide_eq_true (by first | (with_reducible assumption) | assumption)
                                                have q1022 : x18_2 < (t1015.length : Int) := of_decide_eq_true (by first | (with_reducible assumption) | assumption)
                                                obtain ⟨ad1022, e1022, hx1022_0⟩ := Kd.at_string (Kd.R_reads' HO_15.out).2.2 x18_2 p1022 q1022
                                                cases e1022
                                                replace p1022 := eq_true p1022
                                                replace q1022 := eq_true q1022
                                                go_wp2
                                                repeat (go_quiet (fail); try go_wp2)
                                                go_roundg kj39
                                                case measure => have := HJ14.out; have := HK2.out; have := HJ32.out; have := HJ39.out; omega
                                                case rel => exact ⟨(x16_2), (true), (wrap64 (x18_2 + 1)), (by first | rfl | (simp; done) | (simp [*]; done)), (by first | rfl | (simp; done) | (simp [*]; done)), (by first | rfl | (simp; done) | (simp [*]; done)), H', ⟨by have := HJ14.out; have := HK2.out; have := HJ32.out; have := HJ39.out; omega⟩, ⟨by (with_reducible repeat (first | apply Kd.R_alloc | apply Kd.R_drewN | apply Kd.R_drew)); exact HO_14.out⟩, ⟨by (with_reducible repeat (first | apply Kd.R_alloc | apply Kd.R_drewN | apply Kd.R_drew)); exact HO_15.out⟩, ⟨by repeat (first | (with_reducible first | exact HB.out | apply below_alloc | apply pw_below_drewN | apply below_drew1) | exact HB.out)⟩⟩
                                            · rw [if_neg c48] at H
                                              exact absurd H (by simp)
                                          · rw [if_neg c47] at H
                                            exact absurd H (by simp)
                                        · rw [if_neg c46] at H
                                          exact absurd H (by simp)
                          · rw [if_neg c32] at H
                            have c32b0 : decide (x18_2 < (t1015.length : Int)) = false := decide_eq_false c32
                            clear c32
                            by_cases c50 : x16_2 = (t1012.length : Int)
                            · rw [if_pos c50] at H
                              have c50b0 : (x16_2 == (t1012.length : Int)) = true := beq_iff_eq.mpr c50
                              have c50b1 : (x16_2 != (t1012.length : Int)) = false := bne_eq_false_iff_eq.mpr c50
                              clear c50
                              obtain rfl := Option.some.inj H
                              go_wp2
                              repeat (go_quiet (fail); try go_wp2)
                              go_ret
                              exact ⟨by first | rfl | (simp [errW_none, errW_some] <;> rfl) | (simp [*, errW_none, errW_some] <;> rfl), by repeat (first | (with_reducible first | exact HB.out | apply below_alloc | apply pw_below_drewN | apply below_drew1) | exact HB.out)⟩
                            · rw [if_neg c50] at H
                              exact absurd H (by simp)
                    · rw [if_neg c27] at H
                      exact absurd H (by simp)
                  · rw [if_neg c24] at H
                    have c24b0 : (t1010 == 0) = false := beq_eq_false_iff_ne.mpr c24
                    have c24b1 : (t1010 != 0) = true := bne_iff_ne.mpr c24
                    by_cases c55 : t1010 = 3
                    · rw [if_pos c55] at H
                      have c55b0 : (t1010 == 3) = true := beq_iff_eq.mpr c55
                      have c55b1 : (t1010 != 3) = false := bne_eq_false_iff_eq.mpr c55
                      clear c55
                      obtain rfl := Option.some.inj H
                      go_wp2
                      repeat (go_quiet (fail); try go_wp2)
                      go_ret
                      exact ⟨by first | rfl | (simp [errW_none, errW_some] <;> rfl) | (simp [*, errW_none, errW_some] <;> rfl), by repeat (first | (with_reducible first | exact HB.out | apply below_alloc | apply pw_below_drewN | apply below_drew1) | exact HB.out)⟩
                    · rw [if_neg c55] at H
                      have c55b0 : (t1010 == 3) = false := beq_eq_false_iff_ne.mpr c55
                      have c55b1 : (t1010 != 3) = true := bne_iff_ne.mpr c55
                      obtain rfl := Option.some.inj H
                      go_wp2
                      repeat (go_quiet (fail); try go_wp2)
                      go_ret
                      exact ⟨by first | rfl | (simp [errW_none, errW_some] <;> rfl) | (simp [*, errW_none, errW_some] <;> rfl), by repeat (first | (with_reducible first | exact HB.out | apply below_alloc | apply pw_below_drewN | apply below_drew1) | exact HB.out)⟩
          · rw [if_neg c12] at H
            exact absurd H (by simp)
        · rw [if_neg c11] at H
          exact absurd H (by simp)
      · rw [if_neg c9] at H
        exact absurd H (by simp)
    · rw [if_neg c8] at H
      exact absurd H (by simp)
  · replace c5 := Bool.eq_false_iff.mpr c5
    subst c5
    have H1 : (none) = some r := by rw [if_neg (show ¬ (false = true) by decide)] at H; exact H
    exact absurd H1 (by simp)

end Go.Proofs.Ytpfpmjdifnoeoaa.F
