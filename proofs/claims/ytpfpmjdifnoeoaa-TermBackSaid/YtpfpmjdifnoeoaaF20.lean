-- Laid by mk.py (a program of this session) over the seat's translation.
import Derived.Test.YtpfpmjdifnoeoaaF0
import Derived.Test.YtpfpmjdifnoeoaaB1
import Derived.Test.YtpfpmjdifnoeoaaF78
import Derived.Test.YtpfpmjdifnoeoaaB2
import Derived.Test.YtpfpmjdifnoeoaaF97
namespace Go.Proofs.Ytpfpmjdifnoeoaa.F
open Go.RowKit Go.Proofs.YtpfpmjdifnoeoaaW.PrintWords Go.Proofs.YtpfpmjdifnoeoaaW.PrintLast Go.Proofs.YtpfpmjdifnoeoaaW.PrintMore
attribute [local go_sem] max2_int min2_int max_two min_two max_three min_three max_four min_four
set_option linter.unusedVariables false
set_option linter.unusedSimpArgs false

/-! ### gemotlaw1_TermBack: function 20 -/
mutual
def gemotlaw1_TermBack.j0 : Nat → List (S169) → ByteArray → Bool → Bool → Option (Bool)
  | 0, _, _, _, _ => none
  | k + 1, x0, x1, x5, x24 => if x24 = true then (some x5) else ((gemotlaw1_made.f x0).bind fun t1119 => (gemotlaw1_TermBack.l0 k x1 t1119 0))
def gemotlaw1_TermBack.l0 : Nat → ByteArray → List ByteArray → Int → Option (Bool)
  | 0, _, _, _ => none
  | k + 1, x1, x6, x7 => if x7 < (x6.length : Int) then (if 0 ≤ x7 then (if (rdOf ByteArray.empty x6 x7).size + x1.size ≤ 9223372036854775807 then ((term_Take.f ((rdOf ByteArray.empty x6 x7) ++ x1)).bind fun bt1127 => (if bt1127.1.toList = (rdOf ByteArray.empty x6 x7).toList then (if bt1127.2.1.toList = x1.toList then (if bt1127.2.2 = 0 then ((term_Right.f (rdOf ByteArray.empty x6 x7)).bind fun t1132 => (if t1132 = true then ((term_Depth.f (rdOf ByteArray.empty x6 x7)).bind fun t1134 => (gemotlaw1_TermBack.j2 k x1 x6 x7 (decide (t1134 < 1)))) else (gemotlaw1_TermBack.j2 k x1 x6 x7 true))) else (gemotlaw1_TermBack.j2 k x1 x6 x7 true)) else (gemotlaw1_TermBack.j2 k x1 x6 x7 true)) else (gemotlaw1_TermBack.j2 k x1 x6 x7 true))) else (none)) else (none)) else ((term_Take.f x1).bind fun bt1122 => (if bt1122.2.2 = 0 then ((term_Right.f bt1122.1).bind fun t1125 => (if t1125 = true then (if bt1122.1.size + bt1122.2.1.size ≤ 9223372036854775807 then (some ((bt1122.1 ++ bt1122.2.1).toList == x1.toList)) else (none)) else (none))) else (if bt1122.1.toList = ([] : List UInt8) then (if bt1122.2.1.toList = ([] : List UInt8) then (some true) else (none)) else (none))))
def gemotlaw1_TermBack.j2 : Nat → ByteArray → List ByteArray → Int → Bool → Option (Bool)
  | 0, _, _, _, _ => none
  | k + 1, x1, x6, x7, x75 => if x75 = true then (none) else (gemotlaw1_TermBack.l1 k x1 x6 x7 0)
def gemotlaw1_TermBack.l1 : Nat → ByteArray → List ByteArray → Int → Int → Option (Bool)
  | 0, _, _, _, _ => none
  | k + 1, x1, x6, x7, x11 => if x11 < x7 then (if 0 ≤ x11 then (if x11 < (x6.length : Int) then (if 0 ≤ x7 then (if x7 < (x6.length : Int) then (if (rdOf ByteArray.empty x6 x11).toList = (rdOf ByteArray.empty x6 x7).toList then (gemotlaw1_TermBack.l1 k x1 x6 x7 (wrap64 (x11 + 1))) else (if ((rdOf ByteArray.empty x6 x11).size : Int) ≤ ((rdOf ByteArray.empty x6 x7).size : Int) then (if 0 ≤ ((rdOf ByteArray.empty x6 x11).size : Int) then (if ((rdOf ByteArray.empty x6 x7).extract 0 (((rdOf ByteArray.empty x6 x11).size : Int) : Int).toNat).toList = (rdOf ByteArray.empty x6 x11).toList then (none) else (if ((rdOf ByteArray.empty x6 x7).size : Int) ≤ ((rdOf ByteArray.empty x6 x11).size : Int) then (if 0 ≤ ((rdOf ByteArray.empty x6 x7).size : Int) then (if ((rdOf ByteArray.empty x6 x11).extract 0 (((rdOf ByteArray.empty x6 x7).size : Int) : Int).toNat).toList = (rdOf ByteArray.empty x6 x7).toList then (none) else (gemotlaw1_TermBack.l1 k x1 x6 x7 (wrap64 (x11 + 1)))) else (none)) else (gemotlaw1_TermBack.l1 k x1 x6 x7 (wrap64 (x11 + 1))))) else (none)) else (if ((rdOf ByteArray.empty x6 x7).size : Int) ≤ ((rdOf ByteArray.empty x6 x11).size : Int) then (if 0 ≤ ((rdOf ByteArray.empty x6 x7).size : Int) then (if ((rdOf ByteArray.empty x6 x11).extract 0 (((rdOf ByteArray.empty x6 x7).size : Int) : Int).toNat).toList = (rdOf ByteArray.empty x6 x7).toList then (none) else (gemotlaw1_TermBack.l1 k x1 x6 x7 (wrap64 (x11 + 1)))) else (none)) else (gemotlaw1_TermBack.l1 k x1 x6 x7 (wrap64 (x11 + 1)))))) else (none)) else (none)) else (none)) else (none)) else (gemotlaw1_TermBack.l0 k x1 x6 (wrap64 (x7 + 1)))
end
def gemotlaw1_TermBack.f (k : Nat) (l0 : List (S169)) (a1 : ByteArray) : Option (Bool) := (gemotlaw1_shown.f).bind fun t1118 => (if t1118 = true then (gemotlaw1_TermBack.j0 k l0 a1 t1118 (decide ((a1.size : Int) > 300))) else (gemotlaw1_TermBack.j0 k l0 a1 t1118 true))
theorem gemotlaw1_TermBack.mono_l : ∀ k, (∀ y0 y1 y2 y3, LeO (gemotlaw1_TermBack.j0 k y0 y1 y2 y3) (gemotlaw1_TermBack.j0 (k + 1) y0 y1 y2 y3)) ∧ (∀ y0 y1 y2, LeO (gemotlaw1_TermBack.l0 k y0 y1 y2) (gemotlaw1_TermBack.l0 (k + 1) y0 y1 y2)) ∧ (∀ y0 y1 y2 y3, LeO (gemotlaw1_TermBack.j2 k y0 y1 y2 y3) (gemotlaw1_TermBack.j2 (k + 1) y0 y1 y2 y3)) ∧ (∀ y0 y1 y2 y3, LeO (gemotlaw1_TermBack.l1 k y0 y1 y2 y3) (gemotlaw1_TermBack.l1 (k + 1) y0 y1 y2 y3))
  | 0 => ⟨fun _ _ _ _ r h => by simp [gemotlaw1_TermBack.j0] at h, fun _ _ _ r h => by simp [gemotlaw1_TermBack.l0] at h, fun _ _ _ _ r h => by simp [gemotlaw1_TermBack.j2] at h, fun _ _ _ _ r h => by simp [gemotlaw1_TermBack.l1] at h⟩
  | k + 1 => by
    obtain ⟨ih0, ih1, ih2, ih3⟩ := gemotlaw1_TermBack.mono_l k
    refine ⟨?_, ?_, ?_, ?_⟩
    · intro y0 y1 y2 y3
      unfold gemotlaw1_TermBack.j0
      repeat' first
      | (with_reducible exact ih0 _ _ _ _)
      | (with_reducible exact ih1 _ _ _)
      | (with_reducible exact ih2 _ _ _ _)
      | (with_reducible exact ih3 _ _ _ _)
      | (with_reducible exact LeO.refl _)
      | (with_reducible exact LeO.none _)
      | (with_reducible refine LeO.ite ?_ ?_)
      | (with_reducible refine LeO.bind ?_ (fun _ => ?_))
      | exact ih0 _ _ _ _
      | exact ih1 _ _ _
      | exact ih2 _ _ _ _
      | exact ih3 _ _ _ _
      | exact LeO.none _
      | refine LeO.ite ?_ ?_
      | refine LeO.bind ?_ (fun _ => ?_)
    · intro y0 y1 y2
      unfold gemotlaw1_TermBack.l0
      repeat' first
      | (with_reducible exact ih0 _ _ _ _)
      | (with_reducible exact ih1 _ _ _)
      | (with_reducible exact ih2 _ _ _ _)
      | (with_reducible exact ih3 _ _ _ _)
      | (with_reducible exact LeO.refl _)
      | (with_reducible exact LeO.none _)
      | (with_reducible refine LeO.ite ?_ ?_)
      | (with_reducible refine LeO.bind ?_ (fun _ => ?_))
      | exact ih0 _ _ _ _
      | exact ih1 _ _ _
      | exact ih2 _ _ _ _
      | exact ih3 _ _ _ _
      | exact LeO.none _
      | refine LeO.ite ?_ ?_
      | refine LeO.bind ?_ (fun _ => ?_)
    · intro y0 y1 y2 y3
      unfold gemotlaw1_TermBack.j2
      repeat' first
      | (with_reducible exact ih0 _ _ _ _)
      | (with_reducible exact ih1 _ _ _)
      | (with_reducible exact ih2 _ _ _ _)
      | (with_reducible exact ih3 _ _ _ _)
      | (with_reducible exact LeO.refl _)
      | (with_reducible exact LeO.none _)
      | (with_reducible refine LeO.ite ?_ ?_)
      | (with_reducible refine LeO.bind ?_ (fun _ => ?_))
      | exact ih0 _ _ _ _
      | exact ih1 _ _ _
      | exact ih2 _ _ _ _
      | exact ih3 _ _ _ _
      | exact LeO.none _
      | refine LeO.ite ?_ ?_
      | refine LeO.bind ?_ (fun _ => ?_)
    · intro y0 y1 y2 y3
      unfold gemotlaw1_TermBack.l1
      repeat' first
      | (with_reducible exact ih0 _ _ _ _)
      | (with_reducible exact ih1 _ _ _)
      | (with_reducible exact ih2 _ _ _ _)
      | (with_reducible exact ih3 _ _ _ _)
      | (with_reducible exact LeO.refl _)
      | (with_reducible exact LeO.none _)
      | (with_reducible refine LeO.ite ?_ ?_)
      | (with_reducible refine LeO.bind ?_ (fun _ => ?_))
      | exact ih0 _ _ _ _
      | exact ih1 _ _ _
      | exact ih2 _ _ _ _
      | exact ih3 _ _ _ _
      | exact LeO.none _
      | refine LeO.ite ?_ ?_
      | refine LeO.bind ?_ (fun _ => ?_)
theorem gemotlaw1_TermBack.mono : ∀ a0 a1 k, LeO (gemotlaw1_TermBack.f k a0 a1) (gemotlaw1_TermBack.f (k + 1) a0 a1) := by
  intro a0 a1 k
  obtain ⟨ih0, ih1, ih2, ih3⟩ := gemotlaw1_TermBack.mono_l k
  unfold gemotlaw1_TermBack.f
  repeat' first
      | (with_reducible exact ih0 _ _ _ _)
      | (with_reducible exact ih1 _ _ _)
      | (with_reducible exact ih2 _ _ _ _)
      | (with_reducible exact ih3 _ _ _ _)
      | (with_reducible exact LeO.refl _)
      | (with_reducible exact LeO.none _)
      | (with_reducible refine LeO.ite ?_ ?_)
      | (with_reducible refine LeO.bind ?_ (fun _ => ?_))
      | exact ih0 _ _ _ _
      | exact ih1 _ _ _
      | exact ih2 _ _ _ _
      | exact ih3 _ _ _ _
      | exact LeO.none _
      | refine LeO.ite ?_ ?_
      | refine LeO.bind ?_ (fun _ => ?_)
set_option maxHeartbeats 8000000 in
set_option maxRecDepth 100000 in
theorem gemotlaw1_TermBack.calls (k : Nat) (A0 : Option Addr) (c0 : Nat) (l0 : List (S169)) (a1 : ByteArray) (r : Bool) (w : World) (hr0 : Kd.C k169 w A0 l0.length l0) (hc0 : l0.length ≤ c0) (h : gemotlaw1_TermBack.f k l0 a1 = some r) :
    Calls Try.prog 20 #[.slice A0 l0.length c0, .string a1] w fun e w' => e = .returned (.bool r) ∧ Below w.heap.size w w' := by
  have HR0 := Aside0.mk hr0
  have HC0 := Aside0.mk hc0
  clear hr0 hc0
  have HB := Aside0.mk (Below.refl w.heap.size w)
  have H : ((gemotlaw1_shown.f).bind fun t1118 => (if t1118 = true then (gemotlaw1_TermBack.j0 k l0 a1 t1118 (decide ((a1.size : Int) > 300))) else (gemotlaw1_TermBack.j0 k l0 a1 t1118 true))) = some r := h
  clear h
  replace H := Option.bind_eq_some_iff.mp H
  obtain ⟨t1118, A30, H⟩ := H
  replace H : (if t1118 = true then (gemotlaw1_TermBack.j0 k l0 a1 t1118 (decide ((a1.size : Int) > 300))) else (gemotlaw1_TermBack.j0 k l0 a1 t1118 true)) = some r := H
  have A3 := Aside0.mk A30
  clear A30
  have HC4 := Aside0.mk H
  clear H
  go_enter Try.func20, Try.ntmps20
  go_upto_region 2 with (first | ((with_reducible refine gate_callee (f := 78) rfl ?_); refine goesL_ (some 17) rfl rfl Try.func78 (by kernel_rfl) rfl #[] rfl (by (try simp only [List.map_toArray, List.map_cons, List.map_nil]); first | done | rfl | (simp only [List.length_drop, List.length_take]; rfl)) ?_; (with_reducible refine (gemotlaw1_shown.calls  t1118 _ A3.out).mono ?_); rintro e w5 ⟨rfl, hb⟩; refine ⟨_, rfl, ?_⟩; have n0_ := Aside0.mk (below_step (by repeat (first | (with_reducible first | exact HB.out | apply below_alloc | apply pw_below_drewN | apply below_drew1) | exact HB.out)) hb); clear HB; have HB := n0_; clear n0_; (try clear hb); (try clear hb2); (try clear hk); (try clear hi)))
  (try simp only [Act.put, List.setIfInBounds_toArray, List.set_cons_zero, List.set_cons_succ])
  go_cut [24] (fun v24 wc => ∃ (kq : Nat) (x24_3 : Bool), v24 = .bool x24_3 ∧ Aside0 (gemotlaw1_TermBack.j0 kq l0 a1 t1118 x24_3 = some r) ∧ Aside0 (kq ≤ k) ∧ Aside0 (Below w.heap.size w wc))
  case first =>
    have H := HC4.out
    clear HC4
    by_cases c6 : t1118 = true
    · subst c6
      have H1 : (gemotlaw1_TermBack.j0 k l0 a1 true (decide ((a1.size : Int) > 300))) = some r := by rw [if_pos rfl] at H; exact H
      clear H
      have H := H1
      clear H1
      have H' := Aside0.mk H
      clear H
      go_wp2
      go_meet
      case rel => exact ⟨_, (decide ((a1.size : Int) > 300)), (by first | rfl | (simp; done) | (simp [*]; done)), H', ⟨by first | omega | exact Nat.le_refl _⟩, ⟨by repeat (first | (with_reducible first | exact HB.out | apply below_alloc | apply pw_below_drewN | apply below_drew1) | exact HB.out)⟩⟩
    · replace c6 := Bool.eq_false_iff.mpr c6
      subst c6
      have H1 : (gemotlaw1_TermBack.j0 k l0 a1 false true) = some r := by rw [if_neg (show ¬ (false = true) by decide)] at H; exact H
      clear H
      have H := H1
      clear H1
      have H' := Aside0.mk H
      clear H
      go_wp2
      go_meet
      case rel => exact ⟨_, (true), (by first | rfl | (simp; done) | (simp [*]; done)), H', ⟨by first | omega | exact Nat.le_refl _⟩, ⟨by repeat (first | (with_reducible first | exact HB.out | apply below_alloc | apply pw_below_drewN | apply below_drew1) | exact HB.out)⟩⟩
  case rest =>
    clear HC4
    try clear c2
    try clear p2
    try clear c6
    obtain ⟨kq, x24_3, rfl, HA, HJ3, HB⟩ := hcut
    cases kq with
    | zero => exact absurd HA.out (by simp [gemotlaw1_TermBack.j0])
    | succ kj3 =>
      have H := HA.out
      clear HA
      simp only [gemotlaw1_TermBack.j0] at H
      by_cases c7 : x24_3 = true
      · subst c7
        have H1 : (some t1118) = some r := by rw [if_pos rfl] at H; exact H
        clear H
        have H := H1
        clear H1
        obtain rfl := Option.some.inj H
        go_wp2
        go_ret
        exact ⟨by first | rfl | (simp [errW_none, errW_some] <;> rfl) | (simp [*, errW_none, errW_some] <;> rfl), by repeat (first | (with_reducible first | exact HB.out | apply below_alloc | apply pw_below_drewN | apply below_drew1) | exact HB.out)⟩
      · replace c7 := Bool.eq_false_iff.mpr c7
        subst c7
        have H1 : ((gemotlaw1_made.f l0).bind fun t1119 => (gemotlaw1_TermBack.l0 kj3 a1 t1119 0)) = some r := by rw [if_neg (show ¬ (false = true) by decide)] at H; exact H
        clear H
        have H := H1
        clear H1
        replace H := Option.bind_eq_some_iff.mp H
        obtain ⟨t1119, A80, H⟩ := H
        replace H : (gemotlaw1_TermBack.l0 kj3 a1 t1119 0) = some r := H
        have A8 := Aside0.mk A80
        clear A80
        have H' := Aside0.mk H
        clear H
        go_wp2_with (first | ((with_reducible refine gate_callee (f := 97) rfl ?_); refine goesL_ (some 27) rfl rfl Try.func97 (by kernel_rfl) rfl #[.slice A0 l0.length c0] rfl (by (try simp only [List.map_toArray, List.map_cons, List.map_nil]); first | done | rfl | (simp only [List.length_drop, List.length_take]; rfl)) ?_; (with_reducible refine (gemotlaw1_made.calls _ _ l0 t1119 _ ?side1 ?side2 A8.out).mono ?_); (case side1 => repeat (first | exact (Kd.C_below HR0.out HB.out) | (with_reducible refine Kd.C_alloc ?_ _) | (with_reducible refine Kd.C_drewN ?_ _) | (with_reducible refine Kd.C_drew ?_))); (case side2 => exact HC0.out); rintro e w9 ⟨v1120, rfl, ho0, hb⟩; refine ⟨_, rfl, ?_⟩; have n0_ := Aside0.mk (Kd.R_lower ho0 (below_size (by repeat (first | (with_reducible first | exact HB.out | apply below_alloc | apply pw_below_drewN | apply below_drew1) | exact HB.out)))); have n1_ := Aside0.mk (below_step (by repeat (first | (with_reducible first | exact HB.out | apply below_alloc | apply pw_below_drewN | apply below_drew1) | exact HB.out)) hb); clear HB; have HO1121 := n0_; have HB := n1_; clear n0_ n1_; (try clear hb); (try clear hb2); (try clear hk); (try clear hi); (try clear ho0)))
        go_loopg [7] kj3 (fun kq v7 w' => ∃ (x7_2 : Int), v7 = .int .i64 x7_2 ∧ Aside0 (gemotlaw1_TermBack.l0 kq a1 t1119 x7_2 = some r) ∧ Aside0 (kq ≤ kj3) ∧ Aside0 (Kd.R Kd.string 23 w' w.heap.size (fun _ => True) v1120 t1119) ∧ Aside0 (Below w.heap.size w w'))
        case atStart => exact ⟨(0), (by first | rfl | (simp; done) | (simp [*]; done)), H', ⟨Nat.le_refl _⟩, ⟨by (with_reducible repeat (first | apply Kd.R_alloc | apply Kd.R_drewN | apply Kd.R_drew)); exact HO1121.out⟩, ⟨by repeat (first | (with_reducible first | exact HB.out | apply below_alloc | apply pw_below_drewN | apply below_drew1) | exact HB.out)⟩⟩
        case round =>
          clear H'
          try clear c2
          try clear p2
          try clear c6
          try clear c7
          try clear c9
          try clear p2
          obtain ⟨x7_2, rfl, HA, HK2, HO_6, HB⟩ := hrel
          cases gk with
          | zero => exact absurd HA.out (by simp [gemotlaw1_TermBack.l0])
          | succ k2 =>
            have H := HA.out
            clear HA
            simp only [gemotlaw1_TermBack.l0] at H
            by_cases c10 : x7_2 < (t1119.length : Int)
            · rw [if_pos c10] at H
              have c10b0 : decide (x7_2 < (t1119.length : Int)) = true := decide_eq_true c10
              clear c10
              by_cases c11 : 0 ≤ x7_2
              · rw [if_pos c11] at H
                have c11b0 : decide (0 ≤ x7_2) = true := decide_eq_true c11
                clear c11
                by_cases c12 : (rdOf ByteArray.empty t1119 x7_2).size + a1.size ≤ 9223372036854775807
                · rw [if_pos c12] at H
                  have c12b0 := eq_true c12
                  have c12b1 : decide ((rdOf ByteArray.empty t1119 x7_2).size + a1.size ≤ 9223372036854775807) = true := decide_eq_true c12
                  try have c12b2 : (9223372036854775807 < (rdOf ByteArray.empty t1119 x7_2).size + a1.size) = False := eq_false (Nat.not_lt.2 c12)
                  replace H := Option.bind_eq_some_iff.mp H
                  obtain ⟨⟨t1127, t1128, t1129⟩, A130, H⟩ := H
                  replace H : (if t1127.toList = (rdOf ByteArray.empty t1119 x7_2).toList then (if t1128.toList = a1.toList then (if t1129 = 0 then ((term_Right.f (rdOf ByteArray.empty t1119 x7_2)).bind fun t1132 => (if t1132 = true then ((term_Depth.f (rdOf ByteArray.empty t1119 x7_2)).bind fun t1134 => (gemotlaw1_TermBack.j2 k2 a1 t1119 x7_2 (decide (t1134 < 1)))) else (gemotlaw1_TermBack.j2 k2 a1 t1119 x7_2 true))) else (gemotlaw1_TermBack.j2 k2 a1 t1119 x7_2 true)) else (gemotlaw1_TermBack.j2 k2 a1 t1119 x7_2 true)) else (gemotlaw1_TermBack.j2 k2 a1 t1119 x7_2 true)) = some r := H
                  have A13 := Aside0.mk A130
                  clear A130
                  have HC14 := Aside0.mk H
                  clear H
                  obtain ⟨Ao15, co15, eo15⟩ := Kd.R_slice HO_6.out
                  subst eo15
                  have p1126 : 0 ≤ (x7_2 : Int) := of_decide_eq_true (by first | (with_reducible assumption) | assumption)
                  have q1126 : x7_2 < (t1119.length : Int) := of_decide_eq_true (by first | (with_reducible assumption) | assumption)
                  obtain ⟨ad1126, e1126, hx1126_0⟩ := Kd.at_string (Kd.R_reads' HO_6.out).2.2 x7_2 p1126 q1126
                  cases e1126
                  replace p1126 := eq_true p1126
                  replace q1126 := eq_true q1126
                  go_upto_region 9 with (first | ((with_reducible refine gate_callee (f := 99) rfl ?_); refine goesL_ (some 41) rfl rfl Try.func99 (by kernel_rfl) rfl #[.string ((rdOf ByteArray.empty t1119 x7_2) ++ a1)] rfl (by (try simp only [List.map_toArray, List.map_cons, List.map_nil]); first | done | rfl | (simp only [List.length_drop, List.length_take]; rfl)) ?_; (with_reducible refine (term_Take.calls ((rdOf ByteArray.empty t1119 x7_2) ++ a1) t1127 t1128 t1129 _ A13.out).mono ?_); rintro e w16 ⟨rfl, hb⟩; refine ⟨_, rfl, ?_⟩; have n0_ := Aside0.mk (Kd.R_below (by (with_reducible repeat (first | apply Kd.R_alloc | apply Kd.R_drewN | apply Kd.R_drew)); exact HO_6.out) hb); have n1_ := Aside0.mk (below_step (by repeat (first | (with_reducible first | exact HB.out | apply below_alloc | apply pw_below_drewN | apply below_drew1) | exact HB.out)) hb); clear HO_6; clear HB; have HO_6 := n0_; have HB := n1_; clear n0_ n1_; (try clear hb); (try clear hb2); (try clear hk); (try clear hi)))
                  (try simp only [Act.put, List.setIfInBounds_toArray, List.set_cons_zero, List.set_cons_succ])
                  go_cut [75] (fun v75 wc => ∃ (kq : Nat) (x75_13 : Bool), v75 = .bool x75_13 ∧ Aside0 (gemotlaw1_TermBack.j2 kq a1 t1119 x7_2 x75_13 = some r) ∧ Aside0 (kq ≤ k2) ∧ Aside0 (Kd.R Kd.string 23 wc w.heap.size (fun _ => True) (.slice (some ad1126) t1119.length co15) t1119) ∧ Aside0 (Below w.heap.size w wc))
                  case first =>
                    have H := HC14.out
                    clear HC14
                    by_cases c17 : t1127.toList = (rdOf ByteArray.empty t1119 x7_2).toList
                    · rw [if_pos c17] at H
                      have c17b0 : (t1127.toList == (rdOf ByteArray.empty t1119 x7_2).toList) = true := beq_iff_eq.mpr c17
                      have c17b1 : (t1127.toList != (rdOf ByteArray.empty t1119 x7_2).toList) = false := bne_eq_false_iff_eq.mpr c17
                      clear c17
                      (first | rw [c17b0] | (simp only [i64_w, i32_w]; rw [c17b0]) | skip)
                      by_cases c18 : t1128.toList = a1.toList
                      · rw [if_pos c18] at H
                        have c18b0 : (t1128.toList == a1.toList) = true := beq_iff_eq.mpr c18
                        have c18b1 : (t1128.toList != a1.toList) = false := bne_eq_false_iff_eq.mpr c18
                        clear c18
                        by_cases c19 : t1129 = 0
                        · rw [if_pos c19] at H
                          have c19b0 : (t1129 == 0) = true := beq_iff_eq.mpr c19
                          have c19b1 : (t1129 != 0) = false := bne_eq_false_iff_eq.mpr c19
                          clear c19
                          replace H := Option.bind_eq_some_iff.mp H
                          obtain ⟨t1132, A200, H⟩ := H
                          replace H : (if t1132 = true then ((term_Depth.f (rdOf ByteArray.empty t1119 x7_2)).bind fun t1134 => (gemotlaw1_TermBack.j2 k2 a1 t1119 x7_2 (decide (t1134 < 1)))) else (gemotlaw1_TermBack.j2 k2 a1 t1119 x7_2 true)) = some r := H
                          have A20 := Aside0.mk A200
                          clear A200
                          by_cases c21 : t1132 = true
                          · subst c21
                            have H1 : ((term_Depth.f (rdOf ByteArray.empty t1119 x7_2)).bind fun t1134 => (gemotlaw1_TermBack.j2 k2 a1 t1119 x7_2 (decide (t1134 < 1)))) = some r := by rw [if_pos rfl] at H; exact H
                            clear H
                            have H := H1
                            clear H1
                            replace H := Option.bind_eq_some_iff.mp H
                            obtain ⟨t1134, A220, H⟩ := H
                            replace H : (gemotlaw1_TermBack.j2 k2 a1 t1119 x7_2 (decide (t1134 < 1))) = some r := H
                            have A22 := Aside0.mk A220
                            clear A220
                            have H' := Aside0.mk H
                            clear H
                            have p1130 : 0 ≤ (x7_2 : Int) := of_decide_eq_true (by first | (with_reducible assumption) | assumption)
                            have q1130 : x7_2 < (t1119.length : Int) := of_decide_eq_true (by first | (with_reducible assumption) | assumption)
                            obtain ⟨ad1130, e1130, hx1130_0⟩ := Kd.at_string (Kd.R_reads' HO_6.out).2.2 x7_2 p1130 q1130
                            obtain rfl : ad1126 = ad1130 := (by injection e1130)
                            replace p1130 := eq_true p1130
                            replace q1130 := eq_true q1130
                            have p1131 : 0 ≤ (x7_2 : Int) := of_decide_eq_true (by first | (with_reducible assumption) | assumption)
                            have q1131 : x7_2 < (t1119.length : Int) := of_decide_eq_true (by first | (with_reducible assumption) | assumption)
                            obtain ⟨ad1131, e1131, hx1131_0⟩ := Kd.at_string (Kd.R_reads' HO_6.out).2.2 x7_2 p1131 q1131
                            obtain rfl : ad1126 = ad1131 := (by injection e1131)
                            replace p1131 := eq_true p1131
                            replace q1131 := eq_true q1131
                            go_wp2_with (first | (go_at_call 66; (with_reducible refine (term_Right.calls (rdOf ByteArray.empty t1119 x7_2) true _ A20.out).mono ?_); rintro e w23 ⟨rfl, hb⟩; have n0_ := Aside0.mk (Kd.R_below (by (with_reducible repeat (first | apply Kd.R_alloc | apply Kd.R_drewN | apply Kd.R_drew)); exact HO_6.out) hb); have n1_ := Aside0.mk (below_step (by repeat (first | (with_reducible first | exact HB.out | apply below_alloc | apply pw_below_drewN | apply below_drew1) | exact HB.out)) hb); clear HO_6; clear HB; have HO_6 := n0_; have HB := n1_; clear n0_ n1_; (try clear hb); (try clear hb2); (try clear hk); (try clear hi); have p1133 : 0 ≤ (x7_2 : Int) := of_decide_eq_true (by first | (with_reducible assumption) | assumption); have q1133 : x7_2 < (t1119.length : Int) := of_decide_eq_true (by first | (with_reducible assumption) | assumption); obtain ⟨ad1133, e1133, hx1133_0⟩ := Kd.at_string (Kd.R_reads' HO_6.out).2.2 x7_2 p1133 q1133; obtain rfl : ad1126 = ad1133 := (by injection e1133); replace p1133 := eq_true p1133; replace q1133 := eq_true q1133) | (go_at_call 87; (with_reducible refine (term_Depth.calls (rdOf ByteArray.empty t1119 x7_2) t1134 _ A22.out).mono ?_); rintro e w24 ⟨rfl, hb⟩; have n0_ := Aside0.mk (Kd.R_below (by (with_reducible repeat (first | apply Kd.R_alloc | apply Kd.R_drewN | apply Kd.R_drew)); exact HO_6.out) hb); have n1_ := Aside0.mk (below_step (by repeat (first | (with_reducible first | exact HB.out | apply below_alloc | apply pw_below_drewN | apply below_drew1) | exact HB.out)) hb); clear HO_6; clear HB; have HO_6 := n0_; have HB := n1_; clear n0_ n1_; (try clear hb); (try clear hb2); (try clear hk); (try clear hi)))
                            go_meet
                            case rel => exact ⟨_, (decide (t1134 < 1)), (by first | rfl | (simp; done) | (simp [*]; done)), H', ⟨by have := HJ3.out; have := HK2.out; first | omega | exact Nat.le_refl _⟩, ⟨by (with_reducible repeat (first | apply Kd.R_alloc | apply Kd.R_drewN | apply Kd.R_drew)); exact HO_6.out⟩, ⟨by repeat (first | (with_reducible first | exact HB.out | apply below_alloc | apply pw_below_drewN | apply below_drew1) | exact HB.out)⟩⟩
                          · replace c21 := Bool.eq_false_iff.mpr c21
                            subst c21
                            have H1 : (gemotlaw1_TermBack.j2 k2 a1 t1119 x7_2 true) = some r := by rw [if_neg (show ¬ (false = true) by decide)] at H; exact H
                            clear H
                            have H := H1
                            clear H1
                            have H' := Aside0.mk H
                            clear H
                            have p1130 : 0 ≤ (x7_2 : Int) := of_decide_eq_true (by first | (with_reducible assumption) | assumption)
                            have q1130 : x7_2 < (t1119.length : Int) := of_decide_eq_true (by first | (with_reducible assumption) | assumption)
                            obtain ⟨ad1130, e1130, hx1130_0⟩ := Kd.at_string (Kd.R_reads' HO_6.out).2.2 x7_2 p1130 q1130
                            obtain rfl : ad1126 = ad1130 := (by injection e1130)
                            replace p1130 := eq_true p1130
                            replace q1130 := eq_true q1130
                            have p1131 : 0 ≤ (x7_2 : Int) := of_decide_eq_true (by first | (with_reducible assumption) | assumption)
                            have q1131 : x7_2 < (t1119.length : Int) := of_decide_eq_true (by first | (with_reducible assumption) | assumption)
                            obtain ⟨ad1131, e1131, hx1131_0⟩ := Kd.at_string (Kd.R_reads' HO_6.out).2.2 x7_2 p1131 q1131
                            obtain rfl : ad1126 = ad1131 := (by injection e1131)
                            replace p1131 := eq_true p1131
                            replace q1131 := eq_true q1131
                            go_wp2_with (first | (go_at_call 66; (with_reducible refine (term_Right.calls (rdOf ByteArray.empty t1119 x7_2) false _ A20.out).mono ?_); rintro e w25 ⟨rfl, hb⟩; have n0_ := Aside0.mk (Kd.R_below (by (with_reducible repeat (first | apply Kd.R_alloc | apply Kd.R_drewN | apply Kd.R_drew)); exact HO_6.out) hb); have n1_ := Aside0.mk (below_step (by repeat (first | (with_reducible first | exact HB.out | apply below_alloc | apply pw_below_drewN | apply below_drew1) | exact HB.out)) hb); clear HO_6; clear HB; have HO_6 := n0_; have HB := n1_; clear n0_ n1_; (try clear hb); (try clear hb2); (try clear hk); (try clear hi)))
                            go_meet
                            case rel => exact ⟨_, (true), (by first | rfl | (simp; done) | (simp [*]; done)), H', ⟨by have := HJ3.out; have := HK2.out; first | omega | exact Nat.le_refl _⟩, ⟨by (with_reducible repeat (first | apply Kd.R_alloc | apply Kd.R_drewN | apply Kd.R_drew)); exact HO_6.out⟩, ⟨by repeat (first | (with_reducible first | exact HB.out | apply below_alloc | apply pw_below_drewN | apply below_drew1) | exact HB.out)⟩⟩
                        · rw [if_neg c19] at H
                          have c19b0 : (t1129 == 0) = false := beq_eq_false_iff_ne.mpr c19
                          have c19b1 : (t1129 != 0) = true := bne_iff_ne.mpr c19
                          have H' := Aside0.mk H
                          clear H
                          have p1130 : 0 ≤ (x7_2 : Int) := of_decide_eq_true (by first | (with_reducible assumption) | assumption)
                          have q1130 : x7_2 < (t1119.length : Int) := of_decide_eq_true (by first | (with_reducible assumption) | assumption)
                          obtain ⟨ad1130, e1130, hx1130_0⟩ := Kd.at_string (Kd.R_reads' HO_6.out).2.2 x7_2 p1130 q1130
                          obtain rfl : ad1126 = ad1130 := (by injection e1130)
                          replace p1130 := eq_true p1130
                          replace q1130 := eq_true q1130
                          go_wp2
                          go_meet
                          case rel => exact ⟨_, (true), (by first | rfl | (simp; done) | (simp [*]; done)), H', ⟨by have := HJ3.out; have := HK2.out; first | omega | exact Nat.le_refl _⟩, ⟨by (with_reducible repeat (first | apply Kd.R_alloc | apply Kd.R_drewN | apply Kd.R_drew)); exact HO_6.out⟩, ⟨by repeat (first | (with_reducible first | exact HB.out | apply below_alloc | apply pw_below_drewN | apply below_drew1) | exact HB.out)⟩⟩
                      · rw [if_neg c18] at H
                        have c18b0 : (t1128.toList == a1.toList) = false := beq_eq_false_iff_ne.mpr c18
                        have c18b1 : (t1128.toList != a1.toList) = true := bne_iff_ne.mpr c18
                        have H' := Aside0.mk H
                        clear H
                        have p1130 : 0 ≤ (x7_2 : Int) := of_decide_eq_true (by first | (with_reducible assumption) | assumption)
                        have q1130 : x7_2 < (t1119.length : Int) := of_decide_eq_true (by first | (with_reducible assumption) | assumption)
                        obtain ⟨ad1130, e1130, hx1130_0⟩ := Kd.at_string (Kd.R_reads' HO_6.out).2.2 x7_2 p1130 q1130
                        obtain rfl : ad1126 = ad1130 := (by injection e1130)
                        replace p1130 := eq_true p1130
                        replace q1130 := eq_true q1130
                        go_wp2
                        go_meet
                        case rel => exact ⟨_, (true), (by first | rfl | (simp; done) | (simp [*]; done)), H', ⟨by have := HJ3.out; have := HK2.out; first | omega | exact Nat.le_refl _⟩, ⟨by (with_reducible repeat (first | apply Kd.R_alloc | apply Kd.R_drewN | apply Kd.R_drew)); exact HO_6.out⟩, ⟨by repeat (first | (with_reducible first | exact HB.out | apply below_alloc | apply pw_below_drewN | apply below_drew1) | exact HB.out)⟩⟩
                    · rw [if_neg c17] at H
                      have c17b0 : (t1127.toList == (rdOf ByteArray.empty t1119 x7_2).toList) = false := beq_eq_false_iff_ne.mpr c17
                      have c17b1 : (t1127.toList != (rdOf ByteArray.empty t1119 x7_2).toList) = true := bne_iff_ne.mpr c17
                      (first | rw [c17b0] | (simp only [i64_w, i32_w]; rw [c17b0]) | skip)
                      have H' := Aside0.mk H
                      clear H
                      have p1130 : 0 ≤ (x7_2 : Int) := of_decide_eq_true (by first | (with_reducible assumption) | assumption)
                      have q1130 : x7_2 < (t1119.length : Int) := of_decide_eq_true (by first | (with_reducible assumption) | assumption)
                      obtain ⟨ad1130, e1130, hx1130_0⟩ := Kd.at_string (Kd.R_reads' HO_6.out).2.2 x7_2 p1130 q1130
                      obtain rfl : ad1126 = ad1130 := (by injection e1130)
                      replace p1130 := eq_true p1130
                      replace q1130 := eq_true q1130
                      go_wp2
                      go_meet
                      case rel => exact ⟨_, (true), (by first | rfl | (simp; done) | (simp [*]; done)), H', ⟨by have := HJ3.out; have := HK2.out; first | omega | exact Nat.le_refl _⟩, ⟨by (with_reducible repeat (first | apply Kd.R_alloc | apply Kd.R_drewN | apply Kd.R_drew)); exact HO_6.out⟩, ⟨by repeat (first | (with_reducible first | exact HB.out | apply below_alloc | apply pw_below_drewN | apply below_drew1) | exact HB.out)⟩⟩
                  case rest =>
                    clear HC14
                    try clear c1
                    try clear p1
                    try clear q1
                    try clear hx1
                    try clear c2
                    try clear p2
                    try clear c6
                    try clear c7
                    try clear c9
                    try clear c10
                    try clear c10b0
                    try clear c11
                    try clear c11b0
                    try clear p11
                    try clear q11
                    try clear hx11
                    try clear c12
                    try clear c12b0
                    try clear c12b1
                    try clear c12b2
                    try clear c17
                    try clear c17b0
                    try clear c17b1
                    try clear c18
                    try clear c18b0
                    try clear c18b1
                    try clear c19
                    try clear c19b0
                    try clear c19b1
                    try clear c20
                    try clear c21
                    try clear hx1126_0
                    try clear hx1130_0
                    try clear hx1131_0
                    try clear hx1133_0
                    try clear p1126
                    try clear p1130
                    try clear p1131
                    try clear p1133
                    try clear p2
                    try clear q1126
                    try clear q1130
                    try clear q1131
                    try clear q1133
                    obtain ⟨kq, x75_13, rfl, HA, HJ13, HO_6, HB⟩ := hcut
                    cases kq with
                    | zero => exact absurd HA.out (by simp [gemotlaw1_TermBack.j2])
                    | succ kj13 =>
                      have H := HA.out
                      clear HA
                      simp only [gemotlaw1_TermBack.j2] at H
                      by_cases c26 : x75_13 = true
                      · subst c26
                        have H1 : (none) = some r := by rw [if_pos rfl] at H; exact H
                        exact absurd H1 (by simp)
                      · replace c26 := Bool.eq_false_iff.mpr c26
                        subst c26
                        have H1 : (gemotlaw1_TermBack.l1 kj13 a1 t1119 x7_2 0) = some r := by rw [if_neg (show ¬ (false = true) by decide)] at H; exact H
                        clear H
                        have H := H1
                        clear H1
                        have H' := Aside0.mk H
                        clear H
                        go_wp2
                        go_loopg [11] kj13 (fun kq v11 w' => ∃ (x11_4 : Int), v11 = .int .i64 x11_4 ∧ Aside0 (gemotlaw1_TermBack.l1 kq a1 t1119 x7_2 x11_4 = some r) ∧ Aside0 (kq ≤ kj13) ∧ Aside0 (Kd.R Kd.string 23 w' w.heap.size (fun _ => True) (.slice (some ad1126) t1119.length co15) t1119) ∧ Aside0 (Below w.heap.size w w'))
                        case atStart => exact ⟨(0), (by first | rfl | (simp; done) | (simp [*]; done)), H', ⟨Nat.le_refl _⟩, ⟨by (with_reducible repeat (first | apply Kd.R_alloc | apply Kd.R_drewN | apply Kd.R_drew)); exact HO_6.out⟩, ⟨by repeat (first | (with_reducible first | exact HB.out | apply below_alloc | apply pw_below_drewN | apply below_drew1) | exact HB.out)⟩⟩
                        case round =>
                          clear H'
                          try clear c1
                          try clear p1
                          try clear q1
                          try clear hx1
                          try clear c2
                          try clear p2
                          try clear c6
                          try clear c7
                          try clear c9
                          try clear c10
                          try clear c10b0
                          try clear c11
                          try clear c11b0
                          try clear p11
                          try clear q11
                          try clear hx11
                          try clear c12
                          try clear c12b0
                          try clear c12b1
                          try clear c12b2
                          try clear c17
                          try clear c17b0
                          try clear c17b1
                          try clear c18
                          try clear c18b0
                          try clear c18b1
                          try clear c19
                          try clear c19b0
                          try clear c19b1
                          try clear c20
                          try clear c21
                          try clear c26
                          try clear hx1126_0
                          try clear hx1130_0
                          try clear hx1131_0
                          try clear hx1133_0
                          try clear p1
                          try clear p11
                          try clear p1126
                          try clear p1130
                          try clear p1131
                          try clear p1133
                          try clear p2
                          try clear q1
                          try clear q11
                          try clear q1126
                          try clear q1130
                          try clear q1131
                          try clear q1133
                          obtain ⟨x11_4, rfl, HA, HK4, HO_6, HB⟩ := hrel
                          cases gk with
                          | zero => exact absurd HA.out (by simp [gemotlaw1_TermBack.l1])
                          | succ k4 =>
                            have H := HA.out
                            clear HA
                            simp only [gemotlaw1_TermBack.l1] at H
                            by_cases c27 : x11_4 < x7_2
                            · rw [if_pos c27] at H
                              have c27b0 : decide (x11_4 < x7_2) = true := decide_eq_true c27
                              clear c27
                              by_cases c28 : 0 ≤ x11_4
                              · rw [if_pos c28] at H
                                have c28b0 : decide (0 ≤ x11_4) = true := decide_eq_true c28
                                clear c28
                                by_cases c29 : x11_4 < (t1119.length : Int)
                                · rw [if_pos c29] at H
                                  have c29b0 : decide (x11_4 < (t1119.length : Int)) = true := decide_eq_true c29
                                  clear c29
                                  by_cases c30 : 0 ≤ x7_2
                                  · rw [if_pos c30] at H
                                    have c30b0 : decide (0 ≤ x7_2) = true := decide_eq_true c30
                                    clear c30
                                    by_cases c31 : x7_2 < (t1119.length : Int)
                                    · rw [if_pos c31] at H
                                      have c31b0 : decide (x7_2 < (t1119.length : Int)) = true := decide_eq_true c31
                                      clear c31
                                      by_cases c32 : (rdOf ByteArray.empty t1119 x11_4).toList = (rdOf ByteArray.empty t1119 x7_2).toList
                                      · rw [if_pos c32] at H
                                        have c32b0 : ((rdOf ByteArray.empty t1119 x11_4).toList == (rdOf ByteArray.empty t1119 x7_2).toList) = true := beq_iff_eq.mpr c32
                                        have c32b1 : ((rdOf ByteArray.empty t1119 x11_4).toList != (rdOf ByteArray.empty t1119 x7_2).toList) = false := bne_eq_false_iff_eq.mpr c32
                                        clear c32
                                        have H' := Aside0.mk H
                                        clear H
                                        have p1135 : 0 ≤ (x11_4 : Int) := of_decide_eq_true (by first | (with_reducible assumption) | assumption)
                                        have q1135 : x11_4 < (t1119.length : Int) := of_decide_eq_true (by first | (with_reducible assumption) | assumption)
                                        obtain ⟨ad1135, e1135, hx1135_0⟩ := Kd.at_string (Kd.R_reads' HO_6.out).2.2 x11_4 p1135 q1135
                                        obtain rfl : ad1126 = ad1135 := (by injection e1135)
                                        replace p1135 := eq_true p1135
                                        replace q1135 := eq_true q1135
                                        have p1136 : 0 ≤ (x7_2 : Int) := of_decide_eq_true (by first | (with_reducible assumption) | assumption)
                                        have q1136 : x7_2 < (t1119.length : Int) := of_decide_eq_true (by first | (with_reducible assumption) | assumption)
                                        obtain ⟨ad1136, e1136, hx1136_0⟩ := Kd.at_string (Kd.R_reads' HO_6.out).2.2 x7_2 p1136 q1136
                                        obtain rfl : ad1126 = ad1136 := (by injection e1136)
                                        replace p1136 := eq_true p1136
                                        replace q1136 := eq_true q1136
                                        go_wp2
                                        go_roundg k4
                                        case measure => have := HJ3.out; have := HK2.out; have := HJ13.out; have := HK4.out; omega
                                        case rel => exact ⟨(wrap64 (x11_4 + 1)), (by first | rfl | (simp; done) | (simp [*]; done)), H', ⟨by have := HJ3.out; have := HK2.out; have := HJ13.out; have := HK4.out; omega⟩, ⟨by (with_reducible repeat (first | apply Kd.R_alloc | apply Kd.R_drewN | apply Kd.R_drew)); exact HO_6.out⟩, ⟨by repeat (first | (with_reducible first | exact HB.out | apply below_alloc | apply pw_below_drewN | apply below_drew1) | exact HB.out)⟩⟩
                                      · rw [if_neg c32] at H
                                        have c32b0 : ((rdOf ByteArray.empty t1119 x11_4).toList == (rdOf ByteArray.empty t1119 x7_2).toList) = false := beq_eq_false_iff_ne.mpr c32
                                        have c32b1 : ((rdOf ByteArray.empty t1119 x11_4).toList != (rdOf ByteArray.empty t1119 x7_2).toList) = true := bne_iff_ne.mpr c32
                                        by_cases c33 : ((rdOf ByteArray.empty t1119 x11_4).size : Int) ≤ ((rdOf ByteArray.empty t1119 x7_2).size : Int)
                                        · rw [if_pos c33] at H
                                          have c33b0 : decide (((rdOf ByteArray.empty t1119 x11_4).size : Int) ≤ ((rdOf ByteArray.empty t1119 x7_2).size : Int)) = true := decide_eq_true c33
                                          have c33b1 : decide ((rdOf ByteArray.empty t1119 x11_4).size ≤ (rdOf ByteArray.empty t1119 x7_2).size) = true := decide_eq_true (Int.ofNat_le.mp c33)
                                          clear c33
                                          by_cases c34 : 0 ≤ ((rdOf ByteArray.empty t1119 x11_4).size : Int)
                                          · rw [if_pos c34] at H
                                            have c34b0 := eq_true c34
                                            have c34b1 : decide (0 ≤ ((rdOf ByteArray.empty t1119 x11_4).size : Int)) = true := decide_eq_true c34
                                            clear c34
                                            have c35b0 := eq_true (of_decide_eq_true (by first | (with_reducible assumption) | assumption) : ((rdOf ByteArray.empty t1119 x11_4).size : Int) ≤ ((rdOf ByteArray.empty t1119 x7_2).size : Int))
                                            by_cases c36 : ((rdOf ByteArray.empty t1119 x7_2).extract 0 (((rdOf ByteArray.empty t1119 x11_4).size : Int) : Int).toNat).toList = (rdOf ByteArray.empty t1119 x11_4).toList
                                            · rw [if_pos c36] at H
                                              exact absurd H (by simp)
                                            · rw [if_neg c36] at H
                                              have c36b0 : (((rdOf ByteArray.empty t1119 x7_2).extract 0 (((rdOf ByteArray.empty t1119 x11_4).size : Int) : Int).toNat).toList == (rdOf ByteArray.empty t1119 x11_4).toList) = false := beq_eq_false_iff_ne.mpr c36
                                              have c36b0_n : (((rdOf ByteArray.empty t1119 x7_2).extract 0 (rdOf ByteArray.empty t1119 x11_4).size).toList == (rdOf ByteArray.empty t1119 x11_4).toList) = false := by simpa using c36b0
                                              have c36b1 : (((rdOf ByteArray.empty t1119 x7_2).extract 0 (((rdOf ByteArray.empty t1119 x11_4).size : Int) : Int).toNat).toList != (rdOf ByteArray.empty t1119 x11_4).toList) = true := bne_iff_ne.mpr c36
                                              have c36b1_n : (((rdOf ByteArray.empty t1119 x7_2).extract 0 (rdOf ByteArray.empty t1119 x11_4).size).toList != (rdOf ByteArray.empty t1119 x11_4).toList) = true := by simpa using c36b1
                                              by_cases c37 : ((rdOf ByteArray.empty t1119 x7_2).size : Int) ≤ ((rdOf ByteArray.empty t1119 x11_4).size : Int)
                                              · rw [if_pos c37] at H
                                                have c37b0 : decide (((rdOf ByteArray.empty t1119 x7_2).size : Int) ≤ ((rdOf ByteArray.empty t1119 x11_4).size : Int)) = true := decide_eq_true c37
                                                have c37b1 : decide ((rdOf ByteArray.empty t1119 x7_2).size ≤ (rdOf ByteArray.empty t1119 x11_4).size) = true := decide_eq_true (Int.ofNat_le.mp c37)
                                                clear c37
                                                by_cases c38 : 0 ≤ ((rdOf ByteArray.empty t1119 x7_2).size : Int)
                                                · rw [if_pos c38] at H
                                                  have c38b0 := eq_true c38
                                                  have c38b1 : decide (0 ≤ ((rdOf ByteArray.empty t1119 x7_2).size : Int)) = true := decide_eq_true c38
                                                  clear c38
                                                  have c39b0 := eq_true (of_decide_eq_true (by first | (with_reducible assumption) | assumption) : ((rdOf ByteArray.empty t1119 x7_2).size : Int) ≤ ((rdOf ByteArray.empty t1119 x11_4).size : Int))
                                                  by_cases c40 : ((rdOf ByteArray.empty t1119 x11_4).extract 0 (((rdOf ByteArray.empty t1119 x7_2).size : Int) : Int).toNat).toList = (rdOf ByteArray.empty t1119 x7_2).toList
                                                  · rw [if_pos c40] at H
                                                    exact absurd H (by simp)
                                                  · rw [if_neg c40] at H
                                                    have c40b0 : (((rdOf ByteArray.empty t1119 x11_4).extract 0 (((rdOf ByteArray.empty t1119 x7_2).size : Int) : Int).toNat).toList == (rdOf ByteArray.empty t1119 x7_2).toList) = false := beq_eq_false_iff_ne.mpr c40
                                                    have c40b0_n : (((rdOf ByteArray.empty t1119 x11_4).extract 0 (rdOf ByteArray.empty t1119 x7_2).size).toList == (rdOf ByteArray.empty t1119 x7_2).toList) = false := by simpa using c40b0
                                                    have c40b1 : (((rdOf ByteArray.empty t1119 x11_4).extract 0 (((rdOf ByteArray.empty t1119 x7_2).size : Int) : Int).toNat).toList != (rdOf ByteArray.empty t1119 x7_2).toList) = true := bne_iff_ne.mpr c40
                                                    have c40b1_n : (((rdOf ByteArray.empty t1119 x11_4).extract 0 (rdOf ByteArray.empty t1119 x7_2).size).toList != (rdOf ByteArray.empty t1119 x7_2).toList) = true := by simpa using c40b1
                                                    have H' := Aside0.mk H
                                                    clear H
                                                    have p1135 : 0 ≤ (x11_4 : Int) := of_decide_eq_true (by first | (with_reducible assumption) | assumption)
                                                    have q1135 : x11_4 < (t1119.length : Int) := of_decide_eq_true (by first | (with_reducible assumption) | assumption)
                                                    obtain ⟨ad1135, e1135, hx1135_0⟩ := Kd.at_string (Kd.R_reads' HO_6.out).2.2 x11_4 p1135 q1135
                                                    obtain rfl : ad1126 = ad1135 := (by injection e1135)
                                                    replace p1135 := eq_true p1135
                                                    replace q1135 := eq_true q1135
                                                    have p1136 : 0 ≤ (x7_2 : Int) := of_decide_eq_true (by first | (with_reducible assumption) | assumption)
                                                    have q1136 : x7_2 < (t1119.length : Int) := of_decide_eq_true (by first | (with_reducible assumption) | assumption)
                                                    obtain ⟨ad1136, e1136, hx1136_0⟩ := Kd.at_string (Kd.R_reads' HO_6.out).2.2 x7_2 p1136 q1136
                                                    obtain rfl : ad1126 = ad1136 := (by injection e1136)
                                                    replace p1136 := eq_true p1136
                                                    replace q1136 := eq_true q1136
                                                    go_wp2
                                                    go_roundg k4
                                                    case measure => have := HJ3.out; have := HK2.out; have := HJ13.out; have := HK4.out; omega
                                                    case rel => exact ⟨(wrap64 (x11_4 + 1)), (by first | rfl | (simp; done) | (simp [*]; done)), H', ⟨by have := HJ3.out; have := HK2.out; have := HJ13.out; have := HK4.out; omega⟩, ⟨by (with_reducible repeat (first | apply Kd.R_alloc | apply Kd.R_drewN | apply Kd.R_drew)); exact HO_6.out⟩, ⟨by repeat (first | (with_reducible first | exact HB.out | apply below_alloc | apply pw_below_drewN | apply below_drew1) | exact HB.out)⟩⟩
                                                · rw [if_neg c38] at H
                                                  exact absurd H (by simp)
                                              · rw [if_neg c37] at H
                                                have c37b0 : decide (((rdOf ByteArray.empty t1119 x7_2).size : Int) ≤ ((rdOf ByteArray.empty t1119 x11_4).size : Int)) = false := decide_eq_false c37
                                                have c37b1 : decide ((rdOf ByteArray.empty t1119 x7_2).size ≤ (rdOf ByteArray.empty t1119 x11_4).size) = false := decide_eq_false (fun h => c37 (Int.ofNat_le.mpr h))
                                                clear c37
                                                have H' := Aside0.mk H
                                                clear H
                                                have p1135 : 0 ≤ (x11_4 : Int) := of_decide_eq_true (by first | (with_reducible assumption) | assumption)
                                                have q1135 : x11_4 < (t1119.length : Int) := of_decide_eq_true (by first | (with_reducible assumption) | assumption)
                                                obtain ⟨ad1135, e1135, hx1135_0⟩ := Kd.at_string (Kd.R_reads' HO_6.out).2.2 x11_4 p1135 q1135
                                                obtain rfl : ad1126 = ad1135 := (by injection e1135)
                                                replace p1135 := eq_true p1135
                                                replace q1135 := eq_true q1135
                                                have p1136 : 0 ≤ (x7_2 : Int) := of_decide_eq_true (by first | (with_reducible assumption) | assumption)
                                                have q1136 : x7_2 < (t1119.length : Int) := of_decide_eq_true (by first | (with_reducible assumption) | assumption)
                                                obtain ⟨ad1136, e1136, hx1136_0⟩ := Kd.at_string (Kd.R_reads' HO_6.out).2.2 x7_2 p1136 q1136
                                                obtain rfl : ad1126 = ad1136 := (by injection e1136)
                                                replace p1136 := eq_true p1136
                                                replace q1136 := eq_true q1136
                                                go_wp2
                                                go_roundg k4
                                                case measure => have := HJ3.out; have := HK2.out; have := HJ13.out; have := HK4.out; omega
                                                case rel => exact ⟨(wrap64 (x11_4 + 1)), (by first | rfl | (simp; done) | (simp [*]; done)), H', ⟨by have := HJ3.out; have := HK2.out; have := HJ13.out; have := HK4.out; omega⟩, ⟨by (with_reducible repeat (first | apply Kd.R_alloc | apply Kd.R_drewN | apply Kd.R_drew)); exact HO_6.out⟩, ⟨by repeat (first | (with_reducible first | exact HB.out | apply below_alloc | apply pw_below_drewN | apply below_drew1) | exact HB.out)⟩⟩
                                          · rw [if_neg c34] at H
                                            exact absurd H (by simp)
                                        · rw [if_neg c33] at H
                                          have c33b0 : decide (((rdOf ByteArray.empty t1119 x11_4).size : Int) ≤ ((rdOf ByteArray.empty t1119 x7_2).size : Int)) = false := decide_eq_false c33
                                          have c33b1 : decide ((rdOf ByteArray.empty t1119 x11_4).size ≤ (rdOf ByteArray.empty t1119 x7_2).size) = false := decide_eq_false (fun h => c33 (Int.ofNat_le.mpr h))
                                          clear c33
                                          by_cases c41 : ((rdOf ByteArray.empty t1119 x7_2).size : Int) ≤ ((rdOf ByteArray.empty t1119 x11_4).size : Int)
                                          · rw [if_pos c41] at H
                                            have c41b0 : decide (((rdOf ByteArray.empty t1119 x7_2).size : Int) ≤ ((rdOf ByteArray.empty t1119 x11_4).size : Int)) = true := decide_eq_true c41
                                            have c41b1 : decide ((rdOf ByteArray.empty t1119 x7_2).size ≤ (rdOf ByteArray.empty t1119 x11_4).size) = true := decide_eq_true (Int.ofNat_le.mp c41)
                                            clear c41
                                            by_cases c42 : 0 ≤ ((rdOf ByteArray.empty t1119 x7_2).size : Int)
                                            · rw [if_pos c42] at H
                                              have c42b0 := eq_true c42
                                              have c42b1 : decide (0 ≤ ((rdOf ByteArray.empty t1119 x7_2).size : Int)) = true := decide_eq_true c42
                                              clear c42
                                              have c43b0 := eq_true (of_decide_eq_true (by first | (with_reducible assumption) | assumption) : ((rdOf ByteArray.empty t1119 x7_2).size : Int) ≤ ((rdOf ByteArray.empty t1119 x11_4).size : Int))
                                              by_cases c44 : ((rdOf ByteArray.empty t1119 x11_4).extract 0 (((rdOf ByteArray.empty t1119 x7_2).size : Int) : Int).toNat).toList = (rdOf ByteArray.empty t1119 x7_2).toList
                                              · rw [if_pos c44] at H
                                                exact absurd H (by simp)
                                              · rw [if_neg c44] at H
                                                have c44b0 : (((rdOf ByteArray.empty t1119 x11_4).extract 0 (((rdOf ByteArray.empty t1119 x7_2).size : Int) : Int).toNat).toList == (rdOf ByteArray.empty t1119 x7_2).toList) = false := beq_eq_false_iff_ne.mpr c44
                                                have c44b0_n : (((rdOf ByteArray.empty t1119 x11_4).extract 0 (rdOf ByteArray.empty t1119 x7_2).size).toList == (rdOf ByteArray.empty t1119 x7_2).toList) = false := by simpa using c44b0
                                                have c44b1 : (((rdOf ByteArray.empty t1119 x11_4).extract 0 (((rdOf ByteArray.empty t1119 x7_2).size : Int) : Int).toNat).toList != (rdOf ByteArray.empty t1119 x7_2).toList) = true := bne_iff_ne.mpr c44
                                                have c44b1_n : (((rdOf ByteArray.empty t1119 x11_4).extract 0 (rdOf ByteArray.empty t1119 x7_2).size).toList != (rdOf ByteArray.empty t1119 x7_2).toList) = true := by simpa using c44b1
                                                have H' := Aside0.mk H
                                                clear H
                                                have p1135 : 0 ≤ (x11_4 : Int) := of_decide_eq_true (by first | (with_reducible assumption) | assumption)
                                                have q1135 : x11_4 < (t1119.length : Int) := of_decide_eq_true (by first | (with_reducible assumption) | assumption)
                                                obtain ⟨ad1135, e1135, hx1135_0⟩ := Kd.at_string (Kd.R_reads' HO_6.out).2.2 x11_4 p1135 q1135
                                                obtain rfl : ad1126 = ad1135 := (by injection e1135)
                                                replace p1135 := eq_true p1135
                                                replace q1135 := eq_true q1135
                                                have p1136 : 0 ≤ (x7_2 : Int) := of_decide_eq_true (by first | (with_reducible assumption) | assumption)
                                                have q1136 : x7_2 < (t1119.length : Int) := of_decide_eq_true (by first | (with_reducible assumption) | assumption)
                                                obtain ⟨ad1136, e1136, hx1136_0⟩ := Kd.at_string (Kd.R_reads' HO_6.out).2.2 x7_2 p1136 q1136
                                                obtain rfl : ad1126 = ad1136 := (by injection e1136)
                                                replace p1136 := eq_true p1136
                                                replace q1136 := eq_true q1136
                                                go_wp2
                                                go_roundg k4
                                                case measure => have := HJ3.out; have := HK2.out; have := HJ13.out; have := HK4.out; omega
                                                case rel => exact ⟨(wrap64 (x11_4 + 1)), (by first | rfl | (simp; done) | (simp [*]; done)), H', ⟨by have := HJ3.out; have := HK2.out; have := HJ13.out; have := HK4.out; omega⟩, ⟨by (with_reducible repeat (first | apply Kd.R_alloc | apply Kd.R_drewN | apply Kd.R_drew)); exact HO_6.out⟩, ⟨by repeat (first | (with_reducible first | exact HB.out | apply below_alloc | apply pw_below_drewN | apply below_drew1) | exact HB.out)⟩⟩
                                            · rw [if_neg c42] at H
                                              exact absurd H (by simp)
                                          · rw [if_neg c41] at H
                                            have c41b0 : decide (((rdOf ByteArray.empty t1119 x7_2).size : Int) ≤ ((rdOf ByteArray.empty t1119 x11_4).size : Int)) = false := decide_eq_false c41
                                            have c41b1 : decide ((rdOf ByteArray.empty t1119 x7_2).size ≤ (rdOf ByteArray.empty t1119 x11_4).size) = false := decide_eq_false (fun h => c41 (Int.ofNat_le.mpr h))
                                            clear c41
                                            have H' := Aside0.mk H
                                            clear H
                                            have p1135 : 0 ≤ (x11_4 : Int) := of_decide_eq_true (by first | (with_reducible assumption) | assumption)
                                            have q1135 : x11_4 < (t1119.length : Int) := of_decide_eq_true (by first | (with_reducible assumption) | assumption)
                                            obtain ⟨ad1135, e1135, hx1135_0⟩ := Kd.at_string (Kd.R_reads' HO_6.out).2.2 x11_4 p1135 q1135
                                            obtain rfl : ad1126 = ad1135 := (by injection e1135)
                                            replace p1135 := eq_true p1135
                                            replace q1135 := eq_true q1135
                                            have p1136 : 0 ≤ (x7_2 : Int) := of_decide_eq_true (by first | (with_reducible assumption) | assumption)
                                            have q1136 : x7_2 < (t1119.length : Int) := of_decide_eq_true (by first | (with_reducible assumption) | assumption)
                                            obtain ⟨ad1136, e1136, hx1136_0⟩ := Kd.at_string (Kd.R_reads' HO_6.out).2.2 x7_2 p1136 q1136
                                            obtain rfl : ad1126 = ad1136 := (by injection e1136)
                                            replace p1136 := eq_true p1136
                                            replace q1136 := eq_true q1136
                                            go_wp2
                                            go_roundg k4
                                            case measure => have := HJ3.out; have := HK2.out; have := HJ13.out; have := HK4.out; omega
                                            case rel => exact ⟨(wrap64 (x11_4 + 1)), (by first | rfl | (simp; done) | (simp [*]; done)), H', ⟨by have := HJ3.out; have := HK2.out; have := HJ13.out; have := HK4.out; omega⟩, ⟨by (with_reducible repeat (first | apply Kd.R_alloc | apply Kd.R_drewN | apply Kd.R_drew)); exact HO_6.out⟩, ⟨by repeat (first | (with_reducible first | exact HB.out | apply below_alloc | apply pw_below_drewN | apply below_drew1) | exact HB.out)⟩⟩
                                    · rw [if_neg c31] at H
                                      exact absurd H (by simp)
                                  · rw [if_neg c30] at H
                                    exact absurd H (by simp)
                                · rw [if_neg c29] at H
                                  exact absurd H (by simp)
                              · rw [if_neg c28] at H
                                exact absurd H (by simp)
                            · rw [if_neg c27] at H
                              have c27b0 : decide (x11_4 < x7_2) = false := decide_eq_false c27
                              clear c27
                              have H' := Aside0.mk H
                              clear H
                              go_wp2
                              go_roundg k4
                              case measure => have := HJ3.out; have := HK2.out; have := HJ13.out; have := HK4.out; omega
                              case rel => exact ⟨(wrap64 (x7_2 + 1)), (by first | rfl | (simp; done) | (simp [*]; done)), H', ⟨by have := HJ3.out; have := HK2.out; have := HJ13.out; have := HK4.out; omega⟩, ⟨by (with_reducible repeat (first | apply Kd.R_alloc | apply Kd.R_drewN | apply Kd.R_drew)); exact HO_6.out⟩, ⟨by repeat (first | (with_reducible first | exact HB.out | apply below_alloc | apply pw_below_drewN | apply below_drew1) | exact HB.out)⟩⟩
                · rw [if_neg c12] at H
                  exact absurd H (by simp)
              · rw [if_neg c11] at H
                exact absurd H (by simp)
            · rw [if_neg c10] at H
              have c10b0 : decide (x7_2 < (t1119.length : Int)) = false := decide_eq_false c10
              clear c10
              replace H := Option.bind_eq_some_iff.mp H
              obtain ⟨⟨t1122, t1123, t1124⟩, A450, H⟩ := H
              replace H : (if t1124 = 0 then ((term_Right.f t1122).bind fun t1125 => (if t1125 = true then (if t1122.size + t1123.size ≤ 9223372036854775807 then (some ((t1122 ++ t1123).toList == a1.toList)) else (none)) else (none))) else (if t1122.toList = ([] : List UInt8) then (if t1123.toList = ([] : List UInt8) then (some true) else (none)) else (none))) = some r := H
              have A45 := Aside0.mk A450
              clear A450
              by_cases c46 : t1124 = 0
              · rw [if_pos c46] at H
                have c46b0 : (t1124 == 0) = true := beq_iff_eq.mpr c46
                have c46b1 : (t1124 != 0) = false := bne_eq_false_iff_eq.mpr c46
                clear c46
                replace H := Option.bind_eq_some_iff.mp H
                obtain ⟨t1125, A470, H⟩ := H
                replace H : (if t1125 = true then (if t1122.size + t1123.size ≤ 9223372036854775807 then (some ((t1122 ++ t1123).toList == a1.toList)) else (none)) else (none)) = some r := H
                have A47 := Aside0.mk A470
                clear A470
                by_cases c48 : t1125 = true
                · subst c48
                  have H1 : (if t1122.size + t1123.size ≤ 9223372036854775807 then (some ((t1122 ++ t1123).toList == a1.toList)) else (none)) = some r := by rw [if_pos rfl] at H; exact H
                  clear H
                  have H := H1
                  clear H1
                  by_cases c49 : t1122.size + t1123.size ≤ 9223372036854775807
                  · rw [if_pos c49] at H
                    have c49b0 := eq_true c49
                    have c49b1 : decide (t1122.size + t1123.size ≤ 9223372036854775807) = true := decide_eq_true c49
                    try have c49b2 : (9223372036854775807 < t1122.size + t1123.size) = False := eq_false (Nat.not_lt.2 c49)
                    obtain rfl := Option.some.inj H
                    obtain ⟨Ao50, co50, eo50⟩ := Kd.R_slice HO_6.out
                    subst eo50
                    go_wp2_with (first | ((with_reducible refine gate_callee (f := 99) rfl ?_); refine goesL_ (some 124) rfl rfl Try.func99 (by kernel_rfl) rfl #[.string a1] rfl (by (try simp only [List.map_toArray, List.map_cons, List.map_nil]); first | done | rfl | (simp only [List.length_drop, List.length_take]; rfl)) ?_; (with_reducible refine (term_Take.calls a1 t1122 t1123 t1124 _ A45.out).mono ?_); rintro e w51 ⟨rfl, hb⟩; refine ⟨_, rfl, ?_⟩; have n0_ := Aside0.mk (Kd.R_below (by (with_reducible repeat (first | apply Kd.R_alloc | apply Kd.R_drewN | apply Kd.R_drew)); exact HO_6.out) hb); have n1_ := Aside0.mk (below_step (by repeat (first | (with_reducible first | exact HB.out | apply below_alloc | apply pw_below_drewN | apply below_drew1) | exact HB.out)) hb); clear HO_6; clear HB; have HO_6 := n0_; have HB := n1_; clear n0_ n1_; (try clear hb); (try clear hb2); (try clear hk); (try clear hi)) | (go_at_call 66; (with_reducible refine (term_Right.calls t1122 true _ A47.out).mono ?_); rintro e w52 ⟨rfl, hb⟩; have n0_ := Aside0.mk (Kd.R_below (by (with_reducible repeat (first | apply Kd.R_alloc | apply Kd.R_drewN | apply Kd.R_drew)); exact HO_6.out) hb); have n1_ := Aside0.mk (below_step (by repeat (first | (with_reducible first | exact HB.out | apply below_alloc | apply pw_below_drewN | apply below_drew1) | exact HB.out)) hb); clear HO_6; clear HB; have HO_6 := n0_; have HB := n1_; clear n0_ n1_; (try clear hb); (try clear hb2); (try clear hk); (try clear hi)))
                    go_ret
                    exact ⟨by first | rfl | (simp [errW_none, errW_some] <;> rfl) | (simp [*, errW_none, errW_some] <;> rfl), by repeat (first | (with_reducible first | exact HB.out | apply below_alloc | apply pw_below_drewN | apply below_drew1) | exact HB.out)⟩
                  · rw [if_neg c49] at H
                    exact absurd H (by simp)
                · replace c48 := Bool.eq_false_iff.mpr c48
                  subst c48
                  have H1 : (none) = some r := by rw [if_neg (show ¬ (false = true) by decide)] at H; exact H
                  exact absurd H1 (by simp)
              · rw [if_neg c46] at H
                have c46b0 : (t1124 == 0) = false := beq_eq_false_iff_ne.mpr c46
                have c46b1 : (t1124 != 0) = true := bne_iff_ne.mpr c46
                by_cases c56 : t1122.toList = ([] : List UInt8)
                · rw [if_pos c56] at H
                  have c56b0 : (t1122.toList == ([] : List UInt8)) = true := beq_iff_eq.mpr c56
                  have c56b1 : (t1122.toList != ([] : List UInt8)) = false := bne_eq_false_iff_eq.mpr c56
                  clear c56
                  by_cases c57 : t1123.toList = ([] : List UInt8)
                  · rw [if_pos c57] at H
                    have c57b0 : (t1123.toList == ([] : List UInt8)) = true := beq_iff_eq.mpr c57
                    have c57b1 : (t1123.toList != ([] : List UInt8)) = false := bne_eq_false_iff_eq.mpr c57
                    clear c57
                    obtain rfl := Option.some.inj H
                    obtain ⟨Ao58, co58, eo58⟩ := Kd.R_slice HO_6.out
                    subst eo58
                    go_wp2_with (first | ((with_reducible refine gate_callee (f := 99) rfl ?_); refine goesL_ (some 124) rfl rfl Try.func99 (by kernel_rfl) rfl #[.string a1] rfl (by (try simp only [List.map_toArray, List.map_cons, List.map_nil]); first | done | rfl | (simp only [List.length_drop, List.length_take]; rfl)) ?_; (with_reducible refine (term_Take.calls a1 t1122 t1123 t1124 _ A45.out).mono ?_); rintro e w59 ⟨rfl, hb⟩; refine ⟨_, rfl, ?_⟩; have n0_ := Aside0.mk (Kd.R_below (by (with_reducible repeat (first | apply Kd.R_alloc | apply Kd.R_drewN | apply Kd.R_drew)); exact HO_6.out) hb); have n1_ := Aside0.mk (below_step (by repeat (first | (with_reducible first | exact HB.out | apply below_alloc | apply pw_below_drewN | apply below_drew1) | exact HB.out)) hb); clear HO_6; clear HB; have HO_6 := n0_; have HB := n1_; clear n0_ n1_; (try clear hb); (try clear hb2); (try clear hk); (try clear hi)))
                    go_ret
                    exact ⟨by first | rfl | (simp [errW_none, errW_some] <;> rfl) | (simp [*, errW_none, errW_some] <;> rfl), by repeat (first | (with_reducible first | exact HB.out | apply below_alloc | apply pw_below_drewN | apply below_drew1) | exact HB.out)⟩
                  · rw [if_neg c57] at H
                    exact absurd H (by simp)
                · rw [if_neg c56] at H
                  exact absurd H (by simp)

end Go.Proofs.Ytpfpmjdifnoeoaa.F
