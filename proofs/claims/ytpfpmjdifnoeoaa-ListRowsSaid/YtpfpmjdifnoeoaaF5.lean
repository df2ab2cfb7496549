-- Laid by mk.py (a program of this session) over the seat's translation.
import Derived.Test.YtpfpmjdifnoeoaaF0
import Derived.Test.YtpfpmjdifnoeoaaF41
import Derived.Test.YtpfpmjdifnoeoaaF46
import Derived.Test.YtpfpmjdifnoeoaaF47
import Derived.Test.YtpfpmjdifnoeoaaF48
import Derived.Test.YtpfpmjdifnoeoaaF49
namespace Go.Proofs.Ytpfpmjdifnoeoaa.F
open Go.RowKit Go.Proofs.YtpfpmjdifnoeoaaW.PrintWords Go.Proofs.YtpfpmjdifnoeoaaW.PrintLast Go.Proofs.YtpfpmjdifnoeoaaW.PrintMore
attribute [local go_sem] max2_int min2_int max_two min_two max_three min_three max_four min_four
set_option linter.unusedVariables false
set_option linter.unusedSimpArgs false

/-! ### gemotlaw4_ListRows: function 5 -/
mutual
def gemotlaw4_ListRows.j0 : Nat → List ByteArray → ByteArray → Bool → Bool → Option (Bool)
  | 0, _, _, _, _ => none
  | k + 1, x0, x1, x5, x30 => if x30 = true then (some x5) else (gemotlaw4_ListRows.l0 k x0 x1 ([] : List ByteArray) 0 0)
def gemotlaw4_ListRows.l0 : Nat → List ByteArray → ByteArray → List ByteArray → Int → Int → Option (Bool)
  | 0, _, _, _, _, _ => none
  | k + 1, x0, x1, x6, x7, x8 => if x8 < (x0.length : Int) then (if 0 ≤ x8 then (if x6.length < 8796093022208 then (gemotlaw4_ListRows.l0 k x0 x1 (x6 ++ [rdOf ByteArray.empty x0 x8]) (wrap64 (x7 + ((rdOf ByteArray.empty x0 x8).size : Int))) (wrap64 (x8 + 1))) else (none)) else (none)) else (if x7 > 30000 then (some true) else ((list_Put.f x6).bind fun bt1007 => ((gemotref4_Put.f x0).bind fun bt1009 => ((list_Take.f x1).bind fun bt1011 => ((gemotref4_Take.f x1).bind fun bt1015 => (if bt1007.1.toList = bt1009.1.toList then (if bt1007.2 = bt1009.2 then (if bt1011.2 = bt1015.2 then (gemotlaw4_ListRows.j2 k bt1011.1 bt1015.1 ((bt1011.1.length : Int) != (bt1015.1.length : Int))) else (gemotlaw4_ListRows.j2 k bt1011.1 bt1015.1 true)) else (gemotlaw4_ListRows.j2 k bt1011.1 bt1015.1 true)) else (gemotlaw4_ListRows.j2 k bt1011.1 bt1015.1 true)))))))
def gemotlaw4_ListRows.j2 : Nat → List ByteArray → List ByteArray → Bool → Option (Bool)
  | 0, _, _, _ => none
  | k + 1, x13, x15, x93 => if x93 = true then (none) else (gemotlaw4_ListRows.l1 k x13 x15 0)
def gemotlaw4_ListRows.l1 : Nat → List ByteArray → List ByteArray → Int → Option (Bool)
  | 0, _, _, _ => none
  | k + 1, x13, x15, x17 => if x17 < (x13.length : Int) then (if 0 ≤ x17 then (if x17 < (x15.length : Int) then (if (rdOf ByteArray.empty x13 x17).toList = (rdOf ByteArray.empty x15 x17).toList then (gemotlaw4_ListRows.l1 k x13 x15 (wrap64 (x17 + 1))) else (none)) else (none)) else (none)) else (some true)
end
def gemotlaw4_ListRows.f (k : Nat) (l0 : List ByteArray) (a1 : ByteArray) : Option (Bool) := (gemotlaw4_shown.f).bind fun t1001 => (if t1001 = true then (if (l0.length : Int) > 200 then (gemotlaw4_ListRows.j0 k l0 a1 t1001 true) else (gemotlaw4_ListRows.j0 k l0 a1 t1001 (decide ((a1.size : Int) > 3000)))) else (gemotlaw4_ListRows.j0 k l0 a1 t1001 true))
theorem gemotlaw4_ListRows.mono_l : ∀ k, (∀ y0 y1 y2 y3, LeO (gemotlaw4_ListRows.j0 k y0 y1 y2 y3) (gemotlaw4_ListRows.j0 (k + 1) y0 y1 y2 y3)) ∧ (∀ y0 y1 y2 y3 y4, LeO (gemotlaw4_ListRows.l0 k y0 y1 y2 y3 y4) (gemotlaw4_ListRows.l0 (k + 1) y0 y1 y2 y3 y4)) ∧ (∀ y0 y1 y2, LeO (gemotlaw4_ListRows.j2 k y0 y1 y2) (gemotlaw4_ListRows.j2 (k + 1) y0 y1 y2)) ∧ (∀ y0 y1 y2, LeO (gemotlaw4_ListRows.l1 k y0 y1 y2) (gemotlaw4_ListRows.l1 (k + 1) y0 y1 y2))
  | 0 => ⟨fun _ _ _ _ r h => by simp [gemotlaw4_ListRows.j0] at h, fun _ _ _ _ _ r h => by simp [gemotlaw4_ListRows.l0] at h, fun _ _ _ r h => by simp [gemotlaw4_ListRows.j2] at h, fun _ _ _ r h => by simp [gemotlaw4_ListRows.l1] at h⟩
  | k + 1 => by
    obtain ⟨ih0, ih1, ih2, ih3⟩ := gemotlaw4_ListRows.mono_l k; refine ⟨?_, ?_, ?_, ?_⟩
    · intro y0 y1 y2 y3; unfold gemotlaw4_ListRows.j0
      repeat' first
      | (with_reducible exact ih0 _ _ _ _)
      | (with_reducible exact ih1 _ _ _ _ _)
      | (with_reducible exact ih2 _ _ _)
      | (with_reducible exact ih3 _ _ _)
      | (with_reducible exact LeO.refl _)
      | (with_reducible exact LeO.none _)
      | (with_reducible refine LeO.ite ?_ ?_)
      | (with_reducible refine LeO.bind ?_ (fun _ => ?_))
      | exact ih0 _ _ _ _
      | exact ih1 _ _ _ _ _
      | exact ih2 _ _ _
      | exact ih3 _ _ _
      | exact LeO.none _
      | refine LeO.ite ?_ ?_
      | refine LeO.bind ?_ (fun _ => ?_)
    · intro y0 y1 y2 y3 y4; unfold gemotlaw4_ListRows.l0
      repeat' first
      | (with_reducible exact ih0 _ _ _ _)
      | (with_reducible exact ih1 _ _ _ _ _)
      | (with_reducible exact ih2 _ _ _)
      | (with_reducible exact ih3 _ _ _)
      | (with_reducible exact LeO.refl _)
      | (with_reducible exact LeO.none _)
      | (with_reducible refine LeO.ite ?_ ?_)
      | (with_reducible refine LeO.bind ?_ (fun _ => ?_))
      | exact ih0 _ _ _ _
      | exact ih1 _ _ _ _ _
      | exact ih2 _ _ _
      | exact ih3 _ _ _
      | exact LeO.none _
      | refine LeO.ite ?_ ?_
      | refine LeO.bind ?_ (fun _ => ?_)
    · intro y0 y1 y2; unfold gemotlaw4_ListRows.j2
      repeat' first
      | (with_reducible exact ih0 _ _ _ _)
      | (with_reducible exact ih1 _ _ _ _ _)
      | (with_reducible exact ih2 _ _ _)
      | (with_reducible exact ih3 _ _ _)
      | (with_reducible exact LeO.refl _)
      | (with_reducible exact LeO.none _)
      | (with_reducible refine LeO.ite ?_ ?_)
      | (with_reducible refine LeO.bind ?_ (fun _ => ?_))
      | exact ih0 _ _ _ _
      | exact ih1 _ _ _ _ _
      | exact ih2 _ _ _
      | exact ih3 _ _ _
      | exact LeO.none _
      | refine LeO.ite ?_ ?_
      | refine LeO.bind ?_ (fun _ => ?_)
    · intro y0 y1 y2; unfold gemotlaw4_ListRows.l1
      repeat' first
      | (with_reducible exact ih0 _ _ _ _)
      | (with_reducible exact ih1 _ _ _ _ _)
      | (with_reducible exact ih2 _ _ _)
      | (with_reducible exact ih3 _ _ _)
      | (with_reducible exact LeO.refl _)
      | (with_reducible exact LeO.none _)
      | (with_reducible refine LeO.ite ?_ ?_)
      | (with_reducible refine LeO.bind ?_ (fun _ => ?_))
      | exact ih0 _ _ _ _
      | exact ih1 _ _ _ _ _
      | exact ih2 _ _ _
      | exact ih3 _ _ _
      | exact LeO.none _
      | refine LeO.ite ?_ ?_
      | refine LeO.bind ?_ (fun _ => ?_)
theorem gemotlaw4_ListRows.mono : ∀ a0 a1 k, LeO (gemotlaw4_ListRows.f k a0 a1) (gemotlaw4_ListRows.f (k + 1) a0 a1) := by
  intro a0 a1 k; obtain ⟨ih0, ih1, ih2, ih3⟩ := gemotlaw4_ListRows.mono_l k; unfold gemotlaw4_ListRows.f
  repeat' first
      | (with_reducible exact ih0 _ _ _ _)
      | (with_reducible exact ih1 _ _ _ _ _)
      | (with_reducible exact ih2 _ _ _)
      | (with_reducible exact ih3 _ _ _)
      | (with_reducible exact LeO.refl _)
      | (with_reducible exact LeO.none _)
      | (with_reducible refine LeO.ite ?_ ?_)
      | (with_reducible refine LeO.bind ?_ (fun _ => ?_))
      | exact ih0 _ _ _ _
      | exact ih1 _ _ _ _ _
      | exact ih2 _ _ _
      | exact ih3 _ _ _
      | exact LeO.none _
      | refine LeO.ite ?_ ?_
      | refine LeO.bind ?_ (fun _ => ?_)
set_option maxHeartbeats 8000000 in
set_option maxRecDepth 100000 in
theorem gemotlaw4_ListRows.calls (k : Nat) (A0 : Option Addr) (c0 : Nat) (l0 : List ByteArray) (a1 : ByteArray) (r : Bool) (w : World) (hr0 : Kd.C Kd.string w A0 l0.length l0) (hc0 : l0.length ≤ c0) (h : gemotlaw4_ListRows.f k l0 a1 = some r) :
    Calls Try.prog 5 #[.slice A0 l0.length c0, .string a1] w fun e w' => e = .returned (.bool r) ∧ Below w.heap.size w w' := by
  have HR0 := Aside0.mk hr0
  have HC0 := Aside0.mk hc0
  clear hr0 hc0; have HB := Aside0.mk (Below.refl w.heap.size w)
  have H : ((gemotlaw4_shown.f).bind fun t1001 => (if t1001 = true then (if (l0.length : Int) > 200 then (gemotlaw4_ListRows.j0 k l0 a1 t1001 true) else (gemotlaw4_ListRows.j0 k l0 a1 t1001 (decide ((a1.size : Int) > 3000)))) else (gemotlaw4_ListRows.j0 k l0 a1 t1001 true))) = some r := h
  clear h; replace H := Option.bind_eq_some_iff.mp H
  obtain ⟨t1001, A30, H⟩ := H; replace H : (if t1001 = true then (if (l0.length : Int) > 200 then (gemotlaw4_ListRows.j0 k l0 a1 t1001 true) else (gemotlaw4_ListRows.j0 k l0 a1 t1001 (decide ((a1.size : Int) > 3000)))) else (gemotlaw4_ListRows.j0 k l0 a1 t1001 true)) = some r := H
  have A3 := Aside0.mk A30
  clear A30; have HC4 := Aside0.mk H
  clear H; go_enter Try.func5, Try.ntmps5
  go_upto_region 2 with (first | (go_at_call 41; (with_reducible refine (gemotlaw4_shown.calls  t1001 _ A3.out).mono ?_); rintro e w5 ⟨rfl, hb⟩; have n0_ := Aside0.mk (below_step (by repeat with_reducible first | exact HB.out | apply below_alloc | apply pw_below_drewN | apply below_drew1) hb); clear HB; have HB := n0_; clear n0_; (try clear hb)))
  repeat (go_quiet (first | (go_at_call 41; (with_reducible refine (gemotlaw4_shown.calls  t1001 _ A3.out).mono ?_); rintro e w5 ⟨rfl, hb⟩; have n0_ := Aside0.mk (below_step (by repeat with_reducible first | exact HB.out | apply below_alloc | apply pw_below_drewN | apply below_drew1) hb); clear HB; have HB := n0_; clear n0_; (try clear hb))); go_upto_region 2 with (first | (go_at_call 41; (with_reducible refine (gemotlaw4_shown.calls  t1001 _ A3.out).mono ?_); rintro e w5 ⟨rfl, hb⟩; have n0_ := Aside0.mk (below_step (by repeat with_reducible first | exact HB.out | apply below_alloc | apply pw_below_drewN | apply below_drew1) hb); clear HB; have HB := n0_; clear n0_; (try clear hb))))
  (try simp only [Act.put, List.setIfInBounds_toArray, List.set_cons_zero, List.set_cons_succ]); go_cut [30] (fun v30 wc => ∃ (kq : Nat) (x30_3 : Bool), v30 = .bool x30_3 ∧ Aside0 (gemotlaw4_ListRows.j0 kq l0 a1 t1001 x30_3 = some r) ∧ Aside0 (kq ≤ k) ∧ Aside0 (Below w.heap.size w wc))
  case first =>
    have H := HC4.out; clear HC4; by_cases c6 : t1001 = true
    · subst c6; have H1 : (if (l0.length : Int) > 200 then (gemotlaw4_ListRows.j0 k l0 a1 true true) else (gemotlaw4_ListRows.j0 k l0 a1 true (decide ((a1.size : Int) > 3000)))) = some r := by rw [if_pos rfl] at H; exact H
      clear H; have H := H1; clear H1; by_cases c7 : (l0.length : Int) > 200
      · rw [if_pos c7] at H
        have c7b0 : decide (200 < (l0.length : Int)) = true := decide_eq_true c7
        have c7b1 : decide (200 < l0.length) = true := decide_eq_true (by omega)
        clear c7; (first | rw [c7b0] | (simp only [i64_w, i32_w]; rw [c7b0]) | skip); have H' := Aside0.mk H
        clear H; go_wp2; repeat (go_quiet (fail); try go_wp2)
        go_meet
        case rel => exact ⟨_, (true), (by first | rfl | (simp; done) | (simp [*]; done)), H', ⟨by first | omega | exact Nat.le_refl _⟩, ⟨by repeat (first | (with_reducible first | exact HB.out | apply below_alloc | apply pw_below_drewN | apply below_drew1) | exact HB.out)⟩⟩
      · rw [if_neg c7] at H
        have c7b0 : decide (200 < (l0.length : Int)) = false := decide_eq_false c7
        have c7b1 : decide (200 < l0.length) = false := decide_eq_false (by omega)
        clear c7; (first | rw [c7b0] | (simp only [i64_w, i32_w]; rw [c7b0]) | skip); have H' := Aside0.mk H
        clear H; go_wp2; repeat (go_quiet (fail); try go_wp2)
        go_meet
        case rel => exact ⟨_, (decide ((a1.size : Int) > 3000)), (by first | rfl | (simp; done) | (simp [*]; done)), H', ⟨by first | omega | exact Nat.le_refl _⟩, ⟨by repeat (first | (with_reducible first | exact HB.out | apply below_alloc | apply pw_below_drewN | apply below_drew1) | exact HB.out)⟩⟩
    · replace c6 := Bool.eq_false_iff.mpr c6
      subst c6; have H1 : (gemotlaw4_ListRows.j0 k l0 a1 false true) = some r := by rw [if_neg (show ¬ (false = true) by decide)] at H; exact H
      clear H; have H := H1; clear H1; have H' := Aside0.mk H
      clear H; go_wp2; repeat (go_quiet (fail); try go_wp2)
      go_meet
      case rel => exact ⟨_, (true), (by first | rfl | (simp; done) | (simp [*]; done)), H', ⟨by first | omega | exact Nat.le_refl _⟩, ⟨by repeat (first | (with_reducible first | exact HB.out | apply below_alloc | apply pw_below_drewN | apply below_drew1) | exact HB.out)⟩⟩
  case rest =>
    clear HC4; try clear p2
    try clear c5
    try clear c6
    try clear c7
    try clear c7b0
    try clear c7b1
    obtain ⟨kq, x30_3, rfl, HA, HJ3, HB⟩ := hcut; cases kq with
    | zero => exact absurd HA.out (by simp [gemotlaw4_ListRows.j0])
    | succ kj3 =>
      have H := HA.out; clear HA; simp only [gemotlaw4_ListRows.j0] at H; by_cases c8 : x30_3 = true
      · subst c8; have H1 : (some t1001) = some r := by rw [if_pos rfl] at H; exact H
        clear H; have H := H1; clear H1; obtain rfl := Option.some.inj H
        go_wp2; repeat (go_quiet (fail); try go_wp2)
        go_ret
        exact ⟨by first | rfl | (simp [errW_none, errW_some] <;> rfl) | (simp [*, errW_none, errW_some] <;> rfl), by repeat (first | (with_reducible first | exact HB.out | apply below_alloc | apply pw_below_drewN | apply below_drew1) | exact HB.out)⟩
      · replace c8 := Bool.eq_false_iff.mpr c8
        subst c8; have H1 : (gemotlaw4_ListRows.l0 kj3 l0 a1 ([] : List ByteArray) 0 0) = some r := by rw [if_neg (show ¬ (false = true) by decide)] at H; exact H
        clear H; have H := H1; clear H1; have H' := Aside0.mk H
        clear H; go_wp2; repeat (go_quiet (fail); try go_wp2)
        go_loopg [6, 7, 8] kj3 (fun kq v6 v7 v8 w' => ∃ (x6_2 : List ByteArray) (x7_2 : Int) (x8_2 : Int), v7 = .int .i64 x7_2 ∧ v8 = .int .i64 x8_2 ∧ Aside0 (gemotlaw4_ListRows.l0 kq l0 a1 x6_2 x7_2 x8_2 = some r) ∧ Aside0 (kq ≤ kj3) ∧ Aside0 (Kd.R Kd.string 23 w' w.heap.size (fun _ => True) v6 x6_2) ∧ Aside0 (Below w.heap.size w w'))
        case atStart => exact ⟨(([] : List ByteArray)), (0), (0), (by first | rfl | (simp; done) | (simp [*]; done)), (by first | rfl | (simp; done) | (simp [*]; done)), H', ⟨Nat.le_refl _⟩, ⟨by first | exact Kd.R_nil _ _ _ _ _ | exact Kd.N_nil _ _ _ _ _ | exact Kd.V_nil _ _ _ _ _ | exact Kd.Q_nil _ _ _ _ _ | exact Kd.S_nil _ _ _ _ _⟩, ⟨by repeat (first | (with_reducible first | exact HB.out | apply below_alloc | apply pw_below_drewN | apply below_drew1) | exact HB.out)⟩⟩
        case round =>
          clear H'; try clear p2
          try clear c5
          try clear c6
          try clear c7
          try clear c7b0
          try clear c7b1
          try clear c8
          try clear p2
          obtain ⟨x6_2, x7_2, x8_2, rfl, rfl, HA, HK2, HO_6, HB⟩ := hrel; cases gk with
          | zero => exact absurd HA.out (by simp [gemotlaw4_ListRows.l0])
          | succ k2 =>
            have H := HA.out; clear HA; simp only [gemotlaw4_ListRows.l0] at H; by_cases c9 : x8_2 < (l0.length : Int)
            · rw [if_pos c9] at H
              have c9b0 : decide (x8_2 < (l0.length : Int)) = true := decide_eq_true c9
              clear c9; by_cases c10 : 0 ≤ x8_2
              · rw [if_pos c10] at H
                have c10b0 : decide (0 ≤ x8_2) = true := decide_eq_true c10
                clear c10; by_cases c11 : x6_2.length < 8796093022208
                · rw [if_pos c11] at H
                  have LMc11 := Aside0.mk c11
                  clear c11; obtain ⟨y1003, hy1003⟩ : ∃ y_ : List ByteArray, y_ = (x6_2 ++ [rdOf ByteArray.empty l0 x8_2]) := ⟨_, rfl⟩
                  replace H : (gemotlaw4_ListRows.l0 k2 l0 a1 y1003 (wrap64 (x7_2 + ((rdOf ByteArray.empty l0 x8_2).size : Int))) (wrap64 (x8_2 + 1))) = some r := by first | (rw [hy1003]; with_reducible exact H) | (have H2_ := (Option.bind_some _ _).symm.trans H; rw [hy1003]; with_reducible exact H2_) | (have H2_ := (Option.bind_some _ _).symm.trans H; with_reducible exact H2_) | with_reducible exact H | (rw [hy1003]; exact H) | exact H
                  have Ny1003 := Aside0.mk hy1003
                  clear hy1003; have H' := Aside0.mk H
                  clear H; have p1002 : 0 ≤ (x8_2 : Int) := of_decide_eq_true (by first | (with_reducible assumption) | assumption)
                  have q1002 : x8_2 < (l0.length : Int) := of_decide_eq_true (by first | (with_reducible assumption) | assumption)
                  obtain ⟨ad1002, e1002, hx1002_0⟩ := Kd.at_string HR0.out x8_2 p1002 q1002
                  cases e1002
                  replace hx1002_0 := (HB.out.cell (World.block_lt_of_cell? w _ hx1002_0)).trans hx1002_0
                  replace p1002 := eq_true p1002
                  replace q1002 := eq_true q1002
                  go_wp2_with (first | ((with_reducible refine gate_builtin (b := .append) (xs := #[.tmp 38, .tmp 43]) rfl ?_); at_builtin; refine Kd.R_append Kd.string (w0 := w) w.heap.size rfl (.tmp 38) (.tmp 43) 37 23 (.string ⟨#[]⟩) 16 rfl Try.underlying37 info23 rfl (by decide) (by omega) u6 x6_2 (rdOf ByteArray.empty l0 x8_2) [.string (rdOf ByteArray.empty l0 x8_2)] (fun _ => True) (fun _ => False) rfl rfl ?aP (fun _ hk => hk.elim) ?aF ?aO ?aB ?aS ?aL ?_; (case aP => exact rfl); (case aB => exact (by repeat with_reducible first | exact HB.out | apply below_alloc | apply pw_below_drewN | apply below_drew1)); (case aF => exact (fun _ _ => trivial)); (case aO => exact (by (with_reducible repeat (first | apply Kd.R_alloc | apply Kd.R_drewN | apply Kd.R_drew)); exact HO_6.out)); (case aS => exact (below_size (by repeat with_reducible first | exact HB.out | apply below_alloc | apply pw_below_drewN | apply below_drew1))); (case aL => have := LMc11.out; omega); intro v1004 w12 ho hb hg hat; rw [← Ny1003.out] at ho; have n0_ := Aside0.mk (hb); have n1_ := Aside0.mk (ho); clear HB; clear HO_6; have HB := n0_; have HO1005 := n1_; clear n0_ n1_; clear ho hb hg hat; have p1006 : 0 ≤ (x8_2 : Int) := of_decide_eq_true (by assumption); have q1006 : x8_2 < (l0.length : Int) := of_decide_eq_true (by assumption); obtain ⟨ad1006, e1006, hx1006_0⟩ := Kd.at_string HR0.out x8_2 p1006 q1006; obtain rfl : ad1002 = ad1006 := (by injection e1006); replace hx1006_0 := (HB.out.cell (World.block_lt_of_cell? w _ hx1006_0)).trans hx1006_0; replace p1006 := eq_true p1006; replace q1006 := eq_true q1006))
                  repeat (go_quiet (first | ((with_reducible refine gate_builtin (b := .append) (xs := #[.tmp 38, .tmp 43]) rfl ?_); at_builtin; refine Kd.R_append Kd.string (w0 := w) w.heap.size rfl (.tmp 38) (.tmp 43) 37 23 (.string ⟨#[]⟩) 16 rfl Try.underlying37 info23 rfl (by decide) (by omega) u6 x6_2 (rdOf ByteArray.empty l0 x8_2) [.string (rdOf ByteArray.empty l0 x8_2)] (fun _ => True) (fun _ => False) rfl rfl ?aP (fun _ hk => hk.elim) ?aF ?aO ?aB ?aS ?aL ?_; (case aP => exact rfl); (case aB => exact (by repeat with_reducible first | exact HB.out | apply below_alloc | apply pw_below_drewN | apply below_drew1)); (case aF => exact (fun _ _ => trivial)); (case aO => exact (by (with_reducible repeat (first | apply Kd.R_alloc | apply Kd.R_drewN | apply Kd.R_drew)); exact HO_6.out)); (case aS => exact (below_size (by repeat with_reducible first | exact HB.out | apply below_alloc | apply pw_below_drewN | apply below_drew1))); (case aL => have := LMc11.out; omega); intro v1004 w12 ho hb hg hat; rw [← Ny1003.out] at ho; have n0_ := Aside0.mk (hb); have n1_ := Aside0.mk (ho); clear HB; clear HO_6; have HB := n0_; have HO1005 := n1_; clear n0_ n1_; clear ho hb hg hat; have p1006 : 0 ≤ (x8_2 : Int) := of_decide_eq_true (by assumption); have q1006 : x8_2 < (l0.length : Int) := of_decide_eq_true (by assumption); obtain ⟨ad1006, e1006, hx1006_0⟩ := Kd.at_string HR0.out x8_2 p1006 q1006; obtain rfl : ad1002 = ad1006 := (by injection e1006); replace hx1006_0 := (HB.out.cell (World.block_lt_of_cell? w _ hx1006_0)).trans hx1006_0; replace p1006 := eq_true p1006; replace q1006 := eq_true q1006)); try go_wp2_with (first | ((with_reducible refine gate_builtin (b := .append) (xs := #[.tmp 38, .tmp 43]) rfl ?_); at_builtin; refine Kd.R_append Kd.string (w0 := w) w.heap.size rfl (.tmp 38) (.tmp 43) 37 23 (.string ⟨#[]⟩) 16 rfl Try.underlying37 info23 rfl (by decide) (by omega) u6 x6_2 (rdOf ByteArray.empty l0 x8_2) [.string (rdOf ByteArray.empty l0 x8_2)] (fun _ => True) (fun _ => False) rfl rfl ?aP (fun _ hk => hk.elim) ?aF ?aO ?aB ?aS ?aL ?_; (case aP => exact rfl); (case aB => exact (by repeat with_reducible first | exact HB.out | apply below_alloc | apply pw_below_drewN | apply below_drew1)); (case aF => exact (fun _ _ => trivial)); (case aO => exact (by (with_reducible repeat (first | apply Kd.R_alloc | apply Kd.R_drewN | apply Kd.R_drew)); exact HO_6.out)); (case aS => exact (below_size (by repeat with_reducible first | exact HB.out | apply below_alloc | apply pw_below_drewN | apply below_drew1))); (case aL => have := LMc11.out; omega); intro v1004 w12 ho hb hg hat; rw [← Ny1003.out] at ho; have n0_ := Aside0.mk (hb); have n1_ := Aside0.mk (ho); clear HB; clear HO_6; have HB := n0_; have HO1005 := n1_; clear n0_ n1_; clear ho hb hg hat; have p1006 : 0 ≤ (x8_2 : Int) := of_decide_eq_true (by assumption); have q1006 : x8_2 < (l0.length : Int) := of_decide_eq_true (by assumption); obtain ⟨ad1006, e1006, hx1006_0⟩ := Kd.at_string HR0.out x8_2 p1006 q1006; obtain rfl : ad1002 = ad1006 := (by injection e1006); replace hx1006_0 := (HB.out.cell (World.block_lt_of_cell? w _ hx1006_0)).trans hx1006_0; replace p1006 := eq_true p1006; replace q1006 := eq_true q1006)))
                  go_roundg k2
                  case measure => have := HJ3.out; have := HK2.out; omega
                  case rel => exact ⟨(y1003), (wrap64 (x7_2 + ((rdOf ByteArray.empty l0 x8_2).size : Int))), (wrap64 (x8_2 + 1)), (by first | rfl | (simp; done) | (simp [*]; done)), (by first | rfl | (simp; done) | (simp [*]; done)), H', ⟨by have := HJ3.out; have := HK2.out; omega⟩, ⟨by (with_reducible repeat (first | apply Kd.R_alloc | apply Kd.R_drewN | apply Kd.R_drew)); exact HO1005.out⟩, ⟨by repeat (first | (with_reducible first | exact HB.out | apply below_alloc | apply pw_below_drewN | apply below_drew1) | exact HB.out)⟩⟩
                · rw [if_neg c11] at H
                  exact absurd H (by simp)
              · rw [if_neg c10] at H
                exact absurd H (by simp)
            · rw [if_neg c9] at H
              have c9b0 : decide (x8_2 < (l0.length : Int)) = false := decide_eq_false c9
              clear c9; by_cases c13 : x7_2 > 30000
              · rw [if_pos c13] at H
                have c13b0 : decide (30000 < x7_2) = true := decide_eq_true c13
                clear c13; obtain rfl := Option.some.inj H
                go_wp2; repeat (go_quiet (fail); try go_wp2)
                go_ret
                exact ⟨by first | rfl | (simp [errW_none, errW_some] <;> rfl) | (simp [*, errW_none, errW_some] <;> rfl), by repeat (first | (with_reducible first | exact HB.out | apply below_alloc | apply pw_below_drewN | apply below_drew1) | exact HB.out)⟩
              · rw [if_neg c13] at H
                have c13b0 : decide (30000 < x7_2) = false := decide_eq_false c13
                clear c13; replace H := Option.bind_eq_some_iff.mp H
                obtain ⟨⟨t1007, t1008⟩, A140, H⟩ := H
                replace H : ((gemotref4_Put.f l0).bind fun bt1009 => ((list_Take.f a1).bind fun bt1011 => ((gemotref4_Take.f a1).bind fun bt1015 => (if t1007.toList = bt1009.1.toList then (if t1008 = bt1009.2 then (if bt1011.2 = bt1015.2 then (gemotlaw4_ListRows.j2 k2 bt1011.1 bt1015.1 ((bt1011.1.length : Int) != (bt1015.1.length : Int))) else (gemotlaw4_ListRows.j2 k2 bt1011.1 bt1015.1 true)) else (gemotlaw4_ListRows.j2 k2 bt1011.1 bt1015.1 true)) else (gemotlaw4_ListRows.j2 k2 bt1011.1 bt1015.1 true))))) = some r := H
                have A14 := Aside0.mk A140
                clear A140; replace H := Option.bind_eq_some_iff.mp H
                obtain ⟨⟨t1009, t1010⟩, A150, H⟩ := H
                replace H : ((list_Take.f a1).bind fun bt1011 => ((gemotref4_Take.f a1).bind fun bt1015 => (if t1007.toList = t1009.toList then (if t1008 = t1010 then (if bt1011.2 = bt1015.2 then (gemotlaw4_ListRows.j2 k2 bt1011.1 bt1015.1 ((bt1011.1.length : Int) != (bt1015.1.length : Int))) else (gemotlaw4_ListRows.j2 k2 bt1011.1 bt1015.1 true)) else (gemotlaw4_ListRows.j2 k2 bt1011.1 bt1015.1 true)) else (gemotlaw4_ListRows.j2 k2 bt1011.1 bt1015.1 true)))) = some r := H
                have A15 := Aside0.mk A150
                clear A150; replace H := Option.bind_eq_some_iff.mp H
                obtain ⟨⟨t1011, t1014⟩, A160, H⟩ := H
                replace H : ((gemotref4_Take.f a1).bind fun bt1015 => (if t1007.toList = t1009.toList then (if t1008 = t1010 then (if t1014 = bt1015.2 then (gemotlaw4_ListRows.j2 k2 t1011 bt1015.1 ((t1011.length : Int) != (bt1015.1.length : Int))) else (gemotlaw4_ListRows.j2 k2 t1011 bt1015.1 true)) else (gemotlaw4_ListRows.j2 k2 t1011 bt1015.1 true)) else (gemotlaw4_ListRows.j2 k2 t1011 bt1015.1 true))) = some r := H
                have A16 := Aside0.mk A160
                clear A160; replace H := Option.bind_eq_some_iff.mp H
                obtain ⟨⟨t1015, t1018⟩, A170, H⟩ := H
                replace H : (if t1007.toList = t1009.toList then (if t1008 = t1010 then (if t1014 = t1018 then (gemotlaw4_ListRows.j2 k2 t1011 t1015 ((t1011.length : Int) != (t1015.length : Int))) else (gemotlaw4_ListRows.j2 k2 t1011 t1015 true)) else (gemotlaw4_ListRows.j2 k2 t1011 t1015 true)) else (gemotlaw4_ListRows.j2 k2 t1011 t1015 true)) = some r := H
                have A17 := Aside0.mk A170
                clear A170; have HC18 := Aside0.mk H
                clear H; obtain ⟨Ao19, co19, eo19⟩ := Kd.R_slice HO_6.out; subst eo19; go_upto_region 17 with (first | (go_at_call 46; (with_reducible refine (list_Put.calls _ _ x6_2 t1007 t1008 _ ?side1 ?side2 A14.out).mono ?_); (case side1 => repeat (first | exact (Kd.R_reads' HO_6.out).2.2 | (with_reducible refine Kd.C_alloc ?_ _) | (with_reducible refine Kd.C_drewN ?_ _) | (with_reducible refine Kd.C_drew ?_))); (case side2 => exact (Kd.R_reads' HO_6.out).2.1); rintro e w20 ⟨rfl, hb⟩; have n0_ := Aside0.mk (Kd.R_below (by (with_reducible repeat (first | apply Kd.R_alloc | apply Kd.R_drewN | apply Kd.R_drew)); exact HO_6.out) hb); have n1_ := Aside0.mk (below_step (by repeat with_reducible first | exact HB.out | apply below_alloc | apply pw_below_drewN | apply below_drew1) hb); clear HO_6; clear HB; have HO_6 := n0_; have HB := n1_; clear n0_ n1_; (try clear hb)) | (go_at_call 47; (with_reducible refine (gemotref4_Put.calls _ _ l0 t1009 t1010 _ ?side1 ?side2 A15.out).mono ?_); (case side1 => repeat (first | exact (Kd.C_below HR0.out HB.out) | (with_reducible refine Kd.C_alloc ?_ _) | (with_reducible refine Kd.C_drewN ?_ _) | (with_reducible refine Kd.C_drew ?_))); (case side2 => exact HC0.out); rintro e w21 ⟨rfl, hb⟩; have n0_ := Aside0.mk (Kd.R_below (by (with_reducible repeat (first | apply Kd.R_alloc | apply Kd.R_drewN | apply Kd.R_drew)); exact HO_6.out) hb); have n1_ := Aside0.mk (below_step (by repeat with_reducible first | exact HB.out | apply below_alloc | apply pw_below_drewN | apply below_drew1) hb); clear HO_6; clear HB; have HO_6 := n0_; have HB := n1_; clear n0_ n1_; (try clear hb)) | (go_at_call 48; (with_reducible refine (list_Take.calls a1 t1011 t1014 _ A16.out).mono ?_); rintro e w22 ⟨v1012, rfl, ho0, hb⟩; have n0_ := Aside0.mk (Kd.R_elder' (by (with_reducible repeat (first | apply Kd.R_alloc | apply Kd.R_drewN | apply Kd.R_drew)); exact HO_6.out) (Kd.R_base ho0) hb); have n1_ := Aside0.mk (Kd.R_lower (Kd.R_new' (Kd.R_mono (ok' := fun k_ => True) ho0 (fun _ hk_ => trivial)) (Kd.R_lt (by (with_reducible repeat (first | apply Kd.R_alloc | apply Kd.R_drewN | apply Kd.R_drew)); exact HO_6.out))) (below_size (by repeat with_reducible first | exact HB.out | apply below_alloc | apply pw_below_drewN | apply below_drew1))); have n2_ := Aside0.mk (below_step (by repeat with_reducible first | exact HB.out | apply below_alloc | apply pw_below_drewN | apply below_drew1) hb); clear HO_6; clear HB; have HO_6 := n0_; have HO1013 := n1_; have HB := n2_; clear n0_ n1_ n2_; (try clear hb); (try clear ho0)) | (go_at_call 49; (with_reducible refine (gemotref4_Take.calls a1 t1015 t1018 _ A17.out).mono ?_); rintro e w23 ⟨v1016, rfl, ho0, hb⟩; have n0_ := Aside0.mk (Kd.R_below (by (with_reducible repeat (first | apply Kd.R_alloc | apply Kd.R_drewN | apply Kd.R_drew)); exact HO_6.out) hb); have n1_ := Aside0.mk (Kd.R_below (by (with_reducible repeat (first | apply Kd.R_alloc | apply Kd.R_drewN | apply Kd.R_drew)); exact HO1013.out) hb); have n2_ := Aside0.mk (Kd.R_lower (Kd.R_mono (ok' := fun k_ => True) ho0 (fun _ hk_ => trivial)) (below_size (by repeat with_reducible first | exact HB.out | apply below_alloc | apply pw_below_drewN | apply below_drew1))); have n3_ := Aside0.mk (below_step (by repeat with_reducible first | exact HB.out | apply below_alloc | apply pw_below_drewN | apply below_drew1) hb); clear HO_6; clear HO1013; clear HB; have HO_6 := n0_; have HO1013 := n1_; have HO1017 := n2_; have HB := n3_; clear n0_ n1_ n2_ n3_; (try clear hb); (try clear ho0)))
                repeat (go_quiet (first | (go_at_call 46; (with_reducible refine (list_Put.calls _ _ x6_2 t1007 t1008 _ ?side1 ?side2 A14.out).mono ?_); (case side1 => repeat (first | exact (Kd.R_reads' HO_6.out).2.2 | (with_reducible refine Kd.C_alloc ?_ _) | (with_reducible refine Kd.C_drewN ?_ _) | (with_reducible refine Kd.C_drew ?_))); (case side2 => exact (Kd.R_reads' HO_6.out).2.1); rintro e w20 ⟨rfl, hb⟩; have n0_ := Aside0.mk (Kd.R_below (by (with_reducible repeat (first | apply Kd.R_alloc | apply Kd.R_drewN | apply Kd.R_drew)); exact HO_6.out) hb); have n1_ := Aside0.mk (below_step (by repeat with_reducible first | exact HB.out | apply below_alloc | apply pw_below_drewN | apply below_drew1) hb); clear HO_6; clear HB; have HO_6 := n0_; have HB := n1_; clear n0_ n1_; (try clear hb)) | (go_at_call 47; (with_reducible refine (gemotref4_Put.calls _ _ l0 t1009 t1010 _ ?side1 ?side2 A15.out).mono ?_); (case side1 => repeat (first | exact (Kd.C_below HR0.out HB.out) | (with_reducible refine Kd.C_alloc ?_ _) | (with_reducible refine Kd.C_drewN ?_ _) | (with_reducible refine Kd.C_drew ?_))); (case side2 => exact HC0.out); rintro e w21 ⟨rfl, hb⟩; have n0_ := Aside0.mk (Kd.R_below (by (with_reducible repeat (first | apply Kd.R_alloc | apply Kd.R_drewN | apply Kd.R_drew)); exact HO_6.out) hb); have n1_ := Aside0.mk (below_step (by repeat with_reducible first | exact HB.out | apply below_alloc | apply pw_below_drewN | apply below_drew1) hb); clear HO_6; clear HB; have HO_6 := n0_; have HB := n1_; clear n0_ n1_; (try clear hb)) | (go_at_call 48; (with_reducible refine (list_Take.calls a1 t1011 t1014 _ A16.out).mono ?_); rintro e w22 ⟨v1012, rfl, ho0, hb⟩; have n0_ := Aside0.mk (Kd.R_elder' (by (with_reducible repeat (first | apply Kd.R_alloc | apply Kd.R_drewN | apply Kd.R_drew)); exact HO_6.out) (Kd.R_base ho0) hb); have n1_ := Aside0.mk (Kd.R_lower (Kd.R_new' (Kd.R_mono (ok' := fun k_ => True) ho0 (fun _ hk_ => trivial)) (Kd.R_lt (by (with_reducible repeat (first | apply Kd.R_alloc | apply Kd.R_drewN | apply Kd.R_drew)); exact HO_6.out))) (below_size (by repeat with_reducible first | exact HB.out | apply below_alloc | apply pw_below_drewN | apply below_drew1))); have n2_ := Aside0.mk (below_step (by repeat with_reducible first | exact HB.out | apply below_alloc | apply pw_below_drewN | apply below_drew1) hb); clear HO_6; clear HB; have HO_6 := n0_; have HO1013 := n1_; have HB := n2_; clear n0_ n1_ n2_; (try clear hb); (try clear ho0)) | (go_at_call 49; (with_reducible refine (gemotref4_Take.calls a1 t1015 t1018 _ A17.out).mono ?_); rintro e w23 ⟨v1016, rfl, ho0, hb⟩; have n0_ := Aside0.mk (Kd.R_below (by (with_reducible repeat (first | apply Kd.R_alloc | apply Kd.R_drewN | apply Kd.R_drew)); exact HO_6.out) hb); have n1_ := Aside0.mk (Kd.R_below (by (with_reducible repeat (first | apply Kd.R_alloc | apply Kd.R_drewN | apply Kd.R_drew)); exact HO1013.out) hb); have n2_ := Aside0.mk (Kd.R_lower (Kd.R_mono (ok' := fun k_ => True) ho0 (fun _ hk_ => trivial)) (below_size (by repeat with_reducible first | exact HB.out | apply below_alloc | apply pw_below_drewN | apply below_drew1))); have n3_ := Aside0.mk (below_step (by repeat with_reducible first | exact HB.out | apply below_alloc | apply pw_below_drewN | apply below_drew1) hb); clear HO_6; clear HO1013; clear HB; have HO_6 := n0_; have HO1013 := n1_; have HO1017 := n2_; have HB := n3_; clear n0_ n1_ n2_ n3_; (try clear hb); (try clear ho0))); go_upto_region 17 with (first | (go_at_call 46; (with_reducible refine (list_Put.calls _ _ x6_2 t1007 t1008 _ ?side1 ?side2 A14.out).mono ?_); (case side1 => repeat (first | exact (Kd.R_reads' HO_6.out).2.2 | (with_reducible refine Kd.C_alloc ?_ _) | (with_reducible refine Kd.C_drewN ?_ _) | (with_reducible refine Kd.C_drew ?_))); (case side2 => exact (Kd.R_reads' HO_6.out).2.1); rintro e w20 ⟨rfl, hb⟩; have n0_ := Aside0.mk (Kd.R_below (by (with_reducible repeat (first | apply Kd.R_alloc | apply Kd.R_drewN | apply Kd.R_drew)); exact HO_6.out) hb); have n1_ := Aside0.mk (below_step (by repeat with_reducible first | exact HB.out | apply below_alloc | apply pw_below_drewN | apply below_drew1) hb); clear HO_6; clear HB; have HO_6 := n0_; have HB := n1_; clear n0_ n1_; (try clear hb)) | (go_at_call 47; (with_reducible refine (gemotref4_Put.calls _ _ l0 t1009 t1010 _ ?side1 ?side2 A15.out).mono ?_); (case side1 => repeat (first | exact (Kd.C_below HR0.out HB.out) | (with_reducible refine Kd.C_alloc ?_ _) | (with_reducible refine Kd.C_drewN ?_ _) | (with_reducible refine Kd.C_drew ?_))); (case side2 => exact HC0.out); rintro e w21 ⟨rfl, hb⟩; have n0_ := Aside0.mk (Kd.R_below (by (with_reducible repeat (first | apply Kd.R_alloc | apply Kd.R_drewN | apply Kd.R_drew)); exact HO_6.out) hb); have n1_ := Aside0.mk (below_step (by repeat with_reducible first | exact HB.out | apply below_alloc | apply pw_below_drewN | apply below_drew1) hb); clear HO_6; clear HB; have HO_6 := n0_; have HB := n1_; clear n0_ n1_; (try clear hb)) | (go_at_call 48; (with_reducible refine (list_Take.calls a1 t1011 t1014 _ A16.out).mono ?_); rintro e w22 ⟨v1012, rfl, ho0, hb⟩; have n0_ := Aside0.mk (Kd.R_elder' (by (with_reducible repeat (first | apply Kd.R_alloc | apply Kd.R_drewN | apply Kd.R_drew)); exact HO_6.out) (Kd.R_base ho0) hb); have n1_ := Aside0.mk (Kd.R_lower (Kd.R_new' (Kd.R_mono (ok' := fun k_ => True) ho0 (fun _ hk_ => trivial)) (Kd.R_lt (by (with_reducible repeat (first | apply Kd.R_alloc | apply Kd.R_drewN | apply Kd.R_drew)); exact HO_6.out))) (below_size (by repeat with_reducible first | exact HB.out | apply below_alloc | apply pw_below_drewN | apply below_drew1))); have n2_ := Aside0.mk (below_step (by repeat with_reducible first | exact HB.out | apply below_alloc | apply pw_below_drewN | apply below_drew1) hb); clear HO_6; clear HB; have HO_6 := n0_; have HO1013 := n1_; have HB := n2_; clear n0_ n1_ n2_; (try clear hb); (try clear ho0)) | (go_at_call 49; (with_reducible refine (gemotref4_Take.calls a1 t1015 t1018 _ A17.out).mono ?_); rintro e w23 ⟨v1016, rfl, ho0, hb⟩; have n0_ := Aside0.mk (Kd.R_below (by (with_reducible repeat (first | apply Kd.R_alloc | apply Kd.R_drewN | apply Kd.R_drew)); exact HO_6.out) hb); have n1_ := Aside0.mk (Kd.R_below (by (with_reducible repeat (first | apply Kd.R_alloc | apply Kd.R_drewN | apply Kd.R_drew)); exact HO1013.out) hb); have n2_ := Aside0.mk (Kd.R_lower (Kd.R_mono (ok' := fun k_ => True) ho0 (fun _ hk_ => trivial)) (below_size (by repeat with_reducible first | exact HB.out | apply below_alloc | apply pw_below_drewN | apply below_drew1))); have n3_ := Aside0.mk (below_step (by repeat with_reducible first | exact HB.out | apply below_alloc | apply pw_below_drewN | apply below_drew1) hb); clear HO_6; clear HO1013; clear HB; have HO_6 := n0_; have HO1013 := n1_; have HO1017 := n2_; have HB := n3_; clear n0_ n1_ n2_ n3_; (try clear hb); (try clear ho0))))
                (try simp only [Act.put, List.setIfInBounds_toArray, List.set_cons_zero, List.set_cons_succ]); go_cut [93] (fun v93 wc => ∃ (kq : Nat) (x93_17 : Bool), v93 = .bool x93_17 ∧ Aside0 (gemotlaw4_ListRows.j2 kq t1011 t1015 x93_17 = some r) ∧ Aside0 (kq ≤ k2) ∧ Aside0 (Kd.R Kd.string 23 wc w.heap.size (fun _ => True) v1012 t1011) ∧ Aside0 (Kd.R Kd.string 9 wc w.heap.size (fun _ => True) v1016 t1015) ∧ Aside0 (Below w.heap.size w wc))
                case first =>
                  have H := HC18.out; clear HC18; by_cases c24 : t1007.toList = t1009.toList
                  · rw [if_pos c24] at H
                    have c24b0 : (t1007.toList == t1009.toList) = true := beq_iff_eq.mpr c24
                    have c24b1 : (t1007.toList != t1009.toList) = false := bne_eq_false_iff_eq.mpr c24
                    clear c24; (first | rw [c24b0] | (simp only [i64_w, i32_w]; rw [c24b0]) | skip); by_cases c25 : t1008 = t1010
                    · rw [if_pos c25] at H
                      have c25b0 : (t1008 == t1010) = true := beq_iff_eq.mpr c25
                      have c25b1 : (t1008 != t1010) = false := bne_eq_false_iff_eq.mpr c25
                      clear c25; by_cases c26 : t1014 = t1018
                      · rw [if_pos c26] at H
                        have c26b0 : (t1014 == t1018) = true := beq_iff_eq.mpr c26
                        have c26b1 : (t1014 != t1018) = false := bne_eq_false_iff_eq.mpr c26
                        clear c26; have H' := Aside0.mk H
                        clear H; obtain ⟨Ao27, co27, eo27⟩ := Kd.R_slice HO1013.out; subst eo27; obtain ⟨Ao28, co28, eo28⟩ := Kd.R_slice HO1017.out; subst eo28; go_wp2; repeat (go_quiet (fail); try go_wp2)
                        go_meet
                        case rel => exact ⟨_, (((t1011.length : Int) != (t1015.length : Int))), (by first | rfl | (simp; done) | (simp [*]; done)), H', ⟨by have := HJ3.out; have := HK2.out; first | omega | exact Nat.le_refl _⟩, ⟨by (with_reducible repeat (first | apply Kd.R_alloc | apply Kd.R_drewN | apply Kd.R_drew)); exact Kd.R_mono HO1013.out (fun _ hk => trivial)⟩, ⟨by (with_reducible repeat (first | apply Kd.R_alloc | apply Kd.R_drewN | apply Kd.R_drew)); exact HO1017.out⟩, ⟨by repeat (first | (with_reducible first | exact HB.out | apply below_alloc | apply pw_below_drewN | apply below_drew1) | exact HB.out)⟩⟩
                      · rw [if_neg c26] at H
                        have c26b0 : (t1014 == t1018) = false := beq_eq_false_iff_ne.mpr c26
                        have c26b1 : (t1014 != t1018) = true := bne_iff_ne.mpr c26
                        have H' := Aside0.mk H
                        clear H; go_wp2; repeat (go_quiet (fail); try go_wp2)
                        go_meet
                        case rel => exact ⟨_, (true), (by first | rfl | (simp; done) | (simp [*]; done)), H', ⟨by have := HJ3.out; have := HK2.out; first | omega | exact Nat.le_refl _⟩, ⟨by (with_reducible repeat (first | apply Kd.R_alloc | apply Kd.R_drewN | apply Kd.R_drew)); exact Kd.R_mono HO1013.out (fun _ hk => trivial)⟩, ⟨by (with_reducible repeat (first | apply Kd.R_alloc | apply Kd.R_drewN | apply Kd.R_drew)); exact HO1017.out⟩, ⟨by repeat (first | (with_reducible first | exact HB.out | apply below_alloc | apply pw_below_drewN | apply below_drew1) | exact HB.out)⟩⟩
                    · rw [if_neg c25] at H
                      have c25b0 : (t1008 == t1010) = false := beq_eq_false_iff_ne.mpr c25
                      have c25b1 : (t1008 != t1010) = true := bne_iff_ne.mpr c25
                      have H' := Aside0.mk H
                      clear H; go_wp2; repeat (go_quiet (fail); try go_wp2)
                      go_meet
                      case rel => exact ⟨_, (true), (by first | rfl | (simp; done) | (simp [*]; done)), H', ⟨by have := HJ3.out; have := HK2.out; first | omega | exact Nat.le_refl _⟩, ⟨by (with_reducible repeat (first | apply Kd.R_alloc | apply Kd.R_drewN | apply Kd.R_drew)); exact Kd.R_mono HO1013.out (fun _ hk => trivial)⟩, ⟨by (with_reducible repeat (first | apply Kd.R_alloc | apply Kd.R_drewN | apply Kd.R_drew)); exact HO1017.out⟩, ⟨by repeat (first | (with_reducible first | exact HB.out | apply below_alloc | apply pw_below_drewN | apply below_drew1) | exact HB.out)⟩⟩
                  · rw [if_neg c24] at H
                    have c24b0 : (t1007.toList == t1009.toList) = false := beq_eq_false_iff_ne.mpr c24
                    have c24b1 : (t1007.toList != t1009.toList) = true := bne_iff_ne.mpr c24
                    (first | rw [c24b0] | (simp only [i64_w, i32_w]; rw [c24b0]) | skip); have H' := Aside0.mk H
                    clear H; go_wp2; repeat (go_quiet (fail); try go_wp2)
                    go_meet
                    case rel => exact ⟨_, (true), (by first | rfl | (simp; done) | (simp [*]; done)), H', ⟨by have := HJ3.out; have := HK2.out; first | omega | exact Nat.le_refl _⟩, ⟨by (with_reducible repeat (first | apply Kd.R_alloc | apply Kd.R_drewN | apply Kd.R_drew)); exact Kd.R_mono HO1013.out (fun _ hk => trivial)⟩, ⟨by (with_reducible repeat (first | apply Kd.R_alloc | apply Kd.R_drewN | apply Kd.R_drew)); exact HO1017.out⟩, ⟨by repeat (first | (with_reducible first | exact HB.out | apply below_alloc | apply pw_below_drewN | apply below_drew1) | exact HB.out)⟩⟩
                case rest =>
                  clear HC18; try clear c1
                  try clear p1
                  try clear q1
                  try clear hx1
                  try clear c2
                  try clear p2
                  try clear c5
                  try clear c6
                  try clear p6
                  try clear c7
                  try clear c7b0
                  try clear c7b1
                  try clear c8
                  try clear c9
                  try clear c9b0
                  try clear c10
                  try clear c10b0
                  try clear p10
                  try clear q10
                  try clear hx10
                  try clear c11
                  try clear c13
                  try clear c13b0
                  try clear c24
                  try clear c24b0
                  try clear c24b1
                  try clear c25
                  try clear c25b0
                  try clear c25b1
                  try clear c26
                  try clear c26b0
                  try clear c26b1
                  try clear hx1002_0
                  try clear hx1006_0
                  try clear p1002
                  try clear p1006
                  try clear p2
                  try clear q1002
                  try clear q1006
                  obtain ⟨kq, x93_17, rfl, HA, HJ17, HO_13, HO_15, HB⟩ := hcut; cases kq with
                  | zero => exact absurd HA.out (by simp [gemotlaw4_ListRows.j2])
                  | succ kj17 =>
                    have H := HA.out; clear HA; simp only [gemotlaw4_ListRows.j2] at H; by_cases c29 : x93_17 = true
                    · subst c29; have H1 : (none) = some r := by rw [if_pos rfl] at H; exact H
                      exact absurd H1 (by simp)
                    · replace c29 := Bool.eq_false_iff.mpr c29
                      subst c29; have H1 : (gemotlaw4_ListRows.l1 kj17 t1011 t1015 0) = some r := by rw [if_neg (show ¬ (false = true) by decide)] at H; exact H
                      clear H; have H := H1; clear H1; have H' := Aside0.mk H
                      clear H; go_wp2; repeat (go_quiet (fail); try go_wp2)
                      go_loopg [17] kj17 (fun kq v17 w' => ∃ (x17_4 : Int), v17 = .int .i64 x17_4 ∧ Aside0 (gemotlaw4_ListRows.l1 kq t1011 t1015 x17_4 = some r) ∧ Aside0 (kq ≤ kj17) ∧ Aside0 (Kd.R Kd.string 23 w' w.heap.size (fun _ => True) v1012 t1011) ∧ Aside0 (Kd.R Kd.string 9 w' w.heap.size (fun _ => True) v1016 t1015) ∧ Aside0 (Below w.heap.size w w'))
                      case atStart => exact ⟨(0), (by first | rfl | (simp; done) | (simp [*]; done)), H', ⟨Nat.le_refl _⟩, ⟨by (with_reducible repeat (first | apply Kd.R_alloc | apply Kd.R_drewN | apply Kd.R_drew)); exact HO_13.out⟩, ⟨by (with_reducible repeat (first | apply Kd.R_alloc | apply Kd.R_drewN | apply Kd.R_drew)); exact HO_15.out⟩, ⟨by repeat (first | (with_reducible first | exact HB.out | apply below_alloc | apply pw_below_drewN | apply below_drew1) | exact HB.out)⟩⟩
                      case round =>
                        clear H'; try clear c1
                        try clear p1
                        try clear q1
                        try clear hx1
                        try clear c2
                        try clear p2
                        try clear c5
                        try clear c6
                        try clear p6
                        try clear c7
                        try clear c7b0
                        try clear c7b1
                        try clear c8
                        try clear c9
                        try clear c9b0
                        try clear c10
                        try clear c10b0
                        try clear p10
                        try clear q10
                        try clear hx10
                        try clear c11
                        try clear c13
                        try clear c13b0
                        try clear c24
                        try clear c24b0
                        try clear c24b1
                        try clear c25
                        try clear c25b0
                        try clear c25b1
                        try clear c26
                        try clear c26b0
                        try clear c26b1
                        try clear c29
                        try clear hx1002_0
                        try clear hx1006_0
                        try clear p1
                        try clear p10
                        try clear p1002
                        try clear p1006
                        try clear p2
                        try clear p6
                        try clear q1
                        try clear q10
                        try clear q1002
                        try clear q1006
                        obtain ⟨x17_4, rfl, HA, HK4, HO_13, HO_15, HB⟩ := hrel; cases gk with
                        | zero => exact absurd HA.out (by simp [gemotlaw4_ListRows.l1])
                        | succ k4 =>
                          have H := HA.out; clear HA; simp only [gemotlaw4_ListRows.l1] at H; by_cases c30 : x17_4 < (t1011.length : Int)
                          · rw [if_pos c30] at H
                            have c30b0 : decide (x17_4 < (t1011.length : Int)) = true := decide_eq_true c30
                            clear c30; by_cases c31 : 0 ≤ x17_4
                            · rw [if_pos c31] at H
                              have c31b0 : decide (0 ≤ x17_4) = true := decide_eq_true c31
                              clear c31; by_cases c32 : x17_4 < (t1015.length : Int)
                              · rw [if_pos c32] at H
                                have c32b0 : decide (x17_4 < (t1015.length : Int)) = true := decide_eq_true c32
                                clear c32; by_cases c33 : (rdOf ByteArray.empty t1011 x17_4).toList = (rdOf ByteArray.empty t1015 x17_4).toList
                                · rw [if_pos c33] at H
                                  have c33b0 : ((rdOf ByteArray.empty t1011 x17_4).toList == (rdOf ByteArray.empty t1015 x17_4).toList) = true := beq_iff_eq.mpr c33
                                  have c33b1 : ((rdOf ByteArray.empty t1011 x17_4).toList != (rdOf ByteArray.empty t1015 x17_4).toList) = false := bne_eq_false_iff_eq.mpr c33
                                  clear c33; have H' := Aside0.mk H
                                  clear H; obtain ⟨Ao34, co34, eo34⟩ := Kd.R_slice HO_13.out; subst eo34; have p1019 : 0 ≤ (x17_4 : Int) := of_decide_eq_true (by first | (with_reducible assumption) | assumption)
                                  have q1019 : x17_4 < (t1011.length : Int) := of_decide_eq_true (by first | (with_reducible assumption) | assumption)
                                  obtain ⟨ad1019, e1019, hx1019_0⟩ := Kd.at_string (Kd.R_reads' HO_13.out).2.2 x17_4 p1019 q1019
                                  cases e1019
                                  replace p1019 := eq_true p1019
                                  replace q1019 := eq_true q1019
                                  obtain ⟨Ao35, co35, eo35⟩ := Kd.R_slice HO_15.out; subst eo35; have p1020 : 0 ≤ (x17_4 : Int) := of_decide_eq_true (by first | (with_reducible assumption) | assumption)
                                  have q1020 : x17_4 < (t1015.length : Int) := of_decide_eq_true (by first | (with_reducible assumption) | assumption)
                                  obtain ⟨ad1020, e1020, hx1020_0⟩ := Kd.at_string (Kd.R_reads' HO_15.out).2.2 x17_4 p1020 q1020
                                  cases e1020
                                  replace p1020 := eq_true p1020
                                  replace q1020 := eq_true q1020
                                  go_wp2; repeat (go_quiet (fail); try go_wp2)
                                  go_roundg k4
                                  case measure => have := HJ3.out; have := HK2.out; have := HJ17.out; have := HK4.out; omega
                                  case rel => exact ⟨(wrap64 (x17_4 + 1)), (by first | rfl | (simp; done) | (simp [*]; done)), H', ⟨by have := HJ3.out; have := HK2.out; have := HJ17.out; have := HK4.out; omega⟩, ⟨by (with_reducible repeat (first | apply Kd.R_alloc | apply Kd.R_drewN | apply Kd.R_drew)); exact HO_13.out⟩, ⟨by (with_reducible repeat (first | apply Kd.R_alloc | apply Kd.R_drewN | apply Kd.R_drew)); exact HO_15.out⟩, ⟨by repeat (first | (with_reducible first | exact HB.out | apply below_alloc | apply pw_below_drewN | apply below_drew1) | exact HB.out)⟩⟩
                                · rw [if_neg c33] at H
                                  exact absurd H (by simp)
                              · rw [if_neg c32] at H
                                exact absurd H (by simp)
                            · rw [if_neg c31] at H
                              exact absurd H (by simp)
                          · rw [if_neg c30] at H
                            have c30b0 : decide (x17_4 < (t1011.length : Int)) = false := decide_eq_false c30
                            clear c30; obtain rfl := Option.some.inj H
                            obtain ⟨Ao38, co38, eo38⟩ := Kd.R_slice HO_13.out; subst eo38; go_wp2; repeat (go_quiet (fail); try go_wp2)
                            go_ret
                            exact ⟨by first | rfl | (simp [errW_none, errW_some] <;> rfl) | (simp [*, errW_none, errW_some] <;> rfl), by repeat (first | (with_reducible first | exact HB.out | apply below_alloc | apply pw_below_drewN | apply below_drew1) | exact HB.out)⟩

end Go.Proofs.Ytpfpmjdifnoeoaa.F
