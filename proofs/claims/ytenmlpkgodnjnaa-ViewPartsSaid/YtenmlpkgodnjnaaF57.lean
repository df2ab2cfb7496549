-- Laid by mk.py (a program of this session) over the seat's translation.
import Derived.Test.YtenmlpkgodnjnaaF0
import Derived.Test.YtenmlpkgodnjnaaF59
import Derived.Test.YtenmlpkgodnjnaaF66
namespace Go.Proofs.Ytenmlpkgodnjnaa.F
open Go.RowKit Go.Proofs.YtenmlpkgodnjnaaW.PrintWords Go.Proofs.YtenmlpkgodnjnaaW.PrintLast Go.Proofs.YtenmlpkgodnjnaaW.PrintMore
attribute [local go_sem] max2_int min2_int max_two min_two max_three min_three max_four min_four
set_option linter.unusedVariables false
set_option linter.unusedSimpArgs false

/-! ### list_Right: function 57 -/
def list_Right.l0 : Nat → Int → List Int → Int → Int → Int → Int → Int → Int → Int → Int → List Int → List ByteArray → Option (Bool)
  | 0, _, _, _, _, _, _, _, _, _, _, _, _ => none
  | k + 1, x3, x9, x10, x11, x400000, x400001, x400002, x400003, x400004, x400005, x400006, x400007 => if x11 < x10 then (if 0 ≤ x11 then (if x11 < (x9.length : Int) then (if (rd x9 x11) ≤ x3 then (some false) else (if (rd x9 x11) > 8 then (some false) else (list_Right.l0 k (rd x9 x11) x9 x10 (wrap64 (x11 + 1)) x400000 x400001 x400002 x400003 x400004 x400005 x400006 x400007))) else (none)) else (none)) else ((list_Put.f x400007).bind fun bt401 => (if bt401.2 = 0 then ((list_right.f x400001 x400002).bind fun t403 => (if t403 = true then ((list_right.f x400003 x400004).bind fun t404 => (if t404 = true then (if x400000 ≥ 0 then (if x400000 ≤ 20 then (if x400005 ≥ 0 then (some (decide (x400005 ≤ 2147483647))) else (some false)) else (some false)) else (some false)) else (some false))) else (some false))) else (some false)))
def list_Right.f (k : Nat) (a0_0 : Int) (a0_1 : Int) (a0_2 : Int) (a0_3 : Int) (a0_4 : Int) (a0_5 : Int) (l0_6 : List Int) (l0_7 : List ByteArray) : Option (Bool) := list_Right.l0 k 0 l0_6 (l0_6.length : Int) 0 a0_0 a0_1 a0_2 a0_3 a0_4 a0_5 l0_6 l0_7
theorem list_Right.mono_l : ∀ k, (∀ y0 y1 y2 y3 y4 y5 y6 y7 y8 y9 y10 y11, LeO (list_Right.l0 k y0 y1 y2 y3 y4 y5 y6 y7 y8 y9 y10 y11) (list_Right.l0 (k + 1) y0 y1 y2 y3 y4 y5 y6 y7 y8 y9 y10 y11))
  | 0 => fun _ _ _ _ _ _ _ _ _ _ _ _ r h => by simp [list_Right.l0] at h
  | k + 1 => by
    have ih0 := list_Right.mono_l k
    · intro y0 y1 y2 y3 y4 y5 y6 y7 y8 y9 y10 y11
      unfold list_Right.l0
      repeat' first
      | (with_reducible exact ih0 _ _ _ _ _ _ _ _ _ _ _ _)
      | (with_reducible exact LeO.refl _)
      | (with_reducible exact LeO.none _)
      | (with_reducible refine LeO.ite ?_ ?_)
      | (with_reducible refine LeO.bind ?_ (fun _ => ?_))
      | exact ih0 _ _ _ _ _ _ _ _ _ _ _ _
      | exact LeO.none _
      | refine LeO.ite ?_ ?_
      | refine LeO.bind ?_ (fun _ => ?_)
theorem list_Right.mono : ∀ a0 a1 a2 a3 a4 a5 a6 a7 k, LeO (list_Right.f k a0 a1 a2 a3 a4 a5 a6 a7) (list_Right.f (k + 1) a0 a1 a2 a3 a4 a5 a6 a7) := by
  intro a0 a1 a2 a3 a4 a5 a6 a7 k
  have ih0 := list_Right.mono_l k
  unfold list_Right.f
  repeat' first
      | (with_reducible exact ih0 _ _ _ _ _ _ _ _ _ _ _ _)
      | (with_reducible exact LeO.refl _)
      | (with_reducible exact LeO.none _)
      | (with_reducible refine LeO.ite ?_ ?_)
      | (with_reducible refine LeO.bind ?_ (fun _ => ?_))
      | exact ih0 _ _ _ _ _ _ _ _ _ _ _ _
      | exact LeO.none _
      | refine LeO.ite ?_ ?_
      | refine LeO.bind ?_ (fun _ => ?_)
set_option maxHeartbeats 8000000 in
set_option maxRecDepth 100000 in
theorem list_Right.calls (k : Nat) (a0_0 : Int) (a0_1 : Int) (a0_2 : Int) (a0_3 : Int) (a0_4 : Int) (a0_5 : Int) (A0_6 : Option Addr) (c0_6 : Nat) (l0_6 : List Int) (A0_7 : Option Addr) (c0_7 : Nat) (l0_7 : List ByteArray) (r : Bool) (w : World) (hr0_6 : Kd.C (Kd.int .i64) w A0_6 l0_6.length l0_6) (hc0_6 : l0_6.length ≤ c0_6) (hr0_7 : Kd.C Kd.string w A0_7 l0_7.length l0_7) (hc0_7 : l0_7.length ≤ c0_7) (h : list_Right.f k a0_0 a0_1 a0_2 a0_3 a0_4 a0_5 l0_6 l0_7 = some r) :
    Calls Try.prog 57 #[.agg #[.int .i64 a0_0, .int .i64 a0_1, .int .i64 a0_2, .int .i64 a0_3, .int .i64 a0_4, .int .i64 a0_5, .slice A0_6 l0_6.length c0_6, .slice A0_7 l0_7.length c0_7]] w fun e w' => e = .returned (.bool r) ∧ Below w.heap.size w w' := by
  have hu75 := Try.underlying75
  have hu23 := Try.underlying23
  have HR0_6 := Aside0.mk hr0_6
  have HC0_6 := Aside0.mk hc0_6
  clear hr0_6 hc0_6
  have HR0_7 := Aside0.mk hr0_7
  have HC0_7 := Aside0.mk hc0_7
  clear hr0_7 hc0_7
  have HB := Aside0.mk (Below.refl w.heap.size w)
  have H : (list_Right.l0 k 0 l0_6 (l0_6.length : Int) 0 a0_0 a0_1 a0_2 a0_3 a0_4 a0_5 l0_6 l0_7) = some r := h
  clear h
  have H' := Aside0.mk H
  clear H
  go_enter Try.func57, Try.ntmps57
  go_wp2_with (first | ((with_reducible refine gate_dst (N := 1) rfl ?_); refine box_event ?hg (N := 1) ?hd (cs := #[.int .i64 a0_0, .int .i64 a0_1, .int .i64 a0_2, .int .i64 a0_3, .int .i64 a0_4, .int .i64 a0_5, .slice A0_6 l0_6.length c0_6, .slice A0_7 l0_7.length c0_7]) (t := 75) ?hr ?_; (case hd => rfl); (case hg => rfl); (case hr => first | (go_simp; done) | (go_simp; rfl)); intro gb399 hg w2 hbox hb; have n0_ := Aside0.mk (below_step (by repeat (first | (with_reducible first | exact HB.out | apply below_alloc | apply pw_below_drewN | apply below_drew1) | exact HB.out)) hb); have n1_ := Aside0.mk (hbox); have n2_ := Aside0.mk ((by rw [hg]; exact (below_size (by repeat (first | (with_reducible first | exact HB.out | apply below_alloc | apply pw_below_drewN | apply below_drew1) | exact HB.out))) : w.heap.size ≤ gb399)); have n3_ := Aside0.mk ((by rw [hg]; exact (below_size (by repeat (first | (with_reducible first | exact HB.out | apply below_alloc | apply pw_below_drewN | apply below_drew1) | exact HB.out))) : w.heap.size ≤ gb399)); clear HB; have HB := n0_; have BK399 := n1_; have GW399 := n2_; have GE399 := n3_; clear n0_ n1_ n2_ n3_; clear hb hbox hg; have hcz3_0 : w2.cell? ⟨gb399, 0, none⟩ = some (.int .i64 a0_0) := (blk_cell BK399.out 0).trans rfl; have hcz3_1 : w2.cell? ⟨gb399, 1, none⟩ = some (.int .i64 a0_1) := (blk_cell BK399.out 1).trans rfl; have hcz3_2 : w2.cell? ⟨gb399, 2, none⟩ = some (.int .i64 a0_2) := (blk_cell BK399.out 2).trans rfl; have hcz3_3 : w2.cell? ⟨gb399, 3, none⟩ = some (.int .i64 a0_3) := (blk_cell BK399.out 3).trans rfl; have hcz3_4 : w2.cell? ⟨gb399, 4, none⟩ = some (.int .i64 a0_4) := (blk_cell BK399.out 4).trans rfl; have hcz3_5 : w2.cell? ⟨gb399, 5, none⟩ = some (.int .i64 a0_5) := (blk_cell BK399.out 5).trans rfl; have hcz3_6 : w2.cell? ⟨gb399, 6, none⟩ = some (.slice A0_6 l0_6.length c0_6) := (blk_cell BK399.out 6).trans rfl; have hcz3_7 : w2.cell? ⟨gb399, 7, none⟩ = some (.slice A0_7 l0_7.length c0_7) := (blk_cell BK399.out 7).trans rfl; have hfz3_0 := blk_frozen BK399.out 0; have hfz3_1 := blk_frozen BK399.out 1; have hfz3_2 := blk_frozen BK399.out 2; have hfz3_3 := blk_frozen BK399.out 3; have hfz3_4 := blk_frozen BK399.out 4; have hfz3_5 := blk_frozen BK399.out 5; have hfz3_6 := blk_frozen BK399.out 6; have hfz3_7 := blk_frozen BK399.out 7))
  go_loopg [3, 11] k (fun kq v3 v11 w' => ∃ (x3_1 : Int) (x11_1 : Int), v3 = .int .i64 x3_1 ∧ v11 = .int .i64 x11_1 ∧ Aside0 (list_Right.l0 kq x3_1 l0_6 (l0_6.length : Int) x11_1 a0_0 a0_1 a0_2 a0_3 a0_4 a0_5 l0_6 l0_7 = some r) ∧ Aside0 (kq ≤ k) ∧ Aside0 (w'.heap[gb399]? = some (.cells #[.int .i64 a0_0, .int .i64 a0_1, .int .i64 a0_2, .int .i64 a0_3, .int .i64 a0_4, .int .i64 a0_5, (.slice A0_6 l0_6.length c0_6), (.slice A0_7 l0_7.length c0_7)] 75 (0, 0))) ∧ Aside0 (Below w.heap.size w w'))
  case atStart => exact ⟨(0), (0), (by first | rfl | (simp; done) | (simp [*]; done)), (by first | rfl | (simp; done) | (simp [*]; done)), H', ⟨Nat.le_refl _⟩, ⟨by (with_reducible repeat (first | refine blk_drewN ?_ _ | refine blk_drew ?_ | refine blk_alloc ?_ _)); exact BK399.out⟩, ⟨by repeat (first | (with_reducible first | exact HB.out | apply below_alloc | apply pw_below_drewN | apply below_drew1 | refine below_set ?_ GE399.out) | exact HB.out)⟩⟩
  case round =>
    clear H'
    try clear p2
    try clear hcz3_0
    try clear hcz3_1
    try clear hcz3_2
    try clear hcz3_3
    try clear hcz3_4
    try clear hcz3_5
    try clear hcz3_6
    try clear hcz3_7
    try clear hfz3_0
    try clear hfz3_1
    try clear hfz3_2
    try clear hfz3_3
    try clear hfz3_4
    try clear hfz3_5
    try clear hfz3_6
    try clear hfz3_7
    obtain ⟨x3_1, x11_1, rfl, rfl, HA, HK1, BK399, HB⟩ := hrel
    cases gk with
    | zero => exact absurd HA.out (by simp [list_Right.l0])
    | succ k1 =>
      have H := HA.out
      clear HA
      simp only [list_Right.l0] at H
      by_cases c4 : x11_1 < (l0_6.length : Int)
      · rw [if_pos c4] at H
        have c4b0 : decide (x11_1 < (l0_6.length : Int)) = true := decide_eq_true c4
        clear c4
        by_cases c5 : 0 ≤ x11_1
        · rw [if_pos c5] at H
          have c5b0 : decide (0 ≤ x11_1) = true := decide_eq_true c5
          clear c5
          by_cases c6 : x11_1 < (l0_6.length : Int)
          · rw [if_pos c6] at H
            have c6b0 : decide (x11_1 < (l0_6.length : Int)) = true := decide_eq_true c6
            clear c6
            by_cases c7 : (rd l0_6 x11_1) ≤ x3_1
            · rw [if_pos c7] at H
              have c7b0 : decide ((rd l0_6 x11_1) ≤ x3_1) = true := decide_eq_true c7
              clear c7
              obtain rfl := Option.some.inj H
              have p400 : 0 ≤ (x11_1 : Int) := of_decide_eq_true (by first | (with_reducible assumption) | assumption)
              have q400 : x11_1 < (l0_6.length : Int) := of_decide_eq_true (by first | (with_reducible assumption) | assumption)
              obtain ⟨ad400, e400, hx400_0⟩ := Kd.at_int HR0_6.out x11_1 p400 q400
              cases e400
              replace hx400_0 := (HB.out.cell (World.block_lt_of_cell? w _ hx400_0)).trans hx400_0
              replace p400 := eq_true p400
              replace q400 := eq_true q400
              go_wp2
              go_ret
              exact ⟨by first | rfl | (simp [errW_none, errW_some] <;> rfl) | (simp [*, errW_none, errW_some] <;> rfl), by repeat (first | (with_reducible first | exact HB.out | apply below_alloc | apply pw_below_drewN | apply below_drew1 | refine below_set ?_ GE399.out) | exact HB.out)⟩
            · rw [if_neg c7] at H
              have c7b0 : decide ((rd l0_6 x11_1) ≤ x3_1) = false := decide_eq_false c7
              clear c7
              by_cases c8 : (rd l0_6 x11_1) > 8
              · rw [if_pos c8] at H
                have c8b0 : decide (8 < (rd l0_6 x11_1)) = true := decide_eq_true c8
                clear c8
                obtain rfl := Option.some.inj H
                have p400 : 0 ≤ (x11_1 : Int) := of_decide_eq_true (by first | (with_reducible assumption) | assumption)
                have q400 : x11_1 < (l0_6.length : Int) := of_decide_eq_true (by first | (with_reducible assumption) | assumption)
                obtain ⟨ad400, e400, hx400_0⟩ := Kd.at_int HR0_6.out x11_1 p400 q400
                cases e400
                replace hx400_0 := (HB.out.cell (World.block_lt_of_cell? w _ hx400_0)).trans hx400_0
                replace p400 := eq_true p400
                replace q400 := eq_true q400
                go_wp2
                go_ret
                exact ⟨by first | rfl | (simp [errW_none, errW_some] <;> rfl) | (simp [*, errW_none, errW_some] <;> rfl), by repeat (first | (with_reducible first | exact HB.out | apply below_alloc | apply pw_below_drewN | apply below_drew1 | refine below_set ?_ GE399.out) | exact HB.out)⟩
              · rw [if_neg c8] at H
                have c8b0 : decide (8 < (rd l0_6 x11_1)) = false := decide_eq_false c8
                clear c8
                have H' := Aside0.mk H
                clear H
                have p400 : 0 ≤ (x11_1 : Int) := of_decide_eq_true (by first | (with_reducible assumption) | assumption)
                have q400 : x11_1 < (l0_6.length : Int) := of_decide_eq_true (by first | (with_reducible assumption) | assumption)
                obtain ⟨ad400, e400, hx400_0⟩ := Kd.at_int HR0_6.out x11_1 p400 q400
                cases e400
                replace hx400_0 := (HB.out.cell (World.block_lt_of_cell? w _ hx400_0)).trans hx400_0
                replace p400 := eq_true p400
                replace q400 := eq_true q400
                go_wp2
                go_roundg k1
                case measure => have := HK1.out; omega
                case rel => exact ⟨(rd l0_6 x11_1), (wrap64 (x11_1 + 1)), (by first | rfl | (simp; done) | (simp [*]; done)), (by first | rfl | (simp; done) | (simp [*]; done)), H', ⟨by have := HK1.out; omega⟩, ⟨by (with_reducible repeat (first | refine blk_drewN ?_ _ | refine blk_drew ?_ | refine blk_alloc ?_ _)); exact BK399.out⟩, ⟨by repeat (first | (with_reducible first | exact HB.out | apply below_alloc | apply pw_below_drewN | apply below_drew1 | refine below_set ?_ GE399.out) | exact HB.out)⟩⟩
          · rw [if_neg c6] at H
            exact absurd H (by simp)
        · rw [if_neg c5] at H
          exact absurd H (by simp)
      · rw [if_neg c4] at H
        have c4b0 : decide (x11_1 < (l0_6.length : Int)) = false := decide_eq_false c4
        clear c4
        replace H := Option.bind_eq_some_iff.mp H
        obtain ⟨⟨t401, t402⟩, A90, H⟩ := H
        replace H : (if t402 = 0 then ((list_right.f a0_1 a0_2).bind fun t403 => (if t403 = true then ((list_right.f a0_3 a0_4).bind fun t404 => (if t404 = true then (if a0_0 ≥ 0 then (if a0_0 ≤ 20 then (if a0_5 ≥ 0 then (some (decide (a0_5 ≤ 2147483647))) else (some false)) else (some false)) else (some false)) else (some false))) else (some false))) else (some false)) = some r := H
        have A9 := Aside0.mk A90
        clear A90
        by_cases c10 : t402 = 0
        · rw [if_pos c10] at H
          have c10b0 : (t402 == 0) = true := beq_iff_eq.mpr c10
          have c10b1 : (t402 != 0) = false := bne_eq_false_iff_eq.mpr c10
          clear c10
          replace H := Option.bind_eq_some_iff.mp H
          obtain ⟨t403, A110, H⟩ := H
          replace H : (if t403 = true then ((list_right.f a0_3 a0_4).bind fun t404 => (if t404 = true then (if a0_0 ≥ 0 then (if a0_0 ≤ 20 then (if a0_5 ≥ 0 then (some (decide (a0_5 ≤ 2147483647))) else (some false)) else (some false)) else (some false)) else (some false))) else (some false)) = some r := H
          have A11 := Aside0.mk A110
          clear A110
          by_cases c12 : t403 = true
          · subst c12
            have H1 : ((list_right.f a0_3 a0_4).bind fun t404 => (if t404 = true then (if a0_0 ≥ 0 then (if a0_0 ≤ 20 then (if a0_5 ≥ 0 then (some (decide (a0_5 ≤ 2147483647))) else (some false)) else (some false)) else (some false)) else (some false))) = some r := by rw [if_pos rfl] at H; exact H
            clear H
            have H := H1
            clear H1
            replace H := Option.bind_eq_some_iff.mp H
            obtain ⟨t404, A130, H⟩ := H
            replace H : (if t404 = true then (if a0_0 ≥ 0 then (if a0_0 ≤ 20 then (if a0_5 ≥ 0 then (some (decide (a0_5 ≤ 2147483647))) else (some false)) else (some false)) else (some false)) else (some false)) = some r := H
            have A13 := Aside0.mk A130
            clear A130
            by_cases c14 : t404 = true
            · subst c14
              have H1 : (if a0_0 ≥ 0 then (if a0_0 ≤ 20 then (if a0_5 ≥ 0 then (some (decide (a0_5 ≤ 2147483647))) else (some false)) else (some false)) else (some false)) = some r := by rw [if_pos rfl] at H; exact H
              clear H
              have H := H1
              clear H1
              by_cases c15 : a0_0 ≥ 0
              · rw [if_pos c15] at H
                have c15b0 : decide (0 ≤ a0_0) = true := decide_eq_true c15
                clear c15
                by_cases c16 : a0_0 ≤ 20
                · rw [if_pos c16] at H
                  have c16b0 : decide (a0_0 ≤ 20) = true := decide_eq_true c16
                  clear c16
                  by_cases c17 : a0_5 ≥ 0
                  · rw [if_pos c17] at H
                    have c17b0 : decide (0 ≤ a0_5) = true := decide_eq_true c17
                    clear c17
                    obtain rfl := Option.some.inj H
                    have hcz18_0 : wr.cell? ⟨gb399, 0, none⟩ = some (.int .i64 a0_0) := (blk_cell BK399.out 0).trans rfl
                    have hcz18_1 : wr.cell? ⟨gb399, 1, none⟩ = some (.int .i64 a0_1) := (blk_cell BK399.out 1).trans rfl
                    have hcz18_2 : wr.cell? ⟨gb399, 2, none⟩ = some (.int .i64 a0_2) := (blk_cell BK399.out 2).trans rfl
                    have hcz18_3 : wr.cell? ⟨gb399, 3, none⟩ = some (.int .i64 a0_3) := (blk_cell BK399.out 3).trans rfl
                    have hcz18_4 : wr.cell? ⟨gb399, 4, none⟩ = some (.int .i64 a0_4) := (blk_cell BK399.out 4).trans rfl
                    have hcz18_5 : wr.cell? ⟨gb399, 5, none⟩ = some (.int .i64 a0_5) := (blk_cell BK399.out 5).trans rfl
                    have hcz18_6 : wr.cell? ⟨gb399, 6, none⟩ = some (.slice A0_6 l0_6.length c0_6) := (blk_cell BK399.out 6).trans rfl
                    have hcz18_7 : wr.cell? ⟨gb399, 7, none⟩ = some (.slice A0_7 l0_7.length c0_7) := (blk_cell BK399.out 7).trans rfl
                    have hfz18_0 := blk_frozen BK399.out 0
                    have hfz18_1 := blk_frozen BK399.out 1
                    have hfz18_2 := blk_frozen BK399.out 2
                    have hfz18_3 := blk_frozen BK399.out 3
                    have hfz18_4 := blk_frozen BK399.out 4
                    have hfz18_5 := blk_frozen BK399.out 5
                    have hfz18_6 := blk_frozen BK399.out 6
                    have hfz18_7 := blk_frozen BK399.out 7
                    go_wp2_with (first | ((with_reducible refine gate_callee (f := 59) rfl ?_); refine goesL_ (some 27) rfl rfl Try.func59 (by kernel_rfl) rfl #[.slice A0_7 l0_7.length c0_7] rfl (by (try simp only [List.map_toArray, List.map_cons, List.map_nil]); first | done | rfl | (simp only [List.length_drop, List.length_take]; rfl)) ?_; (with_reducible refine (list_Put.calls _ _ l0_7 t401 t402 _ ?side1 ?side2 A9.out).mono ?_); (case side1 => repeat (first | exact (Kd.C_below HR0_7.out HB.out) | (with_reducible refine Kd.C_alloc ?_ _) | (with_reducible refine Kd.C_drewN ?_ _) | (with_reducible refine Kd.C_drew ?_))); (case side2 => exact HC0_7.out); rintro e w19 ⟨rfl, hb⟩; refine ⟨_, rfl, ?_⟩; have n0_ := Aside0.mk (blk_below (g := gb399) (o := .cells #[.int .i64 a0_0, .int .i64 a0_1, .int .i64 a0_2, .int .i64 a0_3, .int .i64 a0_4, .int .i64 a0_5, .slice A0_6 l0_6.length c0_6, .slice A0_7 l0_7.length c0_7] 75 (0, 0)) (by (with_reducible repeat (first | refine blk_drewN ?_ _ | refine blk_drew ?_ | refine blk_alloc ?_ _)); exact BK399.out) hb); have n1_ := Aside0.mk (below_step (by repeat (first | (with_reducible first | exact HB.out | apply below_alloc | apply pw_below_drewN | apply below_drew1 | refine below_set ?_ GE399.out) | exact HB.out)) hb); clear BK399; clear HB; have BK399 := n0_; have HB := n1_; clear n0_ n1_; (try clear hb); (try clear hb2); (try clear hk); (try clear hi); have hcz20_0 : w19.cell? ⟨gb399, 0, none⟩ = some (.int .i64 a0_0) := (blk_cell BK399.out 0).trans rfl; have hcz20_1 : w19.cell? ⟨gb399, 1, none⟩ = some (.int .i64 a0_1) := (blk_cell BK399.out 1).trans rfl; have hcz20_2 : w19.cell? ⟨gb399, 2, none⟩ = some (.int .i64 a0_2) := (blk_cell BK399.out 2).trans rfl; have hcz20_3 : w19.cell? ⟨gb399, 3, none⟩ = some (.int .i64 a0_3) := (blk_cell BK399.out 3).trans rfl; have hcz20_4 : w19.cell? ⟨gb399, 4, none⟩ = some (.int .i64 a0_4) := (blk_cell BK399.out 4).trans rfl; have hcz20_5 : w19.cell? ⟨gb399, 5, none⟩ = some (.int .i64 a0_5) := (blk_cell BK399.out 5).trans rfl; have hcz20_6 : w19.cell? ⟨gb399, 6, none⟩ = some (.slice A0_6 l0_6.length c0_6) := (blk_cell BK399.out 6).trans rfl; have hcz20_7 : w19.cell? ⟨gb399, 7, none⟩ = some (.slice A0_7 l0_7.length c0_7) := (blk_cell BK399.out 7).trans rfl; have hfz20_0 := blk_frozen BK399.out 0; have hfz20_1 := blk_frozen BK399.out 1; have hfz20_2 := blk_frozen BK399.out 2; have hfz20_3 := blk_frozen BK399.out 3; have hfz20_4 := blk_frozen BK399.out 4; have hfz20_5 := blk_frozen BK399.out 5; have hfz20_6 := blk_frozen BK399.out 6; have hfz20_7 := blk_frozen BK399.out 7) | (go_at_call 66; (with_reducible refine (list_right.calls a0_1 a0_2 true _ A11.out).mono ?_); rintro e w21 ⟨rfl, hb⟩; have n0_ := Aside0.mk (blk_below (g := gb399) (o := .cells #[.int .i64 a0_0, .int .i64 a0_1, .int .i64 a0_2, .int .i64 a0_3, .int .i64 a0_4, .int .i64 a0_5, .slice A0_6 l0_6.length c0_6, .slice A0_7 l0_7.length c0_7] 75 (0, 0)) (by (with_reducible repeat (first | refine blk_drewN ?_ _ | refine blk_drew ?_ | refine blk_alloc ?_ _)); exact BK399.out) hb); have n1_ := Aside0.mk (below_step (by repeat (first | (with_reducible first | exact HB.out | apply below_alloc | apply pw_below_drewN | apply below_drew1 | refine below_set ?_ GE399.out) | exact HB.out)) hb); clear BK399; clear HB; have BK399 := n0_; have HB := n1_; clear n0_ n1_; (try clear hb); (try clear hb2); (try clear hk); (try clear hi); have hcz22_0 : w21.cell? ⟨gb399, 0, none⟩ = some (.int .i64 a0_0) := (blk_cell BK399.out 0).trans rfl; have hcz22_1 : w21.cell? ⟨gb399, 1, none⟩ = some (.int .i64 a0_1) := (blk_cell BK399.out 1).trans rfl; have hcz22_2 : w21.cell? ⟨gb399, 2, none⟩ = some (.int .i64 a0_2) := (blk_cell BK399.out 2).trans rfl; have hcz22_3 : w21.cell? ⟨gb399, 3, none⟩ = some (.int .i64 a0_3) := (blk_cell BK399.out 3).trans rfl; have hcz22_4 : w21.cell? ⟨gb399, 4, none⟩ = some (.int .i64 a0_4) := (blk_cell BK399.out 4).trans rfl; have hcz22_5 : w21.cell? ⟨gb399, 5, none⟩ = some (.int .i64 a0_5) := (blk_cell BK399.out 5).trans rfl; have hcz22_6 : w21.cell? ⟨gb399, 6, none⟩ = some (.slice A0_6 l0_6.length c0_6) := (blk_cell BK399.out 6).trans rfl; have hcz22_7 : w21.cell? ⟨gb399, 7, none⟩ = some (.slice A0_7 l0_7.length c0_7) := (blk_cell BK399.out 7).trans rfl; have hfz22_0 := blk_frozen BK399.out 0; have hfz22_1 := blk_frozen BK399.out 1; have hfz22_2 := blk_frozen BK399.out 2; have hfz22_3 := blk_frozen BK399.out 3; have hfz22_4 := blk_frozen BK399.out 4; have hfz22_5 := blk_frozen BK399.out 5; have hfz22_6 := blk_frozen BK399.out 6; have hfz22_7 := blk_frozen BK399.out 7) | (go_at_call 66; (with_reducible refine (list_right.calls a0_3 a0_4 true _ A13.out).mono ?_); rintro e w23 ⟨rfl, hb⟩; have n0_ := Aside0.mk (blk_below (g := gb399) (o := .cells #[.int .i64 a0_0, .int .i64 a0_1, .int .i64 a0_2, .int .i64 a0_3, .int .i64 a0_4, .int .i64 a0_5, .slice A0_6 l0_6.length c0_6, .slice A0_7 l0_7.length c0_7] 75 (0, 0)) (by (with_reducible repeat (first | refine blk_drewN ?_ _ | refine blk_drew ?_ | refine blk_alloc ?_ _)); exact BK399.out) hb); have n1_ := Aside0.mk (below_step (by repeat (first | (with_reducible first | exact HB.out | apply below_alloc | apply pw_below_drewN | apply below_drew1 | refine below_set ?_ GE399.out) | exact HB.out)) hb); clear BK399; clear HB; have BK399 := n0_; have HB := n1_; clear n0_ n1_; (try clear hb); (try clear hb2); (try clear hk); (try clear hi); have hcz24_0 : w23.cell? ⟨gb399, 0, none⟩ = some (.int .i64 a0_0) := (blk_cell BK399.out 0).trans rfl; have hcz24_1 : w23.cell? ⟨gb399, 1, none⟩ = some (.int .i64 a0_1) := (blk_cell BK399.out 1).trans rfl; have hcz24_2 : w23.cell? ⟨gb399, 2, none⟩ = some (.int .i64 a0_2) := (blk_cell BK399.out 2).trans rfl; have hcz24_3 : w23.cell? ⟨gb399, 3, none⟩ = some (.int .i64 a0_3) := (blk_cell BK399.out 3).trans rfl; have hcz24_4 : w23.cell? ⟨gb399, 4, none⟩ = some (.int .i64 a0_4) := (blk_cell BK399.out 4).trans rfl; have hcz24_5 : w23.cell? ⟨gb399, 5, none⟩ = some (.int .i64 a0_5) := (blk_cell BK399.out 5).trans rfl; have hcz24_6 : w23.cell? ⟨gb399, 6, none⟩ = some (.slice A0_6 l0_6.length c0_6) := (blk_cell BK399.out 6).trans rfl; have hcz24_7 : w23.cell? ⟨gb399, 7, none⟩ = some (.slice A0_7 l0_7.length c0_7) := (blk_cell BK399.out 7).trans rfl; have hfz24_0 := blk_frozen BK399.out 0; have hfz24_1 := blk_frozen BK399.out 1; have hfz24_2 := blk_frozen BK399.out 2; have hfz24_3 := blk_frozen BK399.out 3; have hfz24_4 := blk_frozen BK399.out 4; have hfz24_5 := blk_frozen BK399.out 5; have hfz24_6 := blk_frozen BK399.out 6; have hfz24_7 := blk_frozen BK399.out 7))
                    go_ret
                    exact ⟨by first | rfl | (simp [errW_none, errW_some] <;> rfl) | (simp [*, errW_none, errW_some] <;> rfl), by repeat (first | (with_reducible first | exact HB.out | apply below_alloc | apply pw_below_drewN | apply below_drew1 | refine below_set ?_ GE399.out) | exact HB.out)⟩
                  · rw [if_neg c17] at H
                    have c17b0 : decide (0 ≤ a0_5) = false := decide_eq_false c17
                    clear c17
                    obtain rfl := Option.some.inj H
                    have hcz25_0 : wr.cell? ⟨gb399, 0, none⟩ = some (.int .i64 a0_0) := (blk_cell BK399.out 0).trans rfl
                    have hcz25_1 : wr.cell? ⟨gb399, 1, none⟩ = some (.int .i64 a0_1) := (blk_cell BK399.out 1).trans rfl
                    have hcz25_2 : wr.cell? ⟨gb399, 2, none⟩ = some (.int .i64 a0_2) := (blk_cell BK399.out 2).trans rfl
                    have hcz25_3 : wr.cell? ⟨gb399, 3, none⟩ = some (.int .i64 a0_3) := (blk_cell BK399.out 3).trans rfl
                    have hcz25_4 : wr.cell? ⟨gb399, 4, none⟩ = some (.int .i64 a0_4) := (blk_cell BK399.out 4).trans rfl
                    have hcz25_5 : wr.cell? ⟨gb399, 5, none⟩ = some (.int .i64 a0_5) := (blk_cell BK399.out 5).trans rfl
                    have hcz25_6 : wr.cell? ⟨gb399, 6, none⟩ = some (.slice A0_6 l0_6.length c0_6) := (blk_cell BK399.out 6).trans rfl
                    have hcz25_7 : wr.cell? ⟨gb399, 7, none⟩ = some (.slice A0_7 l0_7.length c0_7) := (blk_cell BK399.out 7).trans rfl
                    have hfz25_0 := blk_frozen BK399.out 0
                    have hfz25_1 := blk_frozen BK399.out 1
                    have hfz25_2 := blk_frozen BK399.out 2
                    have hfz25_3 := blk_frozen BK399.out 3
                    have hfz25_4 := blk_frozen BK399.out 4
                    have hfz25_5 := blk_frozen BK399.out 5
                    have hfz25_6 := blk_frozen BK399.out 6
                    have hfz25_7 := blk_frozen BK399.out 7
                    go_wp2_with (first | ((with_reducible refine gate_callee (f := 59) rfl ?_); refine goesL_ (some 27) rfl rfl Try.func59 (by kernel_rfl) rfl #[.slice A0_7 l0_7.length c0_7] rfl (by (try simp only [List.map_toArray, List.map_cons, List.map_nil]); first | done | rfl | (simp only [List.length_drop, List.length_take]; rfl)) ?_; (with_reducible refine (list_Put.calls _ _ l0_7 t401 t402 _ ?side1 ?side2 A9.out).mono ?_); (case side1 => repeat (first | exact (Kd.C_below HR0_7.out HB.out) | (with_reducible refine Kd.C_alloc ?_ _) | (with_reducible refine Kd.C_drewN ?_ _) | (with_reducible refine Kd.C_drew ?_))); (case side2 => exact HC0_7.out); rintro e w26 ⟨rfl, hb⟩; refine ⟨_, rfl, ?_⟩; have n0_ := Aside0.mk (blk_below (g := gb399) (o := .cells #[.int .i64 a0_0, .int .i64 a0_1, .int .i64 a0_2, .int .i64 a0_3, .int .i64 a0_4, .int .i64 a0_5, .slice A0_6 l0_6.length c0_6, .slice A0_7 l0_7.length c0_7] 75 (0, 0)) (by (with_reducible repeat (first | refine blk_drewN ?_ _ | refine blk_drew ?_ | refine blk_alloc ?_ _)); exact BK399.out) hb); have n1_ := Aside0.mk (below_step (by repeat (first | (with_reducible first | exact HB.out | apply below_alloc | apply pw_below_drewN | apply below_drew1 | refine below_set ?_ GE399.out) | exact HB.out)) hb); clear BK399; clear HB; have BK399 := n0_; have HB := n1_; clear n0_ n1_; (try clear hb); (try clear hb2); (try clear hk); (try clear hi); have hcz27_0 : w26.cell? ⟨gb399, 0, none⟩ = some (.int .i64 a0_0) := (blk_cell BK399.out 0).trans rfl; have hcz27_1 : w26.cell? ⟨gb399, 1, none⟩ = some (.int .i64 a0_1) := (blk_cell BK399.out 1).trans rfl; have hcz27_2 : w26.cell? ⟨gb399, 2, none⟩ = some (.int .i64 a0_2) := (blk_cell BK399.out 2).trans rfl; have hcz27_3 : w26.cell? ⟨gb399, 3, none⟩ = some (.int .i64 a0_3) := (blk_cell BK399.out 3).trans rfl; have hcz27_4 : w26.cell? ⟨gb399, 4, none⟩ = some (.int .i64 a0_4) := (blk_cell BK399.out 4).trans rfl; have hcz27_5 : w26.cell? ⟨gb399, 5, none⟩ = some (.int .i64 a0_5) := (blk_cell BK399.out 5).trans rfl; have hcz27_6 : w26.cell? ⟨gb399, 6, none⟩ = some (.slice A0_6 l0_6.length c0_6) := (blk_cell BK399.out 6).trans rfl; have hcz27_7 : w26.cell? ⟨gb399, 7, none⟩ = some (.slice A0_7 l0_7.length c0_7) := (blk_cell BK399.out 7).trans rfl; have hfz27_0 := blk_frozen BK399.out 0; have hfz27_1 := blk_frozen BK399.out 1; have hfz27_2 := blk_frozen BK399.out 2; have hfz27_3 := blk_frozen BK399.out 3; have hfz27_4 := blk_frozen BK399.out 4; have hfz27_5 := blk_frozen BK399.out 5; have hfz27_6 := blk_frozen BK399.out 6; have hfz27_7 := blk_frozen BK399.out 7) | (go_at_call 66; (with_reducible refine (list_right.calls a0_1 a0_2 true _ A11.out).mono ?_); rintro e w28 ⟨rfl, hb⟩; have n0_ := Aside0.mk (blk_below (g := gb399) (o := .cells #[.int .i64 a0_0, .int .i64 a0_1, .int .i64 a0_2, .int .i64 a0_3, .int .i64 a0_4, .int .i64 a0_5, .slice A0_6 l0_6.length c0_6, .slice A0_7 l0_7.length c0_7] 75 (0, 0)) (by (with_reducible repeat (first | refine blk_drewN ?_ _ | refine blk_drew ?_ | refine blk_alloc ?_ _)); exact BK399.out) hb); have n1_ := Aside0.mk (below_step (by repeat (first | (with_reducible first | exact HB.out | apply below_alloc | apply pw_below_drewN | apply below_drew1 | refine below_set ?_ GE399.out) | exact HB.out)) hb); clear BK399; clear HB; have BK399 := n0_; have HB := n1_; clear n0_ n1_; (try clear hb); (try clear hb2); (try clear hk); (try clear hi); have hcz29_0 : w28.cell? ⟨gb399, 0, none⟩ = some (.int .i64 a0_0) := (blk_cell BK399.out 0).trans rfl; have hcz29_1 : w28.cell? ⟨gb399, 1, none⟩ = some (.int .i64 a0_1) := (blk_cell BK399.out 1).trans rfl; have hcz29_2 : w28.cell? ⟨gb399, 2, none⟩ = some (.int .i64 a0_2) := (blk_cell BK399.out 2).trans rfl; have hcz29_3 : w28.cell? ⟨gb399, 3, none⟩ = some (.int .i64 a0_3) := (blk_cell BK399.out 3).trans rfl; have hcz29_4 : w28.cell? ⟨gb399, 4, none⟩ = some (.int .i64 a0_4) := (blk_cell BK399.out 4).trans rfl; have hcz29_5 : w28.cell? ⟨gb399, 5, none⟩ = some (.int .i64 a0_5) := (blk_cell BK399.out 5).trans rfl; have hcz29_6 : w28.cell? ⟨gb399, 6, none⟩ = some (.slice A0_6 l0_6.length c0_6) := (blk_cell BK399.out 6).trans rfl; have hcz29_7 : w28.cell? ⟨gb399, 7, none⟩ = some (.slice A0_7 l0_7.length c0_7) := (blk_cell BK399.out 7).trans rfl; have hfz29_0 := blk_frozen BK399.out 0; have hfz29_1 := blk_frozen BK399.out 1; have hfz29_2 := blk_frozen BK399.out 2; have hfz29_3 := blk_frozen BK399.out 3; have hfz29_4 := blk_frozen BK399.out 4; have hfz29_5 := blk_frozen BK399.out 5; have hfz29_6 := blk_frozen BK399.out 6; have hfz29_7 := blk_frozen BK399.out 7) | (go_at_call 66; (with_reducible refine (list_right.calls a0_3 a0_4 true _ A13.out).mono ?_); rintro e w30 ⟨rfl, hb⟩; have n0_ := Aside0.mk (blk_below (g := gb399) (o := .cells #[.int .i64 a0_0, .int .i64 a0_1, .int .i64 a0_2, .int .i64 a0_3, .int .i64 a0_4, .int .i64 a0_5, .slice A0_6 l0_6.length c0_6, .slice A0_7 l0_7.length c0_7] 75 (0, 0)) (by (with_reducible repeat (first | refine blk_drewN ?_ _ | refine blk_drew ?_ | refine blk_alloc ?_ _)); exact BK399.out) hb); have n1_ := Aside0.mk (below_step (by repeat (first | (with_reducible first | exact HB.out | apply below_alloc | apply pw_below_drewN | apply below_drew1 | refine below_set ?_ GE399.out) | exact HB.out)) hb); clear BK399; clear HB; have BK399 := n0_; have HB := n1_; clear n0_ n1_; (try clear hb); (try clear hb2); (try clear hk); (try clear hi); have hcz31_0 : w30.cell? ⟨gb399, 0, none⟩ = some (.int .i64 a0_0) := (blk_cell BK399.out 0).trans rfl; have hcz31_1 : w30.cell? ⟨gb399, 1, none⟩ = some (.int .i64 a0_1) := (blk_cell BK399.out 1).trans rfl; have hcz31_2 : w30.cell? ⟨gb399, 2, none⟩ = some (.int .i64 a0_2) := (blk_cell BK399.out 2).trans rfl; have hcz31_3 : w30.cell? ⟨gb399, 3, none⟩ = some (.int .i64 a0_3) := (blk_cell BK399.out 3).trans rfl; have hcz31_4 : w30.cell? ⟨gb399, 4, none⟩ = some (.int .i64 a0_4) := (blk_cell BK399.out 4).trans rfl; have hcz31_5 : w30.cell? ⟨gb399, 5, none⟩ = some (.int .i64 a0_5) := (blk_cell BK399.out 5).trans rfl; have hcz31_6 : w30.cell? ⟨gb399, 6, none⟩ = some (.slice A0_6 l0_6.length c0_6) := (blk_cell BK399.out 6).trans rfl; have hcz31_7 : w30.cell? ⟨gb399, 7, none⟩ = some (.slice A0_7 l0_7.length c0_7) := (blk_cell BK399.out 7).trans rfl; have hfz31_0 := blk_frozen BK399.out 0; have hfz31_1 := blk_frozen BK399.out 1; have hfz31_2 := blk_frozen BK399.out 2; have hfz31_3 := blk_frozen BK399.out 3; have hfz31_4 := blk_frozen BK399.out 4; have hfz31_5 := blk_frozen BK399.out 5; have hfz31_6 := blk_frozen BK399.out 6; have hfz31_7 := blk_frozen BK399.out 7))
                    go_ret
                    exact ⟨by first | rfl | (simp [errW_none, errW_some] <;> rfl) | (simp [*, errW_none, errW_some] <;> rfl), by repeat (first | (with_reducible first | exact HB.out | apply below_alloc | apply pw_below_drewN | apply below_drew1 | refine below_set ?_ GE399.out) | exact HB.out)⟩
                · rw [if_neg c16] at H
                  have c16b0 : decide (a0_0 ≤ 20) = false := decide_eq_false c16
                  clear c16
                  obtain rfl := Option.some.inj H
                  have hcz32_0 : wr.cell? ⟨gb399, 0, none⟩ = some (.int .i64 a0_0) := (blk_cell BK399.out 0).trans rfl
                  have hcz32_1 : wr.cell? ⟨gb399, 1, none⟩ = some (.int .i64 a0_1) := (blk_cell BK399.out 1).trans rfl
                  have hcz32_2 : wr.cell? ⟨gb399, 2, none⟩ = some (.int .i64 a0_2) := (blk_cell BK399.out 2).trans rfl
                  have hcz32_3 : wr.cell? ⟨gb399, 3, none⟩ = some (.int .i64 a0_3) := (blk_cell BK399.out 3).trans rfl
                  have hcz32_4 : wr.cell? ⟨gb399, 4, none⟩ = some (.int .i64 a0_4) := (blk_cell BK399.out 4).trans rfl
                  have hcz32_5 : wr.cell? ⟨gb399, 5, none⟩ = some (.int .i64 a0_5) := (blk_cell BK399.out 5).trans rfl
                  have hcz32_6 : wr.cell? ⟨gb399, 6, none⟩ = some (.slice A0_6 l0_6.length c0_6) := (blk_cell BK399.out 6).trans rfl
                  have hcz32_7 : wr.cell? ⟨gb399, 7, none⟩ = some (.slice A0_7 l0_7.length c0_7) := (blk_cell BK399.out 7).trans rfl
                  have hfz32_0 := blk_frozen BK399.out 0
                  have hfz32_1 := blk_frozen BK399.out 1
                  have hfz32_2 := blk_frozen BK399.out 2
                  have hfz32_3 := blk_frozen BK399.out 3
                  have hfz32_4 := blk_frozen BK399.out 4
                  have hfz32_5 := blk_frozen BK399.out 5
                  have hfz32_6 := blk_frozen BK399.out 6
                  have hfz32_7 := blk_frozen BK399.out 7
                  go_wp2_with (first | ((with_reducible refine gate_callee (f := 59) rfl ?_); refine goesL_ (some 27) rfl rfl Try.func59 (by kernel_rfl) rfl #[.slice A0_7 l0_7.length c0_7] rfl (by (try simp only [List.map_toArray, List.map_cons, List.map_nil]); first | done | rfl | (simp only [List.length_drop, List.length_take]; rfl)) ?_; (with_reducible refine (list_Put.calls _ _ l0_7 t401 t402 _ ?side1 ?side2 A9.out).mono ?_); (case side1 => repeat (first | exact (Kd.C_below HR0_7.out HB.out) | (with_reducible refine Kd.C_alloc ?_ _) | (with_reducible refine Kd.C_drewN ?_ _) | (with_reducible refine Kd.C_drew ?_))); (case side2 => exact HC0_7.out); rintro e w33 ⟨rfl, hb⟩; refine ⟨_, rfl, ?_⟩; have n0_ := Aside0.mk (blk_below (g := gb399) (o := .cells #[.int .i64 a0_0, .int .i64 a0_1, .int .i64 a0_2, .int .i64 a0_3, .int .i64 a0_4, .int .i64 a0_5, .slice A0_6 l0_6.length c0_6, .slice A0_7 l0_7.length c0_7] 75 (0, 0)) (by (with_reducible repeat (first | refine blk_drewN ?_ _ | refine blk_drew ?_ | refine blk_alloc ?_ _)); exact BK399.out) hb); have n1_ := Aside0.mk (below_step (by repeat (first | (with_reducible first | exact HB.out | apply below_alloc | apply pw_below_drewN | apply below_drew1 | refine below_set ?_ GE399.out) | exact HB.out)) hb); clear BK399; clear HB; have BK399 := n0_; have HB := n1_; clear n0_ n1_; (try clear hb); (try clear hb2); (try clear hk); (try clear hi); have hcz34_0 : w33.cell? ⟨gb399, 0, none⟩ = some (.int .i64 a0_0) := (blk_cell BK399.out 0).trans rfl; have hcz34_1 : w33.cell? ⟨gb399, 1, none⟩ = some (.int .i64 a0_1) := (blk_cell BK399.out 1).trans rfl; have hcz34_2 : w33.cell? ⟨gb399, 2, none⟩ = some (.int .i64 a0_2) := (blk_cell BK399.out 2).trans rfl; have hcz34_3 : w33.cell? ⟨gb399, 3, none⟩ = some (.int .i64 a0_3) := (blk_cell BK399.out 3).trans rfl; have hcz34_4 : w33.cell? ⟨gb399, 4, none⟩ = some (.int .i64 a0_4) := (blk_cell BK399.out 4).trans rfl; have hcz34_5 : w33.cell? ⟨gb399, 5, none⟩ = some (.int .i64 a0_5) := (blk_cell BK399.out 5).trans rfl; have hcz34_6 : w33.cell? ⟨gb399, 6, none⟩ = some (.slice A0_6 l0_6.length c0_6) := (blk_cell BK399.out 6).trans rfl; have hcz34_7 : w33.cell? ⟨gb399, 7, none⟩ = some (.slice A0_7 l0_7.length c0_7) := (blk_cell BK399.out 7).trans rfl; have hfz34_0 := blk_frozen BK399.out 0; have hfz34_1 := blk_frozen BK399.out 1; have hfz34_2 := blk_frozen BK399.out 2; have hfz34_3 := blk_frozen BK399.out 3; have hfz34_4 := blk_frozen BK399.out 4; have hfz34_5 := blk_frozen BK399.out 5; have hfz34_6 := blk_frozen BK399.out 6; have hfz34_7 := blk_frozen BK399.out 7) | (go_at_call 66; (with_reducible refine (list_right.calls a0_1 a0_2 true _ A11.out).mono ?_); rintro e w35 ⟨rfl, hb⟩; have n0_ := Aside0.mk (blk_below (g := gb399) (o := .cells #[.int .i64 a0_0, .int .i64 a0_1, .int .i64 a0_2, .int .i64 a0_3, .int .i64 a0_4, .int .i64 a0_5, .slice A0_6 l0_6.length c0_6, .slice A0_7 l0_7.length c0_7] 75 (0, 0)) (by (with_reducible repeat (first | refine blk_drewN ?_ _ | refine blk_drew ?_ | refine blk_alloc ?_ _)); exact BK399.out) hb); have n1_ := Aside0.mk (below_step (by repeat (first | (with_reducible first | exact HB.out | apply below_alloc | apply pw_below_drewN | apply below_drew1 | refine below_set ?_ GE399.out) | exact HB.out)) hb); clear BK399; clear HB; have BK399 := n0_; have HB := n1_; clear n0_ n1_; (try clear hb); (try clear hb2); (try clear hk); (try clear hi); have hcz36_0 : w35.cell? ⟨gb399, 0, none⟩ = some (.int .i64 a0_0) := (blk_cell BK399.out 0).trans rfl; have hcz36_1 : w35.cell? ⟨gb399, 1, none⟩ = some (.int .i64 a0_1) := (blk_cell BK399.out 1).trans rfl; have hcz36_2 : w35.cell? ⟨gb399, 2, none⟩ = some (.int .i64 a0_2) := (blk_cell BK399.out 2).trans rfl; have hcz36_3 : w35.cell? ⟨gb399, 3, none⟩ = some (.int .i64 a0_3) := (blk_cell BK399.out 3).trans rfl; have hcz36_4 : w35.cell? ⟨gb399, 4, none⟩ = some (.int .i64 a0_4) := (blk_cell BK399.out 4).trans rfl; have hcz36_5 : w35.cell? ⟨gb399, 5, none⟩ = some (.int .i64 a0_5) := (blk_cell BK399.out 5).trans rfl; have hcz36_6 : w35.cell? ⟨gb399, 6, none⟩ = some (.slice A0_6 l0_6.length c0_6) := (blk_cell BK399.out 6).trans rfl; have hcz36_7 : w35.cell? ⟨gb399, 7, none⟩ = some (.slice A0_7 l0_7.length c0_7) := (blk_cell BK399.out 7).trans rfl; have hfz36_0 := blk_frozen BK399.out 0; have hfz36_1 := blk_frozen BK399.out 1; have hfz36_2 := blk_frozen BK399.out 2; have hfz36_3 := blk_frozen BK399.out 3; have hfz36_4 := blk_frozen BK399.out 4; have hfz36_5 := blk_frozen BK399.out 5; have hfz36_6 := blk_frozen BK399.out 6; have hfz36_7 := blk_frozen BK399.out 7) | (go_at_call 66; (with_reducible refine (list_right.calls a0_3 a0_4 true _ A13.out).mono ?_); rintro e w37 ⟨rfl, hb⟩; have n0_ := Aside0.mk (blk_below (g := gb399) (o := .cells #[.int .i64 a0_0, .int .i64 a0_1, .int .i64 a0_2, .int .i64 a0_3, .int .i64 a0_4, .int .i64 a0_5, .slice A0_6 l0_6.length c0_6, .slice A0_7 l0_7.length c0_7] 75 (0, 0)) (by (with_reducible repeat (first | refine blk_drewN ?_ _ | refine blk_drew ?_ | refine blk_alloc ?_ _)); exact BK399.out) hb); have n1_ := Aside0.mk (below_step (by repeat (first | (with_reducible first | exact HB.out | apply below_alloc | apply pw_below_drewN | apply below_drew1 | refine below_set ?_ GE399.out) | exact HB.out)) hb); clear BK399; clear HB; have BK399 := n0_; have HB := n1_; clear n0_ n1_; (try clear hb); (try clear hb2); (try clear hk); (try clear hi); have hcz38_0 : w37.cell? ⟨gb399, 0, none⟩ = some (.int .i64 a0_0) := (blk_cell BK399.out 0).trans rfl; have hcz38_1 : w37.cell? ⟨gb399, 1, none⟩ = some (.int .i64 a0_1) := (blk_cell BK399.out 1).trans rfl; have hcz38_2 : w37.cell? ⟨gb399, 2, none⟩ = some (.int .i64 a0_2) := (blk_cell BK399.out 2).trans rfl; have hcz38_3 : w37.cell? ⟨gb399, 3, none⟩ = some (.int .i64 a0_3) := (blk_cell BK399.out 3).trans rfl; have hcz38_4 : w37.cell? ⟨gb399, 4, none⟩ = some (.int .i64 a0_4) := (blk_cell BK399.out 4).trans rfl; have hcz38_5 : w37.cell? ⟨gb399, 5, none⟩ = some (.int .i64 a0_5) := (blk_cell BK399.out 5).trans rfl; have hcz38_6 : w37.cell? ⟨gb399, 6, none⟩ = some (.slice A0_6 l0_6.length c0_6) := (blk_cell BK399.out 6).trans rfl; have hcz38_7 : w37.cell? ⟨gb399, 7, none⟩ = some (.slice A0_7 l0_7.length c0_7) := (blk_cell BK399.out 7).trans rfl; have hfz38_0 := blk_frozen BK399.out 0; have hfz38_1 := blk_frozen BK399.out 1; have hfz38_2 := blk_frozen BK399.out 2; have hfz38_3 := blk_frozen BK399.out 3; have hfz38_4 := blk_frozen BK399.out 4; have hfz38_5 := blk_frozen BK399.out 5; have hfz38_6 := blk_frozen BK399.out 6; have hfz38_7 := blk_frozen BK399.out 7))
                  go_ret
                  exact ⟨by first | rfl | (simp [errW_none, errW_some] <;> rfl) | (simp [*, errW_none, errW_some] <;> rfl), by repeat (first | (with_reducible first | exact HB.out | apply below_alloc | apply pw_below_drewN | apply below_drew1 | refine below_set ?_ GE399.out) | exact HB.out)⟩
              · rw [if_neg c15] at H
                have c15b0 : decide (0 ≤ a0_0) = false := decide_eq_false c15
                clear c15
                obtain rfl := Option.some.inj H
                have hcz39_0 : wr.cell? ⟨gb399, 0, none⟩ = some (.int .i64 a0_0) := (blk_cell BK399.out 0).trans rfl
                have hcz39_1 : wr.cell? ⟨gb399, 1, none⟩ = some (.int .i64 a0_1) := (blk_cell BK399.out 1).trans rfl
                have hcz39_2 : wr.cell? ⟨gb399, 2, none⟩ = some (.int .i64 a0_2) := (blk_cell BK399.out 2).trans rfl
                have hcz39_3 : wr.cell? ⟨gb399, 3, none⟩ = some (.int .i64 a0_3) := (blk_cell BK399.out 3).trans rfl
                have hcz39_4 : wr.cell? ⟨gb399, 4, none⟩ = some (.int .i64 a0_4) := (blk_cell BK399.out 4).trans rfl
                have hcz39_5 : wr.cell? ⟨gb399, 5, none⟩ = some (.int .i64 a0_5) := (blk_cell BK399.out 5).trans rfl
                have hcz39_6 : wr.cell? ⟨gb399, 6, none⟩ = some (.slice A0_6 l0_6.length c0_6) := (blk_cell BK399.out 6).trans rfl
                have hcz39_7 : wr.cell? ⟨gb399, 7, none⟩ = some (.slice A0_7 l0_7.length c0_7) := (blk_cell BK399.out 7).trans rfl
                have hfz39_0 := blk_frozen BK399.out 0
                have hfz39_1 := blk_frozen BK399.out 1
                have hfz39_2 := blk_frozen BK399.out 2
                have hfz39_3 := blk_frozen BK399.out 3
                have hfz39_4 := blk_frozen BK399.out 4
                have hfz39_5 := blk_frozen BK399.out 5
                have hfz39_6 := blk_frozen BK399.out 6
                have hfz39_7 := blk_frozen BK399.out 7
                go_wp2_with (first | ((with_reducible refine gate_callee (f := 59) rfl ?_); refine goesL_ (some 27) rfl rfl Try.func59 (by kernel_rfl) rfl #[.slice A0_7 l0_7.length c0_7] rfl (by (try simp only [List.map_toArray, List.map_cons, List.map_nil]); first | done | rfl | (simp only [List.length_drop, List.length_take]; rfl)) ?_; (with_reducible refine (list_Put.calls _ _ l0_7 t401 t402 _ ?side1 ?side2 A9.out).mono ?_); (case side1 => repeat (first | exact (Kd.C_below HR0_7.out HB.out) | (with_reducible refine Kd.C_alloc ?_ _) | (with_reducible refine Kd.C_drewN ?_ _) | (with_reducible refine Kd.C_drew ?_))); (case side2 => exact HC0_7.out); rintro e w40 ⟨rfl, hb⟩; refine ⟨_, rfl, ?_⟩; have n0_ := Aside0.mk (blk_below (g := gb399) (o := .cells #[.int .i64 a0_0, .int .i64 a0_1, .int .i64 a0_2, .int .i64 a0_3, .int .i64 a0_4, .int .i64 a0_5, .slice A0_6 l0_6.length c0_6, .slice A0_7 l0_7.length c0_7] 75 (0, 0)) (by (with_reducible repeat (first | refine blk_drewN ?_ _ | refine blk_drew ?_ | refine blk_alloc ?_ _)); exact BK399.out) hb); have n1_ := Aside0.mk (below_step (by repeat (first | (with_reducible first | exact HB.out | apply below_alloc | apply pw_below_drewN | apply below_drew1 | refine below_set ?_ GE399.out) | exact HB.out)) hb); clear BK399; clear HB; have BK399 := n0_; have HB := n1_; clear n0_ n1_; (try clear hb); (try clear hb2); (try clear hk); (try clear hi); have hcz41_0 : w40.cell? ⟨gb399, 0, none⟩ = some (.int .i64 a0_0) := (blk_cell BK399.out 0).trans rfl; have hcz41_1 : w40.cell? ⟨gb399, 1, none⟩ = some (.int .i64 a0_1) := (blk_cell BK399.out 1).trans rfl; have hcz41_2 : w40.cell? ⟨gb399, 2, none⟩ = some (.int .i64 a0_2) := (blk_cell BK399.out 2).trans rfl; have hcz41_3 : w40.cell? ⟨gb399, 3, none⟩ = some (.int .i64 a0_3) := (blk_cell BK399.out 3).trans rfl; have hcz41_4 : w40.cell? ⟨gb399, 4, none⟩ = some (.int .i64 a0_4) := (blk_cell BK399.out 4).trans rfl; have hcz41_5 : w40.cell? ⟨gb399, 5, none⟩ = some (.int .i64 a0_5) := (blk_cell BK399.out 5).trans rfl; have hcz41_6 : w40.cell? ⟨gb399, 6, none⟩ = some (.slice A0_6 l0_6.length c0_6) := (blk_cell BK399.out 6).trans rfl; have hcz41_7 : w40.cell? ⟨gb399, 7, none⟩ = some (.slice A0_7 l0_7.length c0_7) := (blk_cell BK399.out 7).trans rfl; have hfz41_0 := blk_frozen BK399.out 0; have hfz41_1 := blk_frozen BK399.out 1; have hfz41_2 := blk_frozen BK399.out 2; have hfz41_3 := blk_frozen BK399.out 3; have hfz41_4 := blk_frozen BK399.out 4; have hfz41_5 := blk_frozen BK399.out 5; have hfz41_6 := blk_frozen BK399.out 6; have hfz41_7 := blk_frozen BK399.out 7) | (go_at_call 66; (with_reducible refine (list_right.calls a0_1 a0_2 true _ A11.out).mono ?_); rintro e w42 ⟨rfl, hb⟩; have n0_ := Aside0.mk (blk_below (g := gb399) (o := .cells #[.int .i64 a0_0, .int .i64 a0_1, .int .i64 a0_2, .int .i64 a0_3, .int .i64 a0_4, .int .i64 a0_5, .slice A0_6 l0_6.length c0_6, .slice A0_7 l0_7.length c0_7] 75 (0, 0)) (by (with_reducible repeat (first | refine blk_drewN ?_ _ | refine blk_drew ?_ | refine blk_alloc ?_ _)); exact BK399.out) hb); have n1_ := Aside0.mk (below_step (by repeat (first | (with_reducible first | exact HB.out | apply below_alloc | apply pw_below_drewN | apply below_drew1 | refine below_set ?_ GE399.out) | exact HB.out)) hb); clear BK399; clear HB; have BK399 := n0_; have HB := n1_; clear n0_ n1_; (try clear hb); (try clear hb2); (try clear hk); (try clear hi); have hcz43_0 : w42.cell? ⟨gb399, 0, none⟩ = some (.int .i64 a0_0) := (blk_cell BK399.out 0).trans rfl; have hcz43_1 : w42.cell? ⟨gb399, 1, none⟩ = some (.int .i64 a0_1) := (blk_cell BK399.out 1).trans rfl; have hcz43_2 : w42.cell? ⟨gb399, 2, none⟩ = some (.int .i64 a0_2) := (blk_cell BK399.out 2).trans rfl; have hcz43_3 : w42.cell? ⟨gb399, 3, none⟩ = some (.int .i64 a0_3) := (blk_cell BK399.out 3).trans rfl; have hcz43_4 : w42.cell? ⟨gb399, 4, none⟩ = some (.int .i64 a0_4) := (blk_cell BK399.out 4).trans rfl; have hcz43_5 : w42.cell? ⟨gb399, 5, none⟩ = some (.int .i64 a0_5) := (blk_cell BK399.out 5).trans rfl; have hcz43_6 : w42.cell? ⟨gb399, 6, none⟩ = some (.slice A0_6 l0_6.length c0_6) := (blk_cell BK399.out 6).trans rfl; have hcz43_7 : w42.cell? ⟨gb399, 7, none⟩ = some (.slice A0_7 l0_7.length c0_7) := (blk_cell BK399.out 7).trans rfl; have hfz43_0 := blk_frozen BK399.out 0; have hfz43_1 := blk_frozen BK399.out 1; have hfz43_2 := blk_frozen BK399.out 2; have hfz43_3 := blk_frozen BK399.out 3; have hfz43_4 := blk_frozen BK399.out 4; have hfz43_5 := blk_frozen BK399.out 5; have hfz43_6 := blk_frozen BK399.out 6; have hfz43_7 := blk_frozen BK399.out 7) | (go_at_call 66; (with_reducible refine (list_right.calls a0_3 a0_4 true _ A13.out).mono ?_); rintro e w44 ⟨rfl, hb⟩; have n0_ := Aside0.mk (blk_below (g := gb399) (o := .cells #[.int .i64 a0_0, .int .i64 a0_1, .int .i64 a0_2, .int .i64 a0_3, .int .i64 a0_4, .int .i64 a0_5, .slice A0_6 l0_6.length c0_6, .slice A0_7 l0_7.length c0_7] 75 (0, 0)) (by (with_reducible repeat (first | refine blk_drewN ?_ _ | refine blk_drew ?_ | refine blk_alloc ?_ _)); exact BK399.out) hb); have n1_ := Aside0.mk (below_step (by repeat (first | (with_reducible first | exact HB.out | apply below_alloc | apply pw_below_drewN | apply below_drew1 | refine below_set ?_ GE399.out) | exact HB.out)) hb); clear BK399; clear HB; have BK399 := n0_; have HB := n1_; clear n0_ n1_; (try clear hb); (try clear hb2); (try clear hk); (try clear hi); have hcz45_0 : w44.cell? ⟨gb399, 0, none⟩ = some (.int .i64 a0_0) := (blk_cell BK399.out 0).trans rfl; have hcz45_1 : w44.cell? ⟨gb399, 1, none⟩ = some (.int .i64 a0_1) := (blk_cell BK399.out 1).trans rfl; have hcz45_2 : w44.cell? ⟨gb399, 2, none⟩ = some (.int .i64 a0_2) := (blk_cell BK399.out 2).trans rfl; have hcz45_3 : w44.cell? ⟨gb399, 3, none⟩ = some (.int .i64 a0_3) := (blk_cell BK399.out 3).trans rfl; have hcz45_4 : w44.cell? ⟨gb399, 4, none⟩ = some (.int .i64 a0_4) := (blk_cell BK399.out 4).trans rfl; have hcz45_5 : w44.cell? ⟨gb399, 5, none⟩ = some (.int .i64 a0_5) := (blk_cell BK399.out 5).trans rfl; have hcz45_6 : w44.cell? ⟨gb399, 6, none⟩ = some (.slice A0_6 l0_6.length c0_6) := (blk_cell BK399.out 6).trans rfl; have hcz45_7 : w44.cell? ⟨gb399, 7, none⟩ = some (.slice A0_7 l0_7.length c0_7) := (blk_cell BK399.out 7).trans rfl; have hfz45_0 := blk_frozen BK399.out 0; have hfz45_1 := blk_frozen BK399.out 1; have hfz45_2 := blk_frozen BK399.out 2; have hfz45_3 := blk_frozen BK399.out 3; have hfz45_4 := blk_frozen BK399.out 4; have hfz45_5 := blk_frozen BK399.out 5; have hfz45_6 := blk_frozen BK399.out 6; have hfz45_7 := blk_frozen BK399.out 7))
                go_ret
                exact ⟨by first | rfl | (simp [errW_none, errW_some] <;> rfl) | (simp [*, errW_none, errW_some] <;> rfl), by repeat (first | (with_reducible first | exact HB.out | apply below_alloc | apply pw_below_drewN | apply below_drew1 | refine below_set ?_ GE399.out) | exact HB.out)⟩
            · replace c14 := Bool.eq_false_iff.mpr c14
              subst c14
              have H1 : (some false) = some r := by rw [if_neg (show ¬ (false = true) by decide)] at H; exact H
              clear H
              have H := H1
              clear H1
              obtain rfl := Option.some.inj H
              have hcz46_0 : wr.cell? ⟨gb399, 0, none⟩ = some (.int .i64 a0_0) := (blk_cell BK399.out 0).trans rfl
              have hcz46_1 : wr.cell? ⟨gb399, 1, none⟩ = some (.int .i64 a0_1) := (blk_cell BK399.out 1).trans rfl
              have hcz46_2 : wr.cell? ⟨gb399, 2, none⟩ = some (.int .i64 a0_2) := (blk_cell BK399.out 2).trans rfl
              have hcz46_3 : wr.cell? ⟨gb399, 3, none⟩ = some (.int .i64 a0_3) := (blk_cell BK399.out 3).trans rfl
              have hcz46_4 : wr.cell? ⟨gb399, 4, none⟩ = some (.int .i64 a0_4) := (blk_cell BK399.out 4).trans rfl
              have hcz46_5 : wr.cell? ⟨gb399, 5, none⟩ = some (.int .i64 a0_5) := (blk_cell BK399.out 5).trans rfl
              have hcz46_6 : wr.cell? ⟨gb399, 6, none⟩ = some (.slice A0_6 l0_6.length c0_6) := (blk_cell BK399.out 6).trans rfl
              have hcz46_7 : wr.cell? ⟨gb399, 7, none⟩ = some (.slice A0_7 l0_7.length c0_7) := (blk_cell BK399.out 7).trans rfl
              have hfz46_0 := blk_frozen BK399.out 0
              have hfz46_1 := blk_frozen BK399.out 1
              have hfz46_2 := blk_frozen BK399.out 2
              have hfz46_3 := blk_frozen BK399.out 3
              have hfz46_4 := blk_frozen BK399.out 4
              have hfz46_5 := blk_frozen BK399.out 5
              have hfz46_6 := blk_frozen BK399.out 6
              have hfz46_7 := blk_frozen BK399.out 7
              go_wp2_with (first | ((with_reducible refine gate_callee (f := 59) rfl ?_); refine goesL_ (some 27) rfl rfl Try.func59 (by kernel_rfl) rfl #[.slice A0_7 l0_7.length c0_7] rfl (by (try simp only [List.map_toArray, List.map_cons, List.map_nil]); first | done | rfl | (simp only [List.length_drop, List.length_take]; rfl)) ?_; (with_reducible refine (list_Put.calls _ _ l0_7 t401 t402 _ ?side1 ?side2 A9.out).mono ?_); (case side1 => repeat (first | exact (Kd.C_below HR0_7.out HB.out) | (with_reducible refine Kd.C_alloc ?_ _) | (with_reducible refine Kd.C_drewN ?_ _) | (with_reducible refine Kd.C_drew ?_))); (case side2 => exact HC0_7.out); rintro e w47 ⟨rfl, hb⟩; refine ⟨_, rfl, ?_⟩; have n0_ := Aside0.mk (blk_below (g := gb399) (o := .cells #[.int .i64 a0_0, .int .i64 a0_1, .int .i64 a0_2, .int .i64 a0_3, .int .i64 a0_4, .int .i64 a0_5, .slice A0_6 l0_6.length c0_6, .slice A0_7 l0_7.length c0_7] 75 (0, 0)) (by (with_reducible repeat (first | refine blk_drewN ?_ _ | refine blk_drew ?_ | refine blk_alloc ?_ _)); exact BK399.out) hb); have n1_ := Aside0.mk (below_step (by repeat (first | (with_reducible first | exact HB.out | apply below_alloc | apply pw_below_drewN | apply below_drew1 | refine below_set ?_ GE399.out) | exact HB.out)) hb); clear BK399; clear HB; have BK399 := n0_; have HB := n1_; clear n0_ n1_; (try clear hb); (try clear hb2); (try clear hk); (try clear hi); have hcz48_0 : w47.cell? ⟨gb399, 0, none⟩ = some (.int .i64 a0_0) := (blk_cell BK399.out 0).trans rfl; have hcz48_1 : w47.cell? ⟨gb399, 1, none⟩ = some (.int .i64 a0_1) := (blk_cell BK399.out 1).trans rfl; have hcz48_2 : w47.cell? ⟨gb399, 2, none⟩ = some (.int .i64 a0_2) := (blk_cell BK399.out 2).trans rfl; have hcz48_3 : w47.cell? ⟨gb399, 3, none⟩ = some (.int .i64 a0_3) := (blk_cell BK399.out 3).trans rfl; have hcz48_4 : w47.cell? ⟨gb399, 4, none⟩ = some (.int .i64 a0_4) := (blk_cell BK399.out 4).trans rfl; have hcz48_5 : w47.cell? ⟨gb399, 5, none⟩ = some (.int .i64 a0_5) := (blk_cell BK399.out 5).trans rfl; have hcz48_6 : w47.cell? ⟨gb399, 6, none⟩ = some (.slice A0_6 l0_6.length c0_6) := (blk_cell BK399.out 6).trans rfl; have hcz48_7 : w47.cell? ⟨gb399, 7, none⟩ = some (.slice A0_7 l0_7.length c0_7) := (blk_cell BK399.out 7).trans rfl; have hfz48_0 := blk_frozen BK399.out 0; have hfz48_1 := blk_frozen BK399.out 1; have hfz48_2 := blk_frozen BK399.out 2; have hfz48_3 := blk_frozen BK399.out 3; have hfz48_4 := blk_frozen BK399.out 4; have hfz48_5 := blk_frozen BK399.out 5; have hfz48_6 := blk_frozen BK399.out 6; have hfz48_7 := blk_frozen BK399.out 7) | (go_at_call 66; (with_reducible refine (list_right.calls a0_1 a0_2 true _ A11.out).mono ?_); rintro e w49 ⟨rfl, hb⟩; have n0_ := Aside0.mk (blk_below (g := gb399) (o := .cells #[.int .i64 a0_0, .int .i64 a0_1, .int .i64 a0_2, .int .i64 a0_3, .int .i64 a0_4, .int .i64 a0_5, .slice A0_6 l0_6.length c0_6, .slice A0_7 l0_7.length c0_7] 75 (0, 0)) (by (with_reducible repeat (first | refine blk_drewN ?_ _ | refine blk_drew ?_ | refine blk_alloc ?_ _)); exact BK399.out) hb); have n1_ := Aside0.mk (below_step (by repeat (first | (with_reducible first | exact HB.out | apply below_alloc | apply pw_below_drewN | apply below_drew1 | refine below_set ?_ GE399.out) | exact HB.out)) hb); clear BK399; clear HB; have BK399 := n0_; have HB := n1_; clear n0_ n1_; (try clear hb); (try clear hb2); (try clear hk); (try clear hi); have hcz50_0 : w49.cell? ⟨gb399, 0, none⟩ = some (.int .i64 a0_0) := (blk_cell BK399.out 0).trans rfl; have hcz50_1 : w49.cell? ⟨gb399, 1, none⟩ = some (.int .i64 a0_1) := (blk_cell BK399.out 1).trans rfl; have hcz50_2 : w49.cell? ⟨gb399, 2, none⟩ = some (.int .i64 a0_2) := (blk_cell BK399.out 2).trans rfl; have hcz50_3 : w49.cell? ⟨gb399, 3, none⟩ = some (.int .i64 a0_3) := (blk_cell BK399.out 3).trans rfl; have hcz50_4 : w49.cell? ⟨gb399, 4, none⟩ = some (.int .i64 a0_4) := (blk_cell BK399.out 4).trans rfl; have hcz50_5 : w49.cell? ⟨gb399, 5, none⟩ = some (.int .i64 a0_5) := (blk_cell BK399.out 5).trans rfl; have hcz50_6 : w49.cell? ⟨gb399, 6, none⟩ = some (.slice A0_6 l0_6.length c0_6) := (blk_cell BK399.out 6).trans rfl; have hcz50_7 : w49.cell? ⟨gb399, 7, none⟩ = some (.slice A0_7 l0_7.length c0_7) := (blk_cell BK399.out 7).trans rfl; have hfz50_0 := blk_frozen BK399.out 0; have hfz50_1 := blk_frozen BK399.out 1; have hfz50_2 := blk_frozen BK399.out 2; have hfz50_3 := blk_frozen BK399.out 3; have hfz50_4 := blk_frozen BK399.out 4; have hfz50_5 := blk_frozen BK399.out 5; have hfz50_6 := blk_frozen BK399.out 6; have hfz50_7 := blk_frozen BK399.out 7) | (go_at_call 66; (with_reducible refine (list_right.calls a0_3 a0_4 false _ A13.out).mono ?_); rintro e w51 ⟨rfl, hb⟩; have n0_ := Aside0.mk (blk_below (g := gb399) (o := .cells #[.int .i64 a0_0, .int .i64 a0_1, .int .i64 a0_2, .int .i64 a0_3, .int .i64 a0_4, .int .i64 a0_5, .slice A0_6 l0_6.length c0_6, .slice A0_7 l0_7.length c0_7] 75 (0, 0)) (by (with_reducible repeat (first | refine blk_drewN ?_ _ | refine blk_drew ?_ | refine blk_alloc ?_ _)); exact BK399.out) hb); have n1_ := Aside0.mk (below_step (by repeat (first | (with_reducible first | exact HB.out | apply below_alloc | apply pw_below_drewN | apply below_drew1 | refine below_set ?_ GE399.out) | exact HB.out)) hb); clear BK399; clear HB; have BK399 := n0_; have HB := n1_; clear n0_ n1_; (try clear hb); (try clear hb2); (try clear hk); (try clear hi)))
              go_ret
              exact ⟨by first | rfl | (simp [errW_none, errW_some] <;> rfl) | (simp [*, errW_none, errW_some] <;> rfl), by repeat (first | (with_reducible first | exact HB.out | apply below_alloc | apply pw_below_drewN | apply below_drew1 | refine below_set ?_ GE399.out) | exact HB.out)⟩
          · replace c12 := Bool.eq_false_iff.mpr c12
            subst c12
            have H1 : (some false) = some r := by rw [if_neg (show ¬ (false = true) by decide)] at H; exact H
            clear H
            have H := H1
            clear H1
            obtain rfl := Option.some.inj H
            have hcz52_0 : wr.cell? ⟨gb399, 0, none⟩ = some (.int .i64 a0_0) := (blk_cell BK399.out 0).trans rfl
            have hcz52_1 : wr.cell? ⟨gb399, 1, none⟩ = some (.int .i64 a0_1) := (blk_cell BK399.out 1).trans rfl
            have hcz52_2 : wr.cell? ⟨gb399, 2, none⟩ = some (.int .i64 a0_2) := (blk_cell BK399.out 2).trans rfl
            have hcz52_3 : wr.cell? ⟨gb399, 3, none⟩ = some (.int .i64 a0_3) := (blk_cell BK399.out 3).trans rfl
            have hcz52_4 : wr.cell? ⟨gb399, 4, none⟩ = some (.int .i64 a0_4) := (blk_cell BK399.out 4).trans rfl
            have hcz52_5 : wr.cell? ⟨gb399, 5, none⟩ = some (.int .i64 a0_5) := (blk_cell BK399.out 5).trans rfl
            have hcz52_6 : wr.cell? ⟨gb399, 6, none⟩ = some (.slice A0_6 l0_6.length c0_6) := (blk_cell BK399.out 6).trans rfl
            have hcz52_7 : wr.cell? ⟨gb399, 7, none⟩ = some (.slice A0_7 l0_7.length c0_7) := (blk_cell BK399.out 7).trans rfl
            have hfz52_0 := blk_frozen BK399.out 0
            have hfz52_1 := blk_frozen BK399.out 1
            have hfz52_2 := blk_frozen BK399.out 2
            have hfz52_3 := blk_frozen BK399.out 3
            have hfz52_4 := blk_frozen BK399.out 4
            have hfz52_5 := blk_frozen BK399.out 5
            have hfz52_6 := blk_frozen BK399.out 6
            have hfz52_7 := blk_frozen BK399.out 7
            go_wp2_with (first | ((with_reducible refine gate_callee (f := 59) rfl ?_); refine goesL_ (some 27) rfl rfl Try.func59 (by kernel_rfl) rfl #[.slice A0_7 l0_7.length c0_7] rfl (by (try simp only [List.map_toArray, List.map_cons, List.map_nil]); first | done | rfl | (simp only [List.length_drop, List.length_take]; rfl)) ?_; (with_reducible refine (list_Put.calls _ _ l0_7 t401 t402 _ ?side1 ?side2 A9.out).mono ?_); (case side1 => repeat (first | exact (Kd.C_below HR0_7.out HB.out) | (with_reducible refine Kd.C_alloc ?_ _) | (with_reducible refine Kd.C_drewN ?_ _) | (with_reducible refine Kd.C_drew ?_))); (case side2 => exact HC0_7.out); rintro e w53 ⟨rfl, hb⟩; refine ⟨_, rfl, ?_⟩; have n0_ := Aside0.mk (blk_below (g := gb399) (o := .cells #[.int .i64 a0_0, .int .i64 a0_1, .int .i64 a0_2, .int .i64 a0_3, .int .i64 a0_4, .int .i64 a0_5, .slice A0_6 l0_6.length c0_6, .slice A0_7 l0_7.length c0_7] 75 (0, 0)) (by (with_reducible repeat (first | refine blk_drewN ?_ _ | refine blk_drew ?_ | refine blk_alloc ?_ _)); exact BK399.out) hb); have n1_ := Aside0.mk (below_step (by repeat (first | (with_reducible first | exact HB.out | apply below_alloc | apply pw_below_drewN | apply below_drew1 | refine below_set ?_ GE399.out) | exact HB.out)) hb); clear BK399; clear HB; have BK399 := n0_; have HB := n1_; clear n0_ n1_; (try clear hb); (try clear hb2); (try clear hk); (try clear hi); have hcz54_0 : w53.cell? ⟨gb399, 0, none⟩ = some (.int .i64 a0_0) := (blk_cell BK399.out 0).trans rfl; have hcz54_1 : w53.cell? ⟨gb399, 1, none⟩ = some (.int .i64 a0_1) := (blk_cell BK399.out 1).trans rfl; have hcz54_2 : w53.cell? ⟨gb399, 2, none⟩ = some (.int .i64 a0_2) := (blk_cell BK399.out 2).trans rfl; have hcz54_3 : w53.cell? ⟨gb399, 3, none⟩ = some (.int .i64 a0_3) := (blk_cell BK399.out 3).trans rfl; have hcz54_4 : w53.cell? ⟨gb399, 4, none⟩ = some (.int .i64 a0_4) := (blk_cell BK399.out 4).trans rfl; have hcz54_5 : w53.cell? ⟨gb399, 5, none⟩ = some (.int .i64 a0_5) := (blk_cell BK399.out 5).trans rfl; have hcz54_6 : w53.cell? ⟨gb399, 6, none⟩ = some (.slice A0_6 l0_6.length c0_6) := (blk_cell BK399.out 6).trans rfl; have hcz54_7 : w53.cell? ⟨gb399, 7, none⟩ = some (.slice A0_7 l0_7.length c0_7) := (blk_cell BK399.out 7).trans rfl; have hfz54_0 := blk_frozen BK399.out 0; have hfz54_1 := blk_frozen BK399.out 1; have hfz54_2 := blk_frozen BK399.out 2; have hfz54_3 := blk_frozen BK399.out 3; have hfz54_4 := blk_frozen BK399.out 4; have hfz54_5 := blk_frozen BK399.out 5; have hfz54_6 := blk_frozen BK399.out 6; have hfz54_7 := blk_frozen BK399.out 7) | (go_at_call 66; (with_reducible refine (list_right.calls a0_1 a0_2 false _ A11.out).mono ?_); rintro e w55 ⟨rfl, hb⟩; have n0_ := Aside0.mk (blk_below (g := gb399) (o := .cells #[.int .i64 a0_0, .int .i64 a0_1, .int .i64 a0_2, .int .i64 a0_3, .int .i64 a0_4, .int .i64 a0_5, .slice A0_6 l0_6.length c0_6, .slice A0_7 l0_7.length c0_7] 75 (0, 0)) (by (with_reducible repeat (first | refine blk_drewN ?_ _ | refine blk_drew ?_ | refine blk_alloc ?_ _)); exact BK399.out) hb); have n1_ := Aside0.mk (below_step (by repeat (first | (with_reducible first | exact HB.out | apply below_alloc | apply pw_below_drewN | apply below_drew1 | refine below_set ?_ GE399.out) | exact HB.out)) hb); clear BK399; clear HB; have BK399 := n0_; have HB := n1_; clear n0_ n1_; (try clear hb); (try clear hb2); (try clear hk); (try clear hi)))
            go_ret
            exact ⟨by first | rfl | (simp [errW_none, errW_some] <;> rfl) | (simp [*, errW_none, errW_some] <;> rfl), by repeat (first | (with_reducible first | exact HB.out | apply below_alloc | apply pw_below_drewN | apply below_drew1 | refine below_set ?_ GE399.out) | exact HB.out)⟩
        · rw [if_neg c10] at H
          have c10b0 : (t402 == 0) = false := beq_eq_false_iff_ne.mpr c10
          have c10b1 : (t402 != 0) = true := bne_iff_ne.mpr c10
          obtain rfl := Option.some.inj H
          have hcz56_0 : wr.cell? ⟨gb399, 0, none⟩ = some (.int .i64 a0_0) := (blk_cell BK399.out 0).trans rfl
          have hcz56_1 : wr.cell? ⟨gb399, 1, none⟩ = some (.int .i64 a0_1) := (blk_cell BK399.out 1).trans rfl
          have hcz56_2 : wr.cell? ⟨gb399, 2, none⟩ = some (.int .i64 a0_2) := (blk_cell BK399.out 2).trans rfl
          have hcz56_3 : wr.cell? ⟨gb399, 3, none⟩ = some (.int .i64 a0_3) := (blk_cell BK399.out 3).trans rfl
          have hcz56_4 : wr.cell? ⟨gb399, 4, none⟩ = some (.int .i64 a0_4) := (blk_cell BK399.out 4).trans rfl
          have hcz56_5 : wr.cell? ⟨gb399, 5, none⟩ = some (.int .i64 a0_5) := (blk_cell BK399.out 5).trans rfl
          have hcz56_6 : wr.cell? ⟨gb399, 6, none⟩ = some (.slice A0_6 l0_6.length c0_6) := (blk_cell BK399.out 6).trans rfl
          have hcz56_7 : wr.cell? ⟨gb399, 7, none⟩ = some (.slice A0_7 l0_7.length c0_7) := (blk_cell BK399.out 7).trans rfl
          have hfz56_0 := blk_frozen BK399.out 0
          have hfz56_1 := blk_frozen BK399.out 1
          have hfz56_2 := blk_frozen BK399.out 2
          have hfz56_3 := blk_frozen BK399.out 3
          have hfz56_4 := blk_frozen BK399.out 4
          have hfz56_5 := blk_frozen BK399.out 5
          have hfz56_6 := blk_frozen BK399.out 6
          have hfz56_7 := blk_frozen BK399.out 7
          go_wp2_with (first | ((with_reducible refine gate_callee (f := 59) rfl ?_); refine goesL_ (some 27) rfl rfl Try.func59 (by kernel_rfl) rfl #[.slice A0_7 l0_7.length c0_7] rfl (by (try simp only [List.map_toArray, List.map_cons, List.map_nil]); first | done | rfl | (simp only [List.length_drop, List.length_take]; rfl)) ?_; (with_reducible refine (list_Put.calls _ _ l0_7 t401 t402 _ ?side1 ?side2 A9.out).mono ?_); (case side1 => repeat (first | exact (Kd.C_below HR0_7.out HB.out) | (with_reducible refine Kd.C_alloc ?_ _) | (with_reducible refine Kd.C_drewN ?_ _) | (with_reducible refine Kd.C_drew ?_))); (case side2 => exact HC0_7.out); rintro e w57 ⟨rfl, hb⟩; refine ⟨_, rfl, ?_⟩; have n0_ := Aside0.mk (blk_below (g := gb399) (o := .cells #[.int .i64 a0_0, .int .i64 a0_1, .int .i64 a0_2, .int .i64 a0_3, .int .i64 a0_4, .int .i64 a0_5, .slice A0_6 l0_6.length c0_6, .slice A0_7 l0_7.length c0_7] 75 (0, 0)) (by (with_reducible repeat (first | refine blk_drewN ?_ _ | refine blk_drew ?_ | refine blk_alloc ?_ _)); exact BK399.out) hb); have n1_ := Aside0.mk (below_step (by repeat (first | (with_reducible first | exact HB.out | apply below_alloc | apply pw_below_drewN | apply below_drew1 | refine below_set ?_ GE399.out) | exact HB.out)) hb); clear BK399; clear HB; have BK399 := n0_; have HB := n1_; clear n0_ n1_; (try clear hb); (try clear hb2); (try clear hk); (try clear hi)))
          go_ret
          exact ⟨by first | rfl | (simp [errW_none, errW_some] <;> rfl) | (simp [*, errW_none, errW_some] <;> rfl), by repeat (first | (with_reducible first | exact HB.out | apply below_alloc | apply pw_below_drewN | apply below_drew1 | refine below_set ?_ GE399.out) | exact HB.out)⟩

end Go.Proofs.Ytenmlpkgodnjnaa.F
