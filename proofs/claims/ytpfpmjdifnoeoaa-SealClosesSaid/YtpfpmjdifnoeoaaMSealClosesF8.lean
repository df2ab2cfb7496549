import Derived.Test.YtpfpmjdifnoeoaaMSealClosesF0
import Derived.Test.YtpfpmjdifnoeoaaMSealClosesF56
import Derived.Test.YtpfpmjdifnoeoaaMSealClosesF57
import Derived.Test.YtpfpmjdifnoeoaaMSealClosesF58
import Derived.Test.YtpfpmjdifnoeoaaMSealClosesF59
import Derived.Test.YtpfpmjdifnoeoaaMSealClosesF60
import Derived.Test.YtpfpmjdifnoeoaaMSealClosesF61
import Derived.Test.YtpfpmjdifnoeoaaMSealClosesF62
namespace Go.Proofs.Ytpfpmjdifnoeoaa.F
open Go.RowKit Go.Proofs.YtpfpmjdifnoeoaaW.PrintWords Go.Proofs.YtpfpmjdifnoeoaaW.PrintLast Go.Proofs.YtpfpmjdifnoeoaaW.PrintMore
attribute [local go_sem] max2_int min2_int max_two min_two max_three min_three max_four min_four
set_option linter.unusedVariables false
set_option linter.unusedSimpArgs false
def gemotlaw17_SealCloses.j0 : Nat → ByteArray → Int → Int → ByteArray → ByteArray → Bool → Bool → Int → Int → List Int → Option (Bool)
  | 0, _, _, _, _, _, _, _, _, _, _ => none
  | k + 1, x0, x2, x3, x4, x5, x13, x49, x1002000, x1002001, x1002002 => if x49 = true then (some x13) else ((seal_Nonce.f x1002000 x1002001 x1002002 x2 x3).bind fun bt1003 => ((gemotref17_Nonce.f x1002000 x1002001 x1002002 x2 x3).bind fun bt1005 => ((seal_Close.f x0 x1002000 x1002001 x1002002 x2 x3 x4).bind fun bt1007 => ((gemotref17_Close.f x0 x1002000 x1002001 x1002002 x2 x3 x4).bind fun bt1009 => ((seal_Open.f x0 x1002000 x1002001 x1002002 x2 x3 x5).bind fun bt1011 => ((gemotref17_Open.f x0 x1002000 x1002001 x1002002 x2 x3 x5).bind fun bt1013 => (if bt1003.1.toList = bt1005.1.toList then (if bt1003.2 = bt1005.2 then (if bt1007.1.toList = bt1009.1.toList then (if bt1007.2 = bt1009.2 then (if bt1011.1.toList = bt1013.1.toList then (some (bt1011.2 == bt1013.2)) else (none)) else (none)) else (none)) else (none)) else (none))))))))
def gemotlaw17_SealCloses.f (k : Nat) (a0 : ByteArray) (a1_0 : Int) (a1_1 : Int) (l1_2 : List Int) (a2 : Int) (a3 : Int) (a4 : ByteArray) (a5 : ByteArray) : Option (Bool) := (gemotlaw17_shown.f).bind fun t1002 => (if t1002 = true then (if (a0.size : Int) > 500 then (gemotlaw17_SealCloses.j0 k a0 a2 a3 a4 a5 t1002 true a1_0 a1_1 l1_2) else (if (l1_2.length : Int) > 20 then (gemotlaw17_SealCloses.j0 k a0 a2 a3 a4 a5 t1002 true a1_0 a1_1 l1_2) else (if (a4.size : Int) > 500 then (gemotlaw17_SealCloses.j0 k a0 a2 a3 a4 a5 t1002 true a1_0 a1_1 l1_2) else (gemotlaw17_SealCloses.j0 k a0 a2 a3 a4 a5 t1002 (decide ((a5.size : Int) > 2000)) a1_0 a1_1 l1_2)))) else (gemotlaw17_SealCloses.j0 k a0 a2 a3 a4 a5 t1002 true a1_0 a1_1 l1_2))
set_option maxHeartbeats 8000000 in
set_option maxRecDepth 100000 in
theorem gemotlaw17_SealCloses.calls (k : Nat) (a0 : ByteArray) (a1_0 : Int) (a1_1 : Int) (A1_2 : Option Addr) (c1_2 : Nat) (l1_2 : List Int) (a2 : Int) (a3 : Int) (a4 : ByteArray) (a5 : ByteArray) (r : Bool) (w : World) (hr1_2 : Kd.C (Kd.int .i64) w A1_2 l1_2.length l1_2) (hc1_2 : l1_2.length ≤ c1_2) (h : gemotlaw17_SealCloses.f k a0 a1_0 a1_1 l1_2 a2 a3 a4 a5 = some r) :
    Calls Try.prog 8 #[.string a0, .agg #[.int .i64 a1_0, .int .i64 a1_1, .slice A1_2 l1_2.length c1_2], .int .i64 a2, .int .i64 a3, .string a4, .string a5] w fun e w' => e = .returned (.bool r) ∧ Below w.heap.size w w' := by
  have hu65 := Try.underlying65; have HR1_2 := Aside0.mk hr1_2
  have HC1_2 := Aside0.mk hc1_2
  clear hr1_2 hc1_2; have HB := Aside0.mk (Below.refl w.heap.size w)
  have H : ((gemotlaw17_shown.f).bind fun t1002 => (if t1002 = true then (if (a0.size : Int) > 500 then (gemotlaw17_SealCloses.j0 k a0 a2 a3 a4 a5 t1002 true a1_0 a1_1 l1_2) else (if (l1_2.length : Int) > 20 then (gemotlaw17_SealCloses.j0 k a0 a2 a3 a4 a5 t1002 true a1_0 a1_1 l1_2) else (if (a4.size : Int) > 500 then (gemotlaw17_SealCloses.j0 k a0 a2 a3 a4 a5 t1002 true a1_0 a1_1 l1_2) else (gemotlaw17_SealCloses.j0 k a0 a2 a3 a4 a5 t1002 (decide ((a5.size : Int) > 2000)) a1_0 a1_1 l1_2)))) else (gemotlaw17_SealCloses.j0 k a0 a2 a3 a4 a5 t1002 true a1_0 a1_1 l1_2))) = some r := h
  clear h; replace H := Option.bind_eq_some_iff.mp H
  obtain ⟨t1002, A70, H⟩ := H; replace H : (if t1002 = true then (if (a0.size : Int) > 500 then (gemotlaw17_SealCloses.j0 k a0 a2 a3 a4 a5 t1002 true a1_0 a1_1 l1_2) else (if (l1_2.length : Int) > 20 then (gemotlaw17_SealCloses.j0 k a0 a2 a3 a4 a5 t1002 true a1_0 a1_1 l1_2) else (if (a4.size : Int) > 500 then (gemotlaw17_SealCloses.j0 k a0 a2 a3 a4 a5 t1002 true a1_0 a1_1 l1_2) else (gemotlaw17_SealCloses.j0 k a0 a2 a3 a4 a5 t1002 (decide ((a5.size : Int) > 2000)) a1_0 a1_1 l1_2)))) else (gemotlaw17_SealCloses.j0 k a0 a2 a3 a4 a5 t1002 true a1_0 a1_1 l1_2)) = some r := H
  have A7 := Aside0.mk A70
  clear A70; have HC8 := Aside0.mk H
  clear H; go_enter Try.func8, Try.ntmps8
  go_upto_region 2 with (first | ((with_reducible refine gate_dst (N := 7) rfl ?_); refine box_event ?hg (N := 7) ?hd (cs := #[.int .i64 a1_0, .int .i64 a1_1, .slice A1_2 l1_2.length c1_2]) (t := 65) ?hr ?_; (case hd => rfl); (case hg => rfl); (case hr => first | (go_simp; done) | (go_simp; rfl)); intro gb1001 hg w9 hbox hb; have n0_ := Aside0.mk (below_step (by repeat with_reducible first | exact HB.out | apply below_alloc | apply pw_below_drewN | apply below_drew1) hb); have n1_ := Aside0.mk (hbox); have n2_ := Aside0.mk ((by rw [hg]; exact (below_size (by repeat with_reducible first | exact HB.out | apply below_alloc | apply pw_below_drewN | apply below_drew1)) : w.heap.size ≤ gb1001)); have n3_ := Aside0.mk ((by rw [hg]; exact (below_size (by repeat with_reducible first | exact HB.out | apply below_alloc | apply pw_below_drewN | apply below_drew1)) : w.heap.size ≤ gb1001)); clear HB; have HB := n0_; have BK1001 := n1_; have GW1001 := n2_; have GE1001 := n3_; clear n0_ n1_ n2_ n3_; clear hb hbox hg) | ((with_reducible refine gate_callee (f := 56) rfl ?_); refine goesL_ (some 26) rfl rfl Try.func56 (by kernel_rfl) rfl #[] rfl (by simp only [List.map_toArray, List.map_cons, List.map_nil] <;> rfl) ?_; (with_reducible refine (gemotlaw17_shown.calls  t1002 _ A7.out).mono ?_); rintro e w10 ⟨rfl, hb⟩; refine ⟨_, rfl, ?_⟩; have n0_ := Aside0.mk (blk_below (g := gb1001) (o := .cells #[.int .i64 a1_0, .int .i64 a1_1, .slice A1_2 l1_2.length c1_2] 65 (0, 0)) (by (with_reducible repeat (first | refine blk_drewN ?_ _ | refine blk_drew ?_ | refine blk_alloc ?_ _)); exact BK1001.out) hb); have n1_ := Aside0.mk (below_step (by repeat (with_reducible first | exact HB.out | apply below_alloc | apply pw_below_drewN | apply below_drew1 | refine below_set ?_ GE1001.out)) hb); clear BK1001; clear HB; have BK1001 := n0_; have HB := n1_; clear n0_ n1_; (try clear hb)))
  (try simp only [Act.put, List.setIfInBounds_toArray, List.set_cons_zero, List.set_cons_succ]); go_cut [49] (fun v49 wc => ∃ (kq : Nat) (x49_7 : Bool), v49 = .bool x49_7 ∧ Aside0 (gemotlaw17_SealCloses.j0 kq a0 a2 a3 a4 a5 t1002 x49_7 a1_0 a1_1 l1_2 = some r) ∧ Aside0 (kq ≤ k) ∧ Aside0 (wc.heap[gb1001]? = some (.cells #[.int .i64 a1_0, .int .i64 a1_1, (.slice A1_2 l1_2.length c1_2)] 65 (0, 0))) ∧ Aside0 (Below w.heap.size w wc))
  case first =>
    have H := HC8.out; clear HC8; by_cases c11 : t1002 = true
    · subst c11; have H1 : (if (a0.size : Int) > 500 then (gemotlaw17_SealCloses.j0 k a0 a2 a3 a4 a5 true true a1_0 a1_1 l1_2) else (if (l1_2.length : Int) > 20 then (gemotlaw17_SealCloses.j0 k a0 a2 a3 a4 a5 true true a1_0 a1_1 l1_2) else (if (a4.size : Int) > 500 then (gemotlaw17_SealCloses.j0 k a0 a2 a3 a4 a5 true true a1_0 a1_1 l1_2) else (gemotlaw17_SealCloses.j0 k a0 a2 a3 a4 a5 true (decide ((a5.size : Int) > 2000)) a1_0 a1_1 l1_2)))) = some r := by rw [if_pos rfl] at H; exact H
      clear H; have H := H1; clear H1; by_cases c12 : (a0.size : Int) > 500
      · rw [if_pos c12] at H
        have c12b0 : decide (500 < (a0.size : Int)) = true := decide_eq_true c12
        have c12b1 : decide (500 < a0.size) = true := decide_eq_true (by omega)
        clear c12; (first | rw [c12b0] | (simp only [i64_w, i32_w]; rw [c12b0]) | skip); have H' := Aside0.mk H
        clear H; go_wp2; go_meet
        case rel => exact ⟨_, (true), (by first | rfl | (simp; done) | (simp [*]; done)), H', ⟨by first | omega | exact Nat.le_refl _⟩, ⟨by (with_reducible repeat (first | refine blk_drewN ?_ _ | refine blk_drew ?_ | refine blk_alloc ?_ _)); exact BK1001.out⟩, ⟨by repeat (first | (with_reducible first | exact HB.out | apply below_alloc | apply pw_below_drewN | apply below_drew1 | refine below_set ?_ GE1001.out) | exact HB.out)⟩⟩
      · rw [if_neg c12] at H
        have c12b0 : decide (500 < (a0.size : Int)) = false := decide_eq_false c12
        have c12b1 : decide (500 < a0.size) = false := decide_eq_false (by omega)
        clear c12; (first | rw [c12b0] | (simp only [i64_w, i32_w]; rw [c12b0]) | skip); by_cases c13 : (l1_2.length : Int) > 20
        · rw [if_pos c13] at H
          have c13b0 : decide (20 < (l1_2.length : Int)) = true := decide_eq_true c13
          have c13b1 : decide (20 < l1_2.length) = true := decide_eq_true (by omega)
          clear c13; have H' := Aside0.mk H
          clear H; have hcz14_0 : w10.cell? ⟨gb1001, 0, none⟩ = some (.int .i64 a1_0) := (blk_cell BK1001.out 0).trans rfl
          have hcz14_1 : w10.cell? ⟨gb1001, 1, none⟩ = some (.int .i64 a1_1) := (blk_cell BK1001.out 1).trans rfl
          have hcz14_2 : w10.cell? ⟨gb1001, 2, none⟩ = some (.slice A1_2 l1_2.length c1_2) := (blk_cell BK1001.out 2).trans rfl
          have hfz14_0 := blk_frozen BK1001.out 0; have hfz14_1 := blk_frozen BK1001.out 1; have hfz14_2 := blk_frozen BK1001.out 2; go_wp2; go_meet
          case rel => exact ⟨_, (true), (by first | rfl | (simp; done) | (simp [*]; done)), H', ⟨by first | omega | exact Nat.le_refl _⟩, ⟨by (with_reducible repeat (first | refine blk_drewN ?_ _ | refine blk_drew ?_ | refine blk_alloc ?_ _)); exact BK1001.out⟩, ⟨by repeat (first | (with_reducible first | exact HB.out | apply below_alloc | apply pw_below_drewN | apply below_drew1 | refine below_set ?_ GE1001.out) | exact HB.out)⟩⟩
        · rw [if_neg c13] at H
          have c13b0 : decide (20 < (l1_2.length : Int)) = false := decide_eq_false c13
          have c13b1 : decide (20 < l1_2.length) = false := decide_eq_false (by omega)
          clear c13; by_cases c15 : (a4.size : Int) > 500
          · rw [if_pos c15] at H
            have c15b0 : decide (500 < (a4.size : Int)) = true := decide_eq_true c15
            have c15b1 : decide (500 < a4.size) = true := decide_eq_true (by omega)
            clear c15; have H' := Aside0.mk H
            clear H; have hcz16_0 : w10.cell? ⟨gb1001, 0, none⟩ = some (.int .i64 a1_0) := (blk_cell BK1001.out 0).trans rfl
            have hcz16_1 : w10.cell? ⟨gb1001, 1, none⟩ = some (.int .i64 a1_1) := (blk_cell BK1001.out 1).trans rfl
            have hcz16_2 : w10.cell? ⟨gb1001, 2, none⟩ = some (.slice A1_2 l1_2.length c1_2) := (blk_cell BK1001.out 2).trans rfl
            have hfz16_0 := blk_frozen BK1001.out 0; have hfz16_1 := blk_frozen BK1001.out 1; have hfz16_2 := blk_frozen BK1001.out 2; go_wp2; go_meet
            case rel => exact ⟨_, (true), (by first | rfl | (simp; done) | (simp [*]; done)), H', ⟨by first | omega | exact Nat.le_refl _⟩, ⟨by (with_reducible repeat (first | refine blk_drewN ?_ _ | refine blk_drew ?_ | refine blk_alloc ?_ _)); exact BK1001.out⟩, ⟨by repeat (first | (with_reducible first | exact HB.out | apply below_alloc | apply pw_below_drewN | apply below_drew1 | refine below_set ?_ GE1001.out) | exact HB.out)⟩⟩
          · rw [if_neg c15] at H
            have c15b0 : decide (500 < (a4.size : Int)) = false := decide_eq_false c15
            have c15b1 : decide (500 < a4.size) = false := decide_eq_false (by omega)
            clear c15; have H' := Aside0.mk H
            clear H; have hcz17_0 : w10.cell? ⟨gb1001, 0, none⟩ = some (.int .i64 a1_0) := (blk_cell BK1001.out 0).trans rfl
            have hcz17_1 : w10.cell? ⟨gb1001, 1, none⟩ = some (.int .i64 a1_1) := (blk_cell BK1001.out 1).trans rfl
            have hcz17_2 : w10.cell? ⟨gb1001, 2, none⟩ = some (.slice A1_2 l1_2.length c1_2) := (blk_cell BK1001.out 2).trans rfl
            have hfz17_0 := blk_frozen BK1001.out 0; have hfz17_1 := blk_frozen BK1001.out 1; have hfz17_2 := blk_frozen BK1001.out 2; go_wp2; go_meet
            case rel => exact ⟨_, (decide ((a5.size : Int) > 2000)), (by first | rfl | (simp; done) | (simp [*]; done)), H', ⟨by first | omega | exact Nat.le_refl _⟩, ⟨by (with_reducible repeat (first | refine blk_drewN ?_ _ | refine blk_drew ?_ | refine blk_alloc ?_ _)); exact BK1001.out⟩, ⟨by repeat (first | (with_reducible first | exact HB.out | apply below_alloc | apply pw_below_drewN | apply below_drew1 | refine below_set ?_ GE1001.out) | exact HB.out)⟩⟩
    · replace c11 := Bool.eq_false_iff.mpr c11
      subst c11; have H1 : (gemotlaw17_SealCloses.j0 k a0 a2 a3 a4 a5 false true a1_0 a1_1 l1_2) = some r := by rw [if_neg (show ¬ (false = true) by decide)] at H; exact H
      clear H; have H := H1; clear H1; have H' := Aside0.mk H
      clear H; go_wp2; go_meet
      case rel => exact ⟨_, (true), (by first | rfl | (simp; done) | (simp [*]; done)), H', ⟨by first | omega | exact Nat.le_refl _⟩, ⟨by (with_reducible repeat (first | refine blk_drewN ?_ _ | refine blk_drew ?_ | refine blk_alloc ?_ _)); exact BK1001.out⟩, ⟨by repeat (first | (with_reducible first | exact HB.out | apply below_alloc | apply pw_below_drewN | apply below_drew1 | refine below_set ?_ GE1001.out) | exact HB.out)⟩⟩
  case rest =>
    clear HC8; try clear c1
    try clear p2
    try clear c5
    try clear c8
    try clear c11
    try clear c12
    try clear c12b0
    try clear c12b1
    try clear c13
    try clear c13b0
    try clear c13b1
    try clear c15
    try clear c15b0
    try clear c15b1
    try clear hcz14_0
    try clear hcz14_1
    try clear hcz14_2
    try clear hcz16_0
    try clear hcz16_1
    try clear hcz16_2
    try clear hcz17_0
    try clear hcz17_1
    try clear hcz17_2
    try clear hfz14_0
    try clear hfz14_1
    try clear hfz14_2
    try clear hfz16_0
    try clear hfz16_1
    try clear hfz16_2
    try clear hfz17_0
    try clear hfz17_1
    try clear hfz17_2
    obtain ⟨kq, x49_7, rfl, HA, HJ7, BK1001, HB⟩ := hcut; cases kq with
    | zero => exact absurd HA.out (by simp [gemotlaw17_SealCloses.j0])
    | succ kj7 =>
      have H := HA.out; clear HA; simp only [gemotlaw17_SealCloses.j0] at H; by_cases c18 : x49_7 = true
      · subst c18; have H1 : (some t1002) = some r := by rw [if_pos rfl] at H; exact H
        clear H; have H := H1; clear H1; obtain rfl := Option.some.inj H
        go_wp2; go_ret
        exact ⟨by first | rfl | (simp [errW_none, errW_some] <;> rfl) | (simp [*, errW_none, errW_some] <;> rfl), by repeat (first | (with_reducible first | exact HB.out | apply below_alloc | apply pw_below_drewN | apply below_drew1 | refine below_set ?_ GE1001.out) | exact HB.out)⟩
      · replace c18 := Bool.eq_false_iff.mpr c18
        subst c18; have H1 : ((seal_Nonce.f a1_0 a1_1 l1_2 a2 a3).bind fun bt1003 => ((gemotref17_Nonce.f a1_0 a1_1 l1_2 a2 a3).bind fun bt1005 => ((seal_Close.f a0 a1_0 a1_1 l1_2 a2 a3 a4).bind fun bt1007 => ((gemotref17_Close.f a0 a1_0 a1_1 l1_2 a2 a3 a4).bind fun bt1009 => ((seal_Open.f a0 a1_0 a1_1 l1_2 a2 a3 a5).bind fun bt1011 => ((gemotref17_Open.f a0 a1_0 a1_1 l1_2 a2 a3 a5).bind fun bt1013 => (if bt1003.1.toList = bt1005.1.toList then (if bt1003.2 = bt1005.2 then (if bt1007.1.toList = bt1009.1.toList then (if bt1007.2 = bt1009.2 then (if bt1011.1.toList = bt1013.1.toList then (some (bt1011.2 == bt1013.2)) else (none)) else (none)) else (none)) else (none)) else (none)))))))) = some r := by rw [if_neg (show ¬ (false = true) by decide)] at H; exact H
        clear H; have H := H1; clear H1; replace H := Option.bind_eq_some_iff.mp H
        obtain ⟨⟨t1003, t1004⟩, A190, H⟩ := H
        replace H : ((gemotref17_Nonce.f a1_0 a1_1 l1_2 a2 a3).bind fun bt1005 => ((seal_Close.f a0 a1_0 a1_1 l1_2 a2 a3 a4).bind fun bt1007 => ((gemotref17_Close.f a0 a1_0 a1_1 l1_2 a2 a3 a4).bind fun bt1009 => ((seal_Open.f a0 a1_0 a1_1 l1_2 a2 a3 a5).bind fun bt1011 => ((gemotref17_Open.f a0 a1_0 a1_1 l1_2 a2 a3 a5).bind fun bt1013 => (if t1003.toList = bt1005.1.toList then (if t1004 = bt1005.2 then (if bt1007.1.toList = bt1009.1.toList then (if bt1007.2 = bt1009.2 then (if bt1011.1.toList = bt1013.1.toList then (some (bt1011.2 == bt1013.2)) else (none)) else (none)) else (none)) else (none)) else (none))))))) = some r := H
        have A19 := Aside0.mk A190
        clear A190; replace H := Option.bind_eq_some_iff.mp H
        obtain ⟨⟨t1005, t1006⟩, A200, H⟩ := H
        replace H : ((seal_Close.f a0 a1_0 a1_1 l1_2 a2 a3 a4).bind fun bt1007 => ((gemotref17_Close.f a0 a1_0 a1_1 l1_2 a2 a3 a4).bind fun bt1009 => ((seal_Open.f a0 a1_0 a1_1 l1_2 a2 a3 a5).bind fun bt1011 => ((gemotref17_Open.f a0 a1_0 a1_1 l1_2 a2 a3 a5).bind fun bt1013 => (if t1003.toList = t1005.toList then (if t1004 = t1006 then (if bt1007.1.toList = bt1009.1.toList then (if bt1007.2 = bt1009.2 then (if bt1011.1.toList = bt1013.1.toList then (some (bt1011.2 == bt1013.2)) else (none)) else (none)) else (none)) else (none)) else (none)))))) = some r := H
        have A20 := Aside0.mk A200
        clear A200; replace H := Option.bind_eq_some_iff.mp H
        obtain ⟨⟨t1007, t1008⟩, A210, H⟩ := H
        replace H : ((gemotref17_Close.f a0 a1_0 a1_1 l1_2 a2 a3 a4).bind fun bt1009 => ((seal_Open.f a0 a1_0 a1_1 l1_2 a2 a3 a5).bind fun bt1011 => ((gemotref17_Open.f a0 a1_0 a1_1 l1_2 a2 a3 a5).bind fun bt1013 => (if t1003.toList = t1005.toList then (if t1004 = t1006 then (if t1007.toList = bt1009.1.toList then (if t1008 = bt1009.2 then (if bt1011.1.toList = bt1013.1.toList then (some (bt1011.2 == bt1013.2)) else (none)) else (none)) else (none)) else (none)) else (none))))) = some r := H
        have A21 := Aside0.mk A210
        clear A210; replace H := Option.bind_eq_some_iff.mp H
        obtain ⟨⟨t1009, t1010⟩, A220, H⟩ := H
        replace H : ((seal_Open.f a0 a1_0 a1_1 l1_2 a2 a3 a5).bind fun bt1011 => ((gemotref17_Open.f a0 a1_0 a1_1 l1_2 a2 a3 a5).bind fun bt1013 => (if t1003.toList = t1005.toList then (if t1004 = t1006 then (if t1007.toList = t1009.toList then (if t1008 = t1010 then (if bt1011.1.toList = bt1013.1.toList then (some (bt1011.2 == bt1013.2)) else (none)) else (none)) else (none)) else (none)) else (none)))) = some r := H
        have A22 := Aside0.mk A220
        clear A220; replace H := Option.bind_eq_some_iff.mp H
        obtain ⟨⟨t1011, t1012⟩, A230, H⟩ := H
        replace H : ((gemotref17_Open.f a0 a1_0 a1_1 l1_2 a2 a3 a5).bind fun bt1013 => (if t1003.toList = t1005.toList then (if t1004 = t1006 then (if t1007.toList = t1009.toList then (if t1008 = t1010 then (if t1011.toList = bt1013.1.toList then (some (t1012 == bt1013.2)) else (none)) else (none)) else (none)) else (none)) else (none))) = some r := H
        have A23 := Aside0.mk A230
        clear A230; replace H := Option.bind_eq_some_iff.mp H
        obtain ⟨⟨t1013, t1014⟩, A240, H⟩ := H
        replace H : (if t1003.toList = t1005.toList then (if t1004 = t1006 then (if t1007.toList = t1009.toList then (if t1008 = t1010 then (if t1011.toList = t1013.toList then (some (t1012 == t1014)) else (none)) else (none)) else (none)) else (none)) else (none)) = some r := H
        have A24 := Aside0.mk A240
        clear A240; by_cases c25 : t1003.toList = t1005.toList
        · rw [if_pos c25] at H
          have c25b0 : (t1003.toList == t1005.toList) = true := beq_iff_eq.mpr c25
          have c25b1 : (t1003.toList != t1005.toList) = false := bne_eq_false_iff_eq.mpr c25
          clear c25; by_cases c26 : t1004 = t1006
          · rw [if_pos c26] at H
            have c26b0 : (t1004 == t1006) = true := beq_iff_eq.mpr c26
            have c26b1 : (t1004 != t1006) = false := bne_eq_false_iff_eq.mpr c26
            clear c26; by_cases c27 : t1007.toList = t1009.toList
            · rw [if_pos c27] at H
              have c27b0 : (t1007.toList == t1009.toList) = true := beq_iff_eq.mpr c27
              have c27b1 : (t1007.toList != t1009.toList) = false := bne_eq_false_iff_eq.mpr c27
              clear c27; by_cases c28 : t1008 = t1010
              · rw [if_pos c28] at H
                have c28b0 : (t1008 == t1010) = true := beq_iff_eq.mpr c28
                have c28b1 : (t1008 != t1010) = false := bne_eq_false_iff_eq.mpr c28
                clear c28; by_cases c29 : t1011.toList = t1013.toList
                · rw [if_pos c29] at H
                  have c29b0 : (t1011.toList == t1013.toList) = true := beq_iff_eq.mpr c29
                  have c29b1 : (t1011.toList != t1013.toList) = false := bne_eq_false_iff_eq.mpr c29
                  clear c29; obtain rfl := Option.some.inj H
                  have hcz30_0 : wc.cell? ⟨gb1001, 0, none⟩ = some (.int .i64 a1_0) := (blk_cell BK1001.out 0).trans rfl
                  have hcz30_1 : wc.cell? ⟨gb1001, 1, none⟩ = some (.int .i64 a1_1) := (blk_cell BK1001.out 1).trans rfl
                  have hcz30_2 : wc.cell? ⟨gb1001, 2, none⟩ = some (.slice A1_2 l1_2.length c1_2) := (blk_cell BK1001.out 2).trans rfl
                  have hfz30_0 := blk_frozen BK1001.out 0; have hfz30_1 := blk_frozen BK1001.out 1; have hfz30_2 := blk_frozen BK1001.out 2; go_wp2_with (first | ((with_reducible refine gate_callee (f := 57) rfl ?_); refine goesL_ (some 55) rfl rfl Try.func57 (by kernel_rfl) rfl #[.agg #[.int .i64 a1_0, .int .i64 a1_1, .slice A1_2 l1_2.length c1_2], .int .i64 a2, .int .i64 a3] rfl (by (try simp only [List.map_toArray, List.map_cons, List.map_nil]); first | done | rfl | (simp only [List.length_drop, List.length_take]; rfl)) ?_; (with_reducible refine (seal_Nonce.calls a1_0 a1_1 _ _ l1_2 a2 a3 t1003 t1004 _ ?side1 ?side2 A19.out).mono ?_); (case side1 => repeat (first | exact (Kd.C_below HR1_2.out HB.out) | (with_reducible refine Kd.C_alloc ?_ _) | (with_reducible refine Kd.C_drewN ?_ _) | (with_reducible refine Kd.C_drew ?_))); (case side2 => exact HC1_2.out); rintro e w31 ⟨rfl, hb⟩; refine ⟨_, rfl, ?_⟩; have n0_ := Aside0.mk (blk_below (g := gb1001) (o := .cells #[.int .i64 a1_0, .int .i64 a1_1, .slice A1_2 l1_2.length c1_2] 65 (0, 0)) (by (with_reducible repeat (first | refine blk_drewN ?_ _ | refine blk_drew ?_ | refine blk_alloc ?_ _)); exact BK1001.out) hb); have n1_ := Aside0.mk (below_step (by repeat (with_reducible first | exact HB.out | apply below_alloc | apply pw_below_drewN | apply below_drew1 | refine below_set ?_ GE1001.out)) hb); clear BK1001; clear HB; have BK1001 := n0_; have HB := n1_; clear n0_ n1_; (try clear hb); have hcz32_0 : w31.cell? ⟨gb1001, 0, none⟩ = some (.int .i64 a1_0) := (blk_cell BK1001.out 0).trans rfl; have hcz32_1 : w31.cell? ⟨gb1001, 1, none⟩ = some (.int .i64 a1_1) := (blk_cell BK1001.out 1).trans rfl; have hcz32_2 : w31.cell? ⟨gb1001, 2, none⟩ = some (.slice A1_2 l1_2.length c1_2) := (blk_cell BK1001.out 2).trans rfl; have hfz32_0 := blk_frozen BK1001.out 0; have hfz32_1 := blk_frozen BK1001.out 1; have hfz32_2 := blk_frozen BK1001.out 2) | ((with_reducible refine gate_callee (f := 58) rfl ?_); refine goesL_ (some 62) rfl rfl Try.func58 (by kernel_rfl) rfl #[.agg #[.int .i64 a1_0, .int .i64 a1_1, .slice A1_2 l1_2.length c1_2], .int .i64 a2, .int .i64 a3] rfl (by (try simp only [List.map_toArray, List.map_cons, List.map_nil]); first | done | rfl | (simp only [List.length_drop, List.length_take]; rfl)) ?_; (with_reducible refine (gemotref17_Nonce.calls a1_0 a1_1 _ _ l1_2 a2 a3 t1005 t1006 _ ?side1 ?side2 A20.out).mono ?_); (case side1 => repeat (first | exact (Kd.C_below HR1_2.out HB.out) | (with_reducible refine Kd.C_alloc ?_ _) | (with_reducible refine Kd.C_drewN ?_ _) | (with_reducible refine Kd.C_drew ?_))); (case side2 => exact HC1_2.out); rintro e w33 ⟨rfl, hb⟩; refine ⟨_, rfl, ?_⟩; have n0_ := Aside0.mk (blk_below (g := gb1001) (o := .cells #[.int .i64 a1_0, .int .i64 a1_1, .slice A1_2 l1_2.length c1_2] 65 (0, 0)) (by (with_reducible repeat (first | refine blk_drewN ?_ _ | refine blk_drew ?_ | refine blk_alloc ?_ _)); exact BK1001.out) hb); have n1_ := Aside0.mk (below_step (by repeat (with_reducible first | exact HB.out | apply below_alloc | apply pw_below_drewN | apply below_drew1 | refine below_set ?_ GE1001.out)) hb); clear BK1001; clear HB; have BK1001 := n0_; have HB := n1_; clear n0_ n1_; (try clear hb); have hcz34_0 : w33.cell? ⟨gb1001, 0, none⟩ = some (.int .i64 a1_0) := (blk_cell BK1001.out 0).trans rfl; have hcz34_1 : w33.cell? ⟨gb1001, 1, none⟩ = some (.int .i64 a1_1) := (blk_cell BK1001.out 1).trans rfl; have hcz34_2 : w33.cell? ⟨gb1001, 2, none⟩ = some (.slice A1_2 l1_2.length c1_2) := (blk_cell BK1001.out 2).trans rfl; have hfz34_0 := blk_frozen BK1001.out 0; have hfz34_1 := blk_frozen BK1001.out 1; have hfz34_2 := blk_frozen BK1001.out 2) | ((with_reducible refine gate_callee (f := 59) rfl ?_); refine goesL_ (some 71) rfl rfl Try.func59 (by kernel_rfl) rfl #[.string a0, .agg #[.int .i64 a1_0, .int .i64 a1_1, .slice A1_2 l1_2.length c1_2], .int .i64 a2, .int .i64 a3, .string a4] rfl (by (try simp only [List.map_toArray, List.map_cons, List.map_nil]); first | done | rfl | (simp only [List.length_drop, List.length_take]; rfl)) ?_; (with_reducible refine (seal_Close.calls a0 a1_0 a1_1 _ _ l1_2 a2 a3 a4 t1007 t1008 _ ?side1 ?side2 A21.out).mono ?_); (case side1 => repeat (first | exact (Kd.C_below HR1_2.out HB.out) | (with_reducible refine Kd.C_alloc ?_ _) | (with_reducible refine Kd.C_drewN ?_ _) | (with_reducible refine Kd.C_drew ?_))); (case side2 => exact HC1_2.out); rintro e w35 ⟨rfl, hb⟩; refine ⟨_, rfl, ?_⟩; have n0_ := Aside0.mk (blk_below (g := gb1001) (o := .cells #[.int .i64 a1_0, .int .i64 a1_1, .slice A1_2 l1_2.length c1_2] 65 (0, 0)) (by (with_reducible repeat (first | refine blk_drewN ?_ _ | refine blk_drew ?_ | refine blk_alloc ?_ _)); exact BK1001.out) hb); have n1_ := Aside0.mk (below_step (by repeat (with_reducible first | exact HB.out | apply below_alloc | apply pw_below_drewN | apply below_drew1 | refine below_set ?_ GE1001.out)) hb); clear BK1001; clear HB; have BK1001 := n0_; have HB := n1_; clear n0_ n1_; (try clear hb); have hcz36_0 : w35.cell? ⟨gb1001, 0, none⟩ = some (.int .i64 a1_0) := (blk_cell BK1001.out 0).trans rfl; have hcz36_1 : w35.cell? ⟨gb1001, 1, none⟩ = some (.int .i64 a1_1) := (blk_cell BK1001.out 1).trans rfl; have hcz36_2 : w35.cell? ⟨gb1001, 2, none⟩ = some (.slice A1_2 l1_2.length c1_2) := (blk_cell BK1001.out 2).trans rfl; have hfz36_0 := blk_frozen BK1001.out 0; have hfz36_1 := blk_frozen BK1001.out 1; have hfz36_2 := blk_frozen BK1001.out 2) | ((with_reducible refine gate_callee (f := 60) rfl ?_); refine goesL_ (some 80) rfl rfl Try.func60 (by kernel_rfl) rfl #[.string a0, .agg #[.int .i64 a1_0, .int .i64 a1_1, .slice A1_2 l1_2.length c1_2], .int .i64 a2, .int .i64 a3, .string a4] rfl (by (try simp only [List.map_toArray, List.map_cons, List.map_nil]); first | done | rfl | (simp only [List.length_drop, List.length_take]; rfl)) ?_; (with_reducible refine (gemotref17_Close.calls a0 a1_0 a1_1 _ _ l1_2 a2 a3 a4 t1009 t1010 _ ?side1 ?side2 A22.out).mono ?_); (case side1 => repeat (first | exact (Kd.C_below HR1_2.out HB.out) | (with_reducible refine Kd.C_alloc ?_ _) | (with_reducible refine Kd.C_drewN ?_ _) | (with_reducible refine Kd.C_drew ?_))); (case side2 => exact HC1_2.out); rintro e w37 ⟨rfl, hb⟩; refine ⟨_, rfl, ?_⟩; have n0_ := Aside0.mk (blk_below (g := gb1001) (o := .cells #[.int .i64 a1_0, .int .i64 a1_1, .slice A1_2 l1_2.length c1_2] 65 (0, 0)) (by (with_reducible repeat (first | refine blk_drewN ?_ _ | refine blk_drew ?_ | refine blk_alloc ?_ _)); exact BK1001.out) hb); have n1_ := Aside0.mk (below_step (by repeat (with_reducible first | exact HB.out | apply below_alloc | apply pw_below_drewN | apply below_drew1 | refine below_set ?_ GE1001.out)) hb); clear BK1001; clear HB; have BK1001 := n0_; have HB := n1_; clear n0_ n1_; (try clear hb); have hcz38_0 : w37.cell? ⟨gb1001, 0, none⟩ = some (.int .i64 a1_0) := (blk_cell BK1001.out 0).trans rfl; have hcz38_1 : w37.cell? ⟨gb1001, 1, none⟩ = some (.int .i64 a1_1) := (blk_cell BK1001.out 1).trans rfl; have hcz38_2 : w37.cell? ⟨gb1001, 2, none⟩ = some (.slice A1_2 l1_2.length c1_2) := (blk_cell BK1001.out 2).trans rfl; have hfz38_0 := blk_frozen BK1001.out 0; have hfz38_1 := blk_frozen BK1001.out 1; have hfz38_2 := blk_frozen BK1001.out 2) | ((with_reducible refine gate_callee (f := 61) rfl ?_); refine goesL_ (some 89) rfl rfl Try.func61 (by kernel_rfl) rfl #[.string a0, .agg #[.int .i64 a1_0, .int .i64 a1_1, .slice A1_2 l1_2.length c1_2], .int .i64 a2, .int .i64 a3, .string a5] rfl (by (try simp only [List.map_toArray, List.map_cons, List.map_nil]); first | done | rfl | (simp only [List.length_drop, List.length_take]; rfl)) ?_; (with_reducible refine (seal_Open.calls a0 a1_0 a1_1 _ _ l1_2 a2 a3 a5 t1011 t1012 _ ?side1 ?side2 A23.out).mono ?_); (case side1 => repeat (first | exact (Kd.C_below HR1_2.out HB.out) | (with_reducible refine Kd.C_alloc ?_ _) | (with_reducible refine Kd.C_drewN ?_ _) | (with_reducible refine Kd.C_drew ?_))); (case side2 => exact HC1_2.out); rintro e w39 ⟨rfl, hb⟩; refine ⟨_, rfl, ?_⟩; have n0_ := Aside0.mk (blk_below (g := gb1001) (o := .cells #[.int .i64 a1_0, .int .i64 a1_1, .slice A1_2 l1_2.length c1_2] 65 (0, 0)) (by (with_reducible repeat (first | refine blk_drewN ?_ _ | refine blk_drew ?_ | refine blk_alloc ?_ _)); exact BK1001.out) hb); have n1_ := Aside0.mk (below_step (by repeat (with_reducible first | exact HB.out | apply below_alloc | apply pw_below_drewN | apply below_drew1 | refine below_set ?_ GE1001.out)) hb); clear BK1001; clear HB; have BK1001 := n0_; have HB := n1_; clear n0_ n1_; (try clear hb); have hcz40_0 : w39.cell? ⟨gb1001, 0, none⟩ = some (.int .i64 a1_0) := (blk_cell BK1001.out 0).trans rfl; have hcz40_1 : w39.cell? ⟨gb1001, 1, none⟩ = some (.int .i64 a1_1) := (blk_cell BK1001.out 1).trans rfl; have hcz40_2 : w39.cell? ⟨gb1001, 2, none⟩ = some (.slice A1_2 l1_2.length c1_2) := (blk_cell BK1001.out 2).trans rfl; have hfz40_0 := blk_frozen BK1001.out 0; have hfz40_1 := blk_frozen BK1001.out 1; have hfz40_2 := blk_frozen BK1001.out 2) | ((with_reducible refine gate_callee (f := 62) rfl ?_); refine goesL_ (some 98) rfl rfl Try.func62 (by kernel_rfl) rfl #[.string a0, .agg #[.int .i64 a1_0, .int .i64 a1_1, .slice A1_2 l1_2.length c1_2], .int .i64 a2, .int .i64 a3, .string a5] rfl (by (try simp only [List.map_toArray, List.map_cons, List.map_nil]); first | done | rfl | (simp only [List.length_drop, List.length_take]; rfl)) ?_; (with_reducible refine (gemotref17_Open.calls a0 a1_0 a1_1 _ _ l1_2 a2 a3 a5 t1013 t1014 _ ?side1 ?side2 A24.out).mono ?_); (case side1 => repeat (first | exact (Kd.C_below HR1_2.out HB.out) | (with_reducible refine Kd.C_alloc ?_ _) | (with_reducible refine Kd.C_drewN ?_ _) | (with_reducible refine Kd.C_drew ?_))); (case side2 => exact HC1_2.out); rintro e w41 ⟨rfl, hb⟩; refine ⟨_, rfl, ?_⟩; have n0_ := Aside0.mk (blk_below (g := gb1001) (o := .cells #[.int .i64 a1_0, .int .i64 a1_1, .slice A1_2 l1_2.length c1_2] 65 (0, 0)) (by (with_reducible repeat (first | refine blk_drewN ?_ _ | refine blk_drew ?_ | refine blk_alloc ?_ _)); exact BK1001.out) hb); have n1_ := Aside0.mk (below_step (by repeat (with_reducible first | exact HB.out | apply below_alloc | apply pw_below_drewN | apply below_drew1 | refine below_set ?_ GE1001.out)) hb); clear BK1001; clear HB; have BK1001 := n0_; have HB := n1_; clear n0_ n1_; (try clear hb)))
                  go_ret
                  exact ⟨by first | rfl | (simp [errW_none, errW_some] <;> rfl) | (simp [*, errW_none, errW_some] <;> rfl), by repeat (first | (with_reducible first | exact HB.out | apply below_alloc | apply pw_below_drewN | apply below_drew1 | refine below_set ?_ GE1001.out) | exact HB.out)⟩
                · rw [if_neg c29] at H
                  exact absurd H (by simp)
              · rw [if_neg c28] at H
                exact absurd H (by simp)
            · rw [if_neg c27] at H
              exact absurd H (by simp)
          · rw [if_neg c26] at H
            exact absurd H (by simp)
        · rw [if_neg c25] at H
          exact absurd H (by simp)
end Go.Proofs.Ytpfpmjdifnoeoaa.F
