-- Laid by mk.py (a program of this session) over the seat's translation.
import Derived.Test.YtppimpadfgldjaaF0
import Derived.Test.YtppimpadfgldjaaF24
import Derived.Test.YtppimpadfgldjaaF95
namespace Go.Proofs.Ytppimpadfgldjaa.F
open Go.RowKit Go.Proofs.YtppimpadfgldjaaW.PrintWords Go.Proofs.YtppimpadfgldjaaW.PrintLast Go.Proofs.YtppimpadfgldjaaW.PrintMore
attribute [local go_sem] max2_int min2_int max_two min_two max_three min_three max_four min_four
set_option linter.unusedVariables false
set_option linter.unusedSimpArgs false

/-! ### watch_New: function 21 -/
/-! #### watch_New_p: function 21 -/
def watch_New_p.j0 : Nat → Int → Int → Bool → Option (Int × Int × List Int × Int)
  | 0, _, _, _ => none
  | k + 1, x0, x1, x20 => if x20 = true then (some (0, 0, ([] : List Int), 1)) else ((slices_Repeat_int_int.f (([wrap64 (x1 + 1)] : List Int)) 8).bind fun t1005 => ((watch_Hear_p.f x0 x1 t1005 x0).bind fun bt1009 => (some (bt1009.1, bt1009.2.1, bt1009.2.2, 0))))
def watch_New_p.f (k : Nat) (a0 : Int) (a1 : Int) : Option (Int × Int × List Int × Int) := if a0 < 1 then (watch_New_p.j0 k a0 a1 true) else (if a0 > 8 then (watch_New_p.j0 k a0 a1 true) else (if a1 < 1 then (watch_New_p.j0 k a0 a1 true) else (watch_New_p.j0 k a0 a1 (decide (a1 > 100)))))
theorem watch_New_p.mono_l : ∀ k, (∀ y0 y1 y2, LeO (watch_New_p.j0 k y0 y1 y2) (watch_New_p.j0 (k + 1) y0 y1 y2))
  | 0 => fun _ _ _ r h => by simp [watch_New_p.j0] at h
  | k + 1 => by
    have ih0 := watch_New_p.mono_l k
    · intro y0 y1 y2; unfold watch_New_p.j0
      repeat' first
      | (with_reducible exact ih0 _ _ _)
      | (with_reducible exact LeO.refl _)
      | (with_reducible exact LeO.none _)
      | (with_reducible refine LeO.ite ?_ ?_)
      | (with_reducible refine LeO.bind ?_ (fun _ => ?_))
      | exact ih0 _ _ _
      | exact LeO.none _
      | refine LeO.ite ?_ ?_
      | refine LeO.bind ?_ (fun _ => ?_)
theorem watch_New_p.mono : ∀ a0 a1 k, LeO (watch_New_p.f k a0 a1) (watch_New_p.f (k + 1) a0 a1) := by
  intro a0 a1 k; have ih0 := watch_New_p.mono_l k
  unfold watch_New_p.f
  repeat' first
      | (with_reducible exact ih0 _ _ _)
      | (with_reducible exact LeO.refl _)
      | (with_reducible exact LeO.none _)
      | (with_reducible refine LeO.ite ?_ ?_)
      | (with_reducible refine LeO.bind ?_ (fun _ => ?_))
      | exact ih0 _ _ _
      | exact LeO.none _
      | refine LeO.ite ?_ ?_
      | refine LeO.bind ?_ (fun _ => ?_)
set_option maxHeartbeats 8000000 in
set_option maxRecDepth 100000 in
theorem watch_New_p.calls (k : Nat) (a0 : Int) (a1 : Int) (r1 : Int) (r2 : Int) (r3 : List Int) (r4 : Int) (w : World) (h : watch_New_p.f k a0 a1 = some (r1, r2, r3, r4)) :
    Calls Try.prog 21 #[.int .i64 a0, .int .i64 a1] w fun e w' => ∃ v2_ : Value, e = .returned (.tuple #[.agg #[.int .i64 r1, .int .i64 r2, v2_], .int .i64 r4]) ∧ Kd.R (Kd.int .i64) 3 w' w.heap.size (fun _ => True) v2_ r3 ∧ Below w.heap.size w w' := by
  have hu25 := Try.underlying25; have HB := Aside0.mk (Below.refl w.heap.size w)
  have H : (if a0 < 1 then (watch_New_p.j0 k a0 a1 true) else (if a0 > 8 then (watch_New_p.j0 k a0 a1 true) else (if a1 < 1 then (watch_New_p.j0 k a0 a1 true) else (watch_New_p.j0 k a0 a1 (decide (a1 > 100)))))) = some (r1, r2, r3, r4) := h
  clear h; have HC3 := Aside0.mk H
  clear H; go_enter Try.func21, Try.ntmps21
  go_upto_region 1 with (first | ((with_reducible refine gate_dst (N := 4) rfl ?_); refine box_event ?hg (N := 4) ?hd (cs := #[.int .i64 0, .int .i64 0, .slice none 0 0]) (t := 25) ?hr ?_; (case hd => rfl); (case hg => rfl); (case hr => first | (go_simp; done) | (go_simp; rfl)); intro gb1001 hg w4 hbox hb; have n0_ := Aside0.mk (below_step (by repeat with_reducible first | exact HB.out | apply below_alloc | apply pw_below_drewN | apply below_drew1) hb); have n1_ := Aside0.mk (hbox); have n2_ := Aside0.mk ((by rw [hg]; exact (below_size (by repeat with_reducible first | exact HB.out | apply below_alloc | apply pw_below_drewN | apply below_drew1)) : w.heap.size ≤ gb1001)); have n3_ := Aside0.mk ((by rw [hg]; exact (below_size (by repeat with_reducible first | exact HB.out | apply below_alloc | apply pw_below_drewN | apply below_drew1)) : w.heap.size ≤ gb1001)); clear HB; have HB := n0_; have BK1001 := n1_; have GW1001 := n2_; have GE1001 := n3_; clear n0_ n1_ n2_ n3_; clear hb hbox hg))
  (try simp only [Act.put, List.setIfInBounds_toArray, List.set_cons_zero, List.set_cons_succ]); go_cut [20] (fun v20 wc => ∃ (kq : Nat) (x20_2 : Bool), v20 = .bool x20_2 ∧ Aside0 (watch_New_p.j0 kq a0 a1 x20_2 = some (r1, r2, r3, r4)) ∧ Aside0 (kq ≤ k) ∧ Aside0 (wc.heap[gb1001]? = some (.cells #[.int .i64 0, .int .i64 0, (.slice none 0 0)] 25 (0, 0))) ∧ Aside0 (Below w.heap.size w wc))
  case first =>
    have H := HC3.out; clear HC3; by_cases c5 : a0 < 1
    · rw [if_pos c5] at H
      have c5b0 : decide (a0 < 1) = true := decide_eq_true c5
      clear c5; (first | rw [c5b0] | (simp only [i64_w, i32_w]; rw [c5b0]) | skip); have H' := Aside0.mk H
      clear H; go_wp2; go_meet
      case rel => exact ⟨_, (true), (by first | rfl | (simp; done) | (simp [*]; done)), H', ⟨by first | omega | exact Nat.le_refl _⟩, ⟨by (with_reducible repeat (first | refine blk_drewN ?_ _ | refine blk_drew ?_ | refine blk_alloc ?_ _)); exact BK1001.out⟩, ⟨by repeat (first | (with_reducible first | exact HB.out | apply below_alloc | apply pw_below_drewN | apply below_drew1 | refine below_set ?_ GE1001.out) | exact HB.out)⟩⟩
    · rw [if_neg c5] at H
      have c5b0 : decide (a0 < 1) = false := decide_eq_false c5
      clear c5; (first | rw [c5b0] | (simp only [i64_w, i32_w]; rw [c5b0]) | skip); by_cases c6 : a0 > 8
      · rw [if_pos c6] at H
        have c6b0 : decide (8 < a0) = true := decide_eq_true c6
        clear c6; have H' := Aside0.mk H
        clear H; go_wp2; go_meet
        case rel => exact ⟨_, (true), (by first | rfl | (simp; done) | (simp [*]; done)), H', ⟨by first | omega | exact Nat.le_refl _⟩, ⟨by (with_reducible repeat (first | refine blk_drewN ?_ _ | refine blk_drew ?_ | refine blk_alloc ?_ _)); exact BK1001.out⟩, ⟨by repeat (first | (with_reducible first | exact HB.out | apply below_alloc | apply pw_below_drewN | apply below_drew1 | refine below_set ?_ GE1001.out) | exact HB.out)⟩⟩
      · rw [if_neg c6] at H
        have c6b0 : decide (8 < a0) = false := decide_eq_false c6
        clear c6; by_cases c7 : a1 < 1
        · rw [if_pos c7] at H
          have c7b0 : decide (a1 < 1) = true := decide_eq_true c7
          clear c7; have H' := Aside0.mk H
          clear H; go_wp2; go_meet
          case rel => exact ⟨_, (true), (by first | rfl | (simp; done) | (simp [*]; done)), H', ⟨by first | omega | exact Nat.le_refl _⟩, ⟨by (with_reducible repeat (first | refine blk_drewN ?_ _ | refine blk_drew ?_ | refine blk_alloc ?_ _)); exact BK1001.out⟩, ⟨by repeat (first | (with_reducible first | exact HB.out | apply below_alloc | apply pw_below_drewN | apply below_drew1 | refine below_set ?_ GE1001.out) | exact HB.out)⟩⟩
        · rw [if_neg c7] at H
          have c7b0 : decide (a1 < 1) = false := decide_eq_false c7
          clear c7; have H' := Aside0.mk H
          clear H; go_wp2; go_meet
          case rel => exact ⟨_, (decide (a1 > 100)), (by first | rfl | (simp; done) | (simp [*]; done)), H', ⟨by first | omega | exact Nat.le_refl _⟩, ⟨by (with_reducible repeat (first | refine blk_drewN ?_ _ | refine blk_drew ?_ | refine blk_alloc ?_ _)); exact BK1001.out⟩, ⟨by repeat (first | (with_reducible first | exact HB.out | apply below_alloc | apply pw_below_drewN | apply below_drew1 | refine below_set ?_ GE1001.out) | exact HB.out)⟩⟩
  case rest =>
    clear HC3; try clear c2
    try clear p2
    try clear c5
    try clear c5b0
    try clear c6
    try clear c6b0
    try clear c7
    try clear c7b0
    obtain ⟨kq, x20_2, rfl, HA, HJ2, BK1001, HB⟩ := hcut; cases kq with
    | zero => exact absurd HA.out (by simp [watch_New_p.j0])
    | succ kj2 =>
      have H := HA.out; clear HA; simp only [watch_New_p.j0] at H; by_cases c8 : x20_2 = true
      · subst c8; have H1 : (some (0, 0, ([] : List Int), 1)) = some (r1, r2, r3, r4) := by rw [if_pos rfl] at H; exact H
        clear H; have H := H1; clear H1; simp only [Option.some.injEq, Prod.mk.injEq] at H; obtain ⟨rfl, rfl, rfl, rfl⟩ := H; have hcz9_0 : wc.cell? ⟨gb1001, 0, none⟩ = some (.int .i64 0) := (blk_cell BK1001.out 0).trans rfl
        have hcz9_1 : wc.cell? ⟨gb1001, 1, none⟩ = some (.int .i64 0) := (blk_cell BK1001.out 1).trans rfl
        have hcz9_2 : wc.cell? ⟨gb1001, 2, none⟩ = some (.slice none 0 0) := (blk_cell BK1001.out 2).trans rfl
        have hfz9_0 := blk_frozen BK1001.out 0; have hfz9_1 := blk_frozen BK1001.out 1; have hfz9_2 := blk_frozen BK1001.out 2; go_wp2; refine bodyPost_ret (results_ct rfl _ _ gb1001 25 #[.int .i64 0, .int .i64 0, .slice none 0 0] (0, 0) _ rfl (by (with_reducible repeat (first | refine blk_drewN ?_ _ | refine blk_drew ?_ | refine blk_alloc ?_ _)); refine blk_put (cs := #[.int .i64 0, .int .i64 0, .slice none 0 0]) ?_ 2 _ rfl; (with_reducible repeat (first | refine blk_drewN ?_ _ | refine blk_drew ?_ | refine blk_alloc ?_ _)); refine blk_put (cs := #[.int .i64 0, .int .i64 0, .slice none 0 0]) ?_ 1 _ rfl; (with_reducible repeat (first | refine blk_drewN ?_ _ | refine blk_drew ?_ | refine blk_alloc ?_ _)); refine blk_put (cs := #[.int .i64 0, .int .i64 0, .slice none 0 0]) ?_ 0 _ rfl; (with_reducible repeat (first | refine blk_drewN ?_ _ | refine blk_drew ?_ | refine blk_alloc ?_ _)); exact BK1001.out) Try.underlying25 rfl (by kernel_rfl)) rfl ?_
        exact ⟨_, by first | rfl | (simp [errW_none, errW_some] <;> rfl) | (simp [*, errW_none, errW_some] <;> rfl), by first | exact Kd.R_nil _ _ _ _ _ | exact Kd.N_nil _ _ _ _ _ | exact Kd.V_nil _ _ _ _ _ | exact Kd.Q_nil _ _ _ _ _ | exact Kd.S_nil _ _ _ _ _, by repeat (first | (with_reducible first | exact HB.out | apply below_alloc | apply pw_below_drewN | apply below_drew1 | refine below_set ?_ GE1001.out) | exact HB.out)⟩
      · replace c8 := Bool.eq_false_iff.mpr c8
        subst c8; have H1 : ((slices_Repeat_int_int.f (([wrap64 (a1 + 1)] : List Int)) 8).bind fun t1005 => ((watch_Hear_p.f a0 a1 t1005 a0).bind fun bt1009 => (some (bt1009.1, bt1009.2.1, bt1009.2.2, 0)))) = some (r1, r2, r3, r4) := by rw [if_neg (show ¬ (false = true) by decide)] at H; exact H
        clear H; have H := H1; clear H1; obtain ⟨y1002, hy1002⟩ : ∃ y_ : List Int, y_ = (([wrap64 (a1 + 1)] : List Int)) := ⟨_, rfl⟩
        replace H : ((slices_Repeat_int_int.f y1002 8).bind fun t1005 => ((watch_Hear_p.f a0 a1 t1005 a0).bind fun bt1009 => (some (bt1009.1, bt1009.2.1, bt1009.2.2, 0)))) = some (r1, r2, r3, r4) := by first | (rw [hy1002]; with_reducible exact H) | (have H2_ := (Option.bind_some _ _).symm.trans H; rw [hy1002]; with_reducible exact H2_) | (have H2_ := (Option.bind_some _ _).symm.trans H; with_reducible exact H2_) | with_reducible exact H | (rw [hy1002]; exact H) | exact H
        have Ny1002 := Aside0.mk hy1002
        clear hy1002; replace H := Option.bind_eq_some_iff.mp H
        obtain ⟨t1005, A100, H⟩ := H; replace H : ((watch_Hear_p.f a0 a1 t1005 a0).bind fun bt1009 => (some (bt1009.1, bt1009.2.1, bt1009.2.2, 0))) = some (r1, r2, r3, r4) := H
        have A10 := Aside0.mk A100
        clear A100; replace H := Option.bind_eq_some_iff.mp H
        obtain ⟨⟨t1009, t1010, t1011⟩, A110, H⟩ := H
        replace H : (some (t1009, t1010, t1011, 0)) = some (r1, r2, r3, r4) := H
        have A11 := Aside0.mk A110
        clear A110; simp only [Option.some.injEq, Prod.mk.injEq] at H; obtain ⟨rfl, rfl, rfl, rfl⟩ := H; go_wp2_with (first | ((with_reducible refine gate_dst (N := 26) rfl ?_); refine Kd.R_lit (Kd.int .i64) _ 3 ?hg (N := 26) ?hd (xs := ([wrap64 (a1 + 1)] : List Int)) (inner := [.int .i64 (wrap64 (a1 + 1))]) (ok := fun _ => True) (okp := fun _ => True) ?hr ?hp (fun _ hk => hk) trivial (Below.refl _ _) (Nat.le_refl _) (by simp) ?_; (case hd => rfl); (case hg => rfl); (case hr => first | (go_simp; done) | (go_simp; rfl)); (case hp => exact (Reps.one (show Kd.M (Kd.int .i64) _ _ _ (wrap64 (a1 + 1)) [.int .i64 (wrap64 (a1 + 1))] from rfl) (Reps.none _ _))); intro v1003 w12 ho13 hb hg_ hnew_; clear hg_ hnew_; (first | rw [← Ny1002.out] at ho13 | (simp only [Int.reduceToNat] at ho13; rw [← Ny1002.out] at ho13)); have n0_ := Aside0.mk (Kd.R_lower ho13 (below_size (by repeat (with_reducible first | exact HB.out | apply below_alloc | apply pw_below_drewN | apply below_drew1 | refine below_set ?_ GE1001.out)))); have n1_ := Aside0.mk (blk_below (g := gb1001) (o := .cells #[.int .i64 0, .int .i64 0, .slice none 0 0] 25 (0, 0)) (by (with_reducible repeat (first | refine blk_drewN ?_ _ | refine blk_drew ?_ | refine blk_alloc ?_ _)); exact BK1001.out) hb); have n2_ := Aside0.mk (below_step (by repeat (with_reducible first | exact HB.out | apply below_alloc | apply pw_below_drewN | apply below_drew1 | refine below_set ?_ GE1001.out)) hb); clear BK1001; clear HB; have HO1004 := n0_; have BK1001 := n1_; have HB := n2_; clear n0_ n1_ n2_; clear hb ho13; obtain ⟨Ao14, co14, eo14⟩ := Kd.R_slice HO1004.out; subst eo14) | ((with_reducible refine gate_callee (f := 95) rfl ?_); refine goesL_ (some 27) rfl rfl Try.func95 (by kernel_rfl) rfl #[.slice Ao14 y1002.length co14, .int .i64 8] rfl (by simp only [List.map_toArray, List.map_cons, List.map_nil] <;> rfl) ?_; (with_reducible refine (slices_Repeat_int_int.calls _ _ y1002 8 t1005 _ ?side1 ?side2 A10.out).mono ?_); (case side1 => repeat (first | exact (Kd.R_reads' HO1004.out).2.2 | (with_reducible refine Kd.C_alloc ?_ _) | (with_reducible refine Kd.C_drewN ?_ _) | (with_reducible refine Kd.C_drew ?_))); (case side2 => exact (Kd.R_reads' HO1004.out).2.1); rintro e w15 ⟨v1006, rfl, ho0, hb⟩; refine ⟨_, rfl, ?_⟩; have n0_ := Aside0.mk (Kd.R_elder' (by (with_reducible repeat (first | apply Kd.R_alloc | apply Kd.R_drewN | apply Kd.R_drew)); exact HO1004.out) (Kd.R_base ho0) hb); have n1_ := Aside0.mk (Kd.R_lower (Kd.R_new' ho0 (Kd.R_lt (by (with_reducible repeat (first | apply Kd.R_alloc | apply Kd.R_drewN | apply Kd.R_drew)); exact HO1004.out))) (below_size (by repeat (with_reducible first | exact HB.out | apply below_alloc | apply pw_below_drewN | apply below_drew1 | refine below_set ?_ GE1001.out)))); have n2_ := Aside0.mk (blk_below (g := gb1001) (o := .cells #[.int .i64 0, .int .i64 0, .slice none 0 0] 25 (0, 0)) (by (with_reducible repeat (first | refine blk_drewN ?_ _ | refine blk_drew ?_ | refine blk_alloc ?_ _)); exact BK1001.out) hb); have n3_ := Aside0.mk (below_step (by repeat (with_reducible first | exact HB.out | apply below_alloc | apply pw_below_drewN | apply below_drew1 | refine below_set ?_ GE1001.out)) hb); clear HO1004; clear BK1001; clear HB; have HO1004 := n0_; have HO1007 := n1_; have BK1001 := n2_; have HB := n3_; clear n0_ n1_ n2_ n3_; (try clear hb); (try clear ho0); obtain ⟨Ao16, co16, eo16⟩ := Kd.R_slice HO1007.out; subst eo16) | ((with_reducible refine gate_dst (N := 6) rfl ?_); refine box_event ?hg (N := 6) ?hd (cs := #[.int .i64 0, .int .i64 0, .slice none 0 0]) (t := 25) ?hr ?_; (case hd => rfl); (case hg => rfl); (case hr => first | (go_simp; done) | (go_simp; rfl)); intro gb1008 hg w17 hbox hb; have n0_ := Aside0.mk (Kd.R_below (by (with_reducible repeat (first | apply Kd.R_alloc | apply Kd.R_drewN | apply Kd.R_drew)); exact HO1004.out) hb); have n1_ := Aside0.mk (Kd.R_below (by (with_reducible repeat (first | apply Kd.R_alloc | apply Kd.R_drewN | apply Kd.R_drew)); exact HO1007.out) hb); have n2_ := Aside0.mk (blk_below (g := gb1001) (o := .cells #[.int .i64 0, .int .i64 0, .slice none 0 0] 25 (0, 0)) (by (with_reducible repeat (first | refine blk_drewN ?_ _ | refine blk_drew ?_ | refine blk_alloc ?_ _)); exact BK1001.out) hb); have n3_ := Aside0.mk (below_step (by repeat (with_reducible first | exact HB.out | apply below_alloc | apply pw_below_drewN | apply below_drew1 | refine below_set ?_ GE1001.out)) hb); have n4_ := Aside0.mk (hbox); have n5_ := Aside0.mk ((by rw [hg]; exact (below_size (by repeat (with_reducible first | exact HB.out | apply below_alloc | apply pw_below_drewN | apply below_drew1 | refine below_set ?_ GE1001.out))) : w.heap.size ≤ gb1008)); have n6_ := Aside0.mk ((by rw [hg]; exact (below_size (by repeat (with_reducible first | exact HB.out | apply below_alloc | apply pw_below_drewN | apply below_drew1 | refine below_set ?_ GE1001.out))) : w.heap.size ≤ gb1008)); have n7_ := Aside0.mk ((by rw [hg]; exact Nat.ne_of_lt (blk_lt (g := gb1001) (o := .cells #[.int .i64 0, .int .i64 0, .slice none 0 0] 25 (0, 0)) (by (with_reducible repeat (first | refine blk_drewN ?_ _ | refine blk_drew ?_ | refine blk_alloc ?_ _)); exact BK1001.out)) : gb1001 ≠ gb1008)); have n8_ := Aside0.mk ((by rw [hg]; exact Nat.ne_of_gt (blk_lt (g := gb1001) (o := .cells #[.int .i64 0, .int .i64 0, .slice none 0 0] 25 (0, 0)) (by (with_reducible repeat (first | refine blk_drewN ?_ _ | refine blk_drew ?_ | refine blk_alloc ?_ _)); exact BK1001.out)) : gb1008 ≠ gb1001)); clear HO1004; clear HO1007; clear BK1001; clear HB; have HO1004 := n0_; have HO1007 := n1_; have BK1001 := n2_; have HB := n3_; have BK1008 := n4_; have GW1008 := n5_; have GE1008 := n6_; have NB1001_1008 := n7_; have NB1008_1001 := n8_; clear n0_ n1_ n2_ n3_ n4_ n5_ n6_ n7_ n8_; clear hb hbox hg; have hnb18 := NB1008_1001.out; have hnc18 := NB1001_1008.out; have hcz19_0 : w17.cell? ⟨gb1008, 0, none⟩ = some (.int .i64 0) := (blk_cell BK1008.out 0).trans rfl; have hcz19_1 : w17.cell? ⟨gb1008, 1, none⟩ = some (.int .i64 0) := (blk_cell BK1008.out 1).trans rfl; have hcz19_2 : w17.cell? ⟨gb1008, 2, none⟩ = some (.slice none 0 0) := (blk_cell BK1008.out 2).trans rfl; have hfz19_0 := blk_frozen BK1008.out 0; have hfz19_1 := blk_frozen BK1008.out 1; have hfz19_2 := blk_frozen BK1008.out 2) | ((with_reducible refine gate_callee (f := 24) rfl ?_); refine goesL_ (some 31) rfl rfl Try.func24 (by kernel_rfl) rfl #[.agg #[.int .i64 a0, .int .i64 a1, .slice Ao16 t1005.length co16], .int .i64 a0] rfl (by (try simp only [List.map_toArray, List.map_cons, List.map_nil]); first | done | rfl | (simp only [List.length_drop, List.length_take]; rfl)) ?_; (with_reducible refine (watch_Hear_p.calls a0 a1 _ _ t1005 a0 t1009 t1010 t1011 _ ?side1 ?side2 A11.out).mono ?_); (case side1 => refine (Kd.R_reads' (e := 3) (base := w.heap.size) (ok := fun k_ => (True ∧ some k_ ≠ (.slice Ao14 y1002.length co14 : Value).ownBlock)) (n := t1005.length) (c := co16) ?_).2.2; exact (by (with_reducible repeat (first | apply Kd.R_alloc | apply Kd.R_drewN | apply Kd.R_drew)); exact (Kd.R_mono (Kd.R_far (p := ⟨gb1008, 2, none⟩) (Kd.R_far (p := ⟨gb1008, 1, none⟩) (Kd.R_far (p := ⟨gb1008, 0, none⟩) (Kd.R_types HO1007.out BK1008.out (by decide)) (fun _ hk => hk.2) (.int .i64 a0)) (fun _ hk => hk.2) (.int .i64 a1)) (fun _ hk => hk.2) (.slice Ao16 t1005.length co16)) (fun _ h_ => h_.1)))); (case side2 => exact (Kd.R_reads' HO1007.out).2.1); rintro e w20 ⟨v1012, rfl, ho0, hb⟩; refine ⟨_, rfl, ?_⟩; have n0_ := Aside0.mk (Kd.R_elder' (by (with_reducible repeat (first | apply Kd.R_alloc | apply Kd.R_drewN | apply Kd.R_drew)); exact (Kd.R_mono (Kd.R_far (p := ⟨gb1008, 2, none⟩) (Kd.R_far (p := ⟨gb1008, 1, none⟩) (Kd.R_far (p := ⟨gb1008, 0, none⟩) (Kd.R_types HO1004.out BK1008.out (by decide)) (fun _ hk => hk.2) (.int .i64 a0)) (fun _ hk => hk.2) (.int .i64 a1)) (fun _ hk => hk.2) (.slice Ao16 t1005.length co16)) (fun _ h_ => h_.1))) (Kd.R_base ho0) hb); have n1_ := Aside0.mk (Kd.R_elder' (by (with_reducible repeat (first | apply Kd.R_alloc | apply Kd.R_drewN | apply Kd.R_drew)); exact (Kd.R_mono (Kd.R_far (p := ⟨gb1008, 2, none⟩) (Kd.R_far (p := ⟨gb1008, 1, none⟩) (Kd.R_far (p := ⟨gb1008, 0, none⟩) (Kd.R_types HO1007.out BK1008.out (by decide)) (fun _ hk => hk.2) (.int .i64 a0)) (fun _ hk => hk.2) (.int .i64 a1)) (fun _ hk => hk.2) (.slice Ao16 t1005.length co16)) (fun _ h_ => h_.1))) (Kd.R_base ho0) hb); have n2_ := Aside0.mk (Kd.R_lower (Kd.R_new' (Kd.R_new' ho0 (Kd.R_lt (by (with_reducible repeat (first | apply Kd.R_alloc | apply Kd.R_drewN | apply Kd.R_drew)); exact (Kd.R_mono (Kd.R_far (p := ⟨gb1008, 2, none⟩) (Kd.R_far (p := ⟨gb1008, 1, none⟩) (Kd.R_far (p := ⟨gb1008, 0, none⟩) (Kd.R_types HO1004.out BK1008.out (by decide)) (fun _ hk => hk.2) (.int .i64 a0)) (fun _ hk => hk.2) (.int .i64 a1)) (fun _ hk => hk.2) (.slice Ao16 t1005.length co16)) (fun _ h_ => h_.1))))) (Kd.R_lt (by (with_reducible repeat (first | apply Kd.R_alloc | apply Kd.R_drewN | apply Kd.R_drew)); exact (Kd.R_mono (Kd.R_far (p := ⟨gb1008, 2, none⟩) (Kd.R_far (p := ⟨gb1008, 1, none⟩) (Kd.R_far (p := ⟨gb1008, 0, none⟩) (Kd.R_types HO1007.out BK1008.out (by decide)) (fun _ hk => hk.2) (.int .i64 a0)) (fun _ hk => hk.2) (.int .i64 a1)) (fun _ hk => hk.2) (.slice Ao16 t1005.length co16)) (fun _ h_ => h_.1))))) (below_size (by repeat (with_reducible first | exact HB.out | apply below_alloc | apply pw_below_drewN | apply below_drew1 | refine below_set ?_ GE1001.out | refine below_set ?_ GE1008.out)))); have n3_ := Aside0.mk (blk_below (g := gb1001) (o := .cells #[.int .i64 0, .int .i64 0, .slice none 0 0] 25 (0, 0)) (by (with_reducible repeat (first | refine blk_drewN ?_ _ | refine blk_drew ?_ | refine blk_alloc ?_ _)); refine blk_far ?_ NB1001_1008.out _; (with_reducible repeat (first | refine blk_drewN ?_ _ | refine blk_drew ?_ | refine blk_alloc ?_ _)); refine blk_far ?_ NB1001_1008.out _; (with_reducible repeat (first | refine blk_drewN ?_ _ | refine blk_drew ?_ | refine blk_alloc ?_ _)); refine blk_far ?_ NB1001_1008.out _; (with_reducible repeat (first | refine blk_drewN ?_ _ | refine blk_drew ?_ | refine blk_alloc ?_ _)); exact BK1001.out) hb); have n4_ := Aside0.mk (blk_below (g := gb1008) (o := .cells #[.int .i64 a0, .int .i64 a1, .slice Ao16 t1005.length co16] 25 (0, 0)) (by (with_reducible repeat (first | refine blk_drewN ?_ _ | refine blk_drew ?_ | refine blk_alloc ?_ _)); refine blk_put (cs := #[.int .i64 a0, .int .i64 a1, .slice none 0 0]) ?_ 2 _ rfl; (with_reducible repeat (first | refine blk_drewN ?_ _ | refine blk_drew ?_ | refine blk_alloc ?_ _)); refine blk_put (cs := #[.int .i64 a0, .int .i64 0, .slice none 0 0]) ?_ 1 _ rfl; (with_reducible repeat (first | refine blk_drewN ?_ _ | refine blk_drew ?_ | refine blk_alloc ?_ _)); refine blk_put (cs := #[.int .i64 0, .int .i64 0, .slice none 0 0]) ?_ 0 _ rfl; (with_reducible repeat (first | refine blk_drewN ?_ _ | refine blk_drew ?_ | refine blk_alloc ?_ _)); exact BK1008.out) hb); have n5_ := Aside0.mk (below_step (by repeat (with_reducible first | exact HB.out | apply below_alloc | apply pw_below_drewN | apply below_drew1 | refine below_set ?_ GE1001.out | refine below_set ?_ GE1008.out)) hb); clear HO1004; clear HO1007; clear BK1001; clear BK1008; clear HB; have HO1004 := n0_; have HO1007 := n1_; have HO1013 := n2_; have BK1001 := n3_; have BK1008 := n4_; have HB := n5_; clear n0_ n1_ n2_ n3_ n4_ n5_; (try clear hb); (try clear ho0); have hcz21_0 : w20.cell? ⟨gb1001, 0, none⟩ = some (.int .i64 0) := (blk_cell BK1001.out 0).trans rfl; have hcz21_1 : w20.cell? ⟨gb1001, 1, none⟩ = some (.int .i64 0) := (blk_cell BK1001.out 1).trans rfl; have hcz21_2 : w20.cell? ⟨gb1001, 2, none⟩ = some (.slice none 0 0) := (blk_cell BK1001.out 2).trans rfl; have hfz21_0 := blk_frozen BK1001.out 0; have hfz21_1 := blk_frozen BK1001.out 1; have hfz21_2 := blk_frozen BK1001.out 2; obtain ⟨Ao22, co22, eo22⟩ := Kd.R_slice HO1013.out; subst eo22))
        refine bodyPost_ret (results_ct rfl _ _ gb1001 25 #[.int .i64 t1009, .int .i64 t1010, .slice Ao22 t1011.length co22] (0, 0) _ rfl (by (with_reducible repeat (first | refine blk_drewN ?_ _ | refine blk_drew ?_ | refine blk_alloc ?_ _)); refine blk_put (cs := #[.int .i64 t1009, .int .i64 t1010, .slice none 0 0]) ?_ 2 _ rfl; (with_reducible repeat (first | refine blk_drewN ?_ _ | refine blk_drew ?_ | refine blk_alloc ?_ _)); refine blk_put (cs := #[.int .i64 t1009, .int .i64 0, .slice none 0 0]) ?_ 1 _ rfl; (with_reducible repeat (first | refine blk_drewN ?_ _ | refine blk_drew ?_ | refine blk_alloc ?_ _)); refine blk_put (cs := #[.int .i64 0, .int .i64 0, .slice none 0 0]) ?_ 0 _ rfl; (with_reducible repeat (first | refine blk_drewN ?_ _ | refine blk_drew ?_ | refine blk_alloc ?_ _)); exact BK1001.out) Try.underlying25 rfl (by kernel_rfl)) rfl ?_
        exact ⟨_, by first | rfl | (simp [errW_none, errW_some] <;> rfl) | (simp [*, errW_none, errW_some] <;> rfl), by (with_reducible repeat (first | apply Kd.R_alloc | apply Kd.R_drewN | apply Kd.R_drew)); exact Kd.R_mono (Kd.R_far (p := ⟨gb1001, 2, none⟩) (Kd.R_far (p := ⟨gb1001, 1, none⟩) (Kd.R_far (p := ⟨gb1001, 0, none⟩) (Kd.R_types HO1013.out BK1001.out (by decide)) (fun _ hk => hk.2) (.int .i64 t1009)) (fun _ hk => hk.2) (.int .i64 t1010)) (fun _ hk => hk.2) (.slice Ao22 t1011.length co22)) (fun _ hk => trivial), by repeat (first | (with_reducible first | exact HB.out | apply below_alloc | apply pw_below_drewN | apply below_drew1 | refine below_set ?_ GE1001.out | refine below_set ?_ GE1008.out) | exact HB.out)⟩

def newOk (me lim : Int) : Prop := 1 ≤ me ∧ me ≤ 8 ∧ 1 ≤ lim ∧ lim ≤ 100
instance (me lim : Int) : Decidable (newOk me lim) := inferInstanceAs (Decidable (1 ≤ me ∧ me ≤ 8 ∧ 1 ≤ lim ∧ lim ≤ 100))
def watch_New.f (me lim : Int) : Option (Int × Int × List Int × Int) := some (if newOk me lim then (me, lim, hearQ (List.replicate 8 (lim + 1)) me, 0) else (0, 0, [], 1))
theorem watch_New.eq (me lim : Int) : watch_New_p.f 2 me lim = watch_New.f me lim := by
  have hj : watch_New_p.j0 2 me lim true = some (0, 0, [], 1) := by simp only [watch_New_p.j0]; rw [if_pos trivial]
  unfold watch_New_p.f watch_New.f
  by_cases h1 : me < 1
  · rw [if_pos h1, if_neg (fun h => by have := h.1; omega)]; exact hj
  rw [if_neg h1]
  by_cases h2 : me > 8
  · rw [if_pos h2, if_neg (fun h => by have := h.2.1; omega)]; exact hj
  rw [if_neg h2]
  by_cases h3 : lim < 1
  · rw [if_pos h3, if_neg (fun h => by have := h.2.2.1; omega)]; exact hj
  rw [if_neg h3]
  by_cases h4 : lim > 100
  · rw [decide_eq_true h4, if_neg (fun h => by have := h.2.2.2; omega)]; exact hj
  rw [decide_eq_false h4, if_pos ⟨by omega, by omega, by omega, by omega⟩]
  have hw : wrap64 (lim + 1) = lim + 1 := by unfold wrap64; omega
  have hh := watch_Hear.eq me lim (List.replicate 8 (lim + 1)) me (by simp)
  simp only [watch_New_p.j0, slices_Repeat_int_int.f]; rw [if_neg (by simp), hw, if_pos (by simp)]
  simp only [Option.bind_some]; rw [show rd [lim + 1] 0 = lim + 1 from rfl, hh, watch_Hear.f, if_pos (by simp)]
  rfl
theorem watch_New.calls (a0 : Int) (a1 : Int) (r1 : Int) (r2 : Int) (r3 : List Int) (r4 : Int) (w : World) (h : watch_New.f a0 a1 = some (r1, r2, r3, r4)) :
    Calls Try.prog 21 #[.int .i64 a0, .int .i64 a1] w fun e w' => ∃ v2_ : Value, e = .returned (.tuple #[.agg #[.int .i64 r1, .int .i64 r2, v2_], .int .i64 r4]) ∧ Kd.V (Kd.int .i64) 3 w' w.heap.size (fun k_ => w.heap.size ≤ k_) v2_ r3 ∧ Below w.heap.size w w' :=
  (watch_New_p.calls 2 a0 a1 r1 r2 r3 r4 w ((watch_New.eq a0 a1).trans h)).mono fun e w' ⟨v, he, hr, hb⟩ => ⟨v, he, Kd.R_V (Kd.R_mono (Kd.R_bound hr) (fun _ hk => hk.2.1)), hb⟩

end Go.Proofs.Ytppimpadfgldjaa.F
