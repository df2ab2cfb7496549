-- Laid by mk.py (a program of this session) over the seat's translation.
import Derived.Test.YtppimpadfgldjaaF0
namespace Go.Proofs.Ytppimpadfgldjaa.F
open Go.RowKit Go.Proofs.YtppimpadfgldjaaW.PrintWords Go.Proofs.YtppimpadfgldjaaW.PrintLast Go.Proofs.YtppimpadfgldjaaW.PrintMore
attribute [local go_sem] max2_int min2_int max_two min_two max_three min_three max_four min_four
set_option linter.unusedVariables false
set_option linter.unusedSimpArgs false

/-! ### watch_There: function 27 -/
/-! #### watch_There_p: function 27 -/
def watch_There_p.l0 : Nat → List Int → Int → Int → Int → Int → List Int → Option (List Int)
  | 0, _, _, _, _, _, _ => none
  | k + 1, x3, x7, x8, x1002000, x1002001, x1002002 => if x8 < x7 then (if 0 ≤ x8 then (if x8 < (x1002002.length : Int) then (if (rd x1002002 x8) ≤ x1002001 then (if x3.length < 17592186044416 then (watch_There_p.l0 k (x3 ++ [wrap64 (x8 + 1)]) x7 (wrap64 (x8 + 1)) x1002000 x1002001 x1002002) else (none)) else (watch_There_p.l0 k x3 x7 (wrap64 (x8 + 1)) x1002000 x1002001 x1002002)) else (none)) else (none)) else (some x3)
def watch_There_p.f (k : Nat) (a0_0 : Int) (a0_1 : Int) (l0_2 : List Int) : Option (List Int) := watch_There_p.l0 k ([] : List Int) (l0_2.length : Int) 0 a0_0 a0_1 l0_2
theorem watch_There_p.mono_l : ∀ k, (∀ y0 y1 y2 y3 y4 y5, LeO (watch_There_p.l0 k y0 y1 y2 y3 y4 y5) (watch_There_p.l0 (k + 1) y0 y1 y2 y3 y4 y5))
  | 0 => fun _ _ _ _ _ _ r h => by simp [watch_There_p.l0] at h
  | k + 1 => by
    have ih0 := watch_There_p.mono_l k
    · intro y0 y1 y2 y3 y4 y5; unfold watch_There_p.l0
      repeat' first
      | (with_reducible exact ih0 _ _ _ _ _ _)
      | (with_reducible exact LeO.refl _)
      | (with_reducible exact LeO.none _)
      | (with_reducible refine LeO.ite ?_ ?_)
      | (with_reducible refine LeO.bind ?_ (fun _ => ?_))
      | exact ih0 _ _ _ _ _ _
      | exact LeO.none _
      | refine LeO.ite ?_ ?_
      | refine LeO.bind ?_ (fun _ => ?_)
theorem watch_There_p.mono : ∀ a0 a1 a2 k, LeO (watch_There_p.f k a0 a1 a2) (watch_There_p.f (k + 1) a0 a1 a2) := by
  intro a0 a1 a2 k; have ih0 := watch_There_p.mono_l k
  unfold watch_There_p.f
  repeat' first
      | (with_reducible exact ih0 _ _ _ _ _ _)
      | (with_reducible exact LeO.refl _)
      | (with_reducible exact LeO.none _)
      | (with_reducible refine LeO.ite ?_ ?_)
      | (with_reducible refine LeO.bind ?_ (fun _ => ?_))
      | exact ih0 _ _ _ _ _ _
      | exact LeO.none _
      | refine LeO.ite ?_ ?_
      | refine LeO.bind ?_ (fun _ => ?_)
set_option maxHeartbeats 8000000 in
set_option maxRecDepth 100000 in
theorem watch_There_p.calls (k : Nat) (a0_0 : Int) (a0_1 : Int) (A0_2 : Option Addr) (c0_2 : Nat) (l0_2 : List Int) (r : List Int) (w : World) (hr0_2 : Kd.C (Kd.int .i64) w A0_2 l0_2.length l0_2) (hc0_2 : l0_2.length ≤ c0_2) (h : watch_There_p.f k a0_0 a0_1 l0_2 = some r) :
    Calls Try.prog 27 #[.agg #[.int .i64 a0_0, .int .i64 a0_1, .slice A0_2 l0_2.length c0_2]] w fun e w' => ∃ v0_ : Value, e = .returned (v0_) ∧ Kd.R (Kd.int .i64) 3 w' w.heap.size (fun _ => True) v0_ r ∧ Below w.heap.size w w' := by
  have hu25 := Try.underlying25; have HR0_2 := Aside0.mk hr0_2
  have HC0_2 := Aside0.mk hc0_2
  clear hr0_2 hc0_2; have HB := Aside0.mk (Below.refl w.heap.size w)
  have H : (watch_There_p.l0 k ([] : List Int) (l0_2.length : Int) 0 a0_0 a0_1 l0_2) = some r := h
  clear h; have H' := Aside0.mk H
  clear H; go_enter Try.func27, Try.ntmps27
  go_wp2_with (first | ((with_reducible refine gate_dst (N := 1) rfl ?_); refine box_event ?hg (N := 1) ?hd (cs := #[.int .i64 a0_0, .int .i64 a0_1, .slice A0_2 l0_2.length c0_2]) (t := 25) ?hr ?_; (case hd => rfl); (case hg => rfl); (case hr => first | (go_simp; done) | (go_simp; rfl)); intro gb1001 hg w2 hbox hb; have n0_ := Aside0.mk (below_step (by repeat with_reducible first | exact HB.out | apply below_alloc | apply pw_below_drewN | apply below_drew1) hb); have n1_ := Aside0.mk (hbox); have n2_ := Aside0.mk ((by rw [hg]; exact (below_size (by repeat with_reducible first | exact HB.out | apply below_alloc | apply pw_below_drewN | apply below_drew1)) : w.heap.size ≤ gb1001)); have n3_ := Aside0.mk ((by rw [hg]; exact (below_size (by repeat with_reducible first | exact HB.out | apply below_alloc | apply pw_below_drewN | apply below_drew1)) : w.heap.size ≤ gb1001)); clear HB; have HB := n0_; have BK1001 := n1_; have GW1001 := n2_; have GE1001 := n3_; clear n0_ n1_ n2_ n3_; clear hb hbox hg; have hcz3_0 : w2.cell? ⟨gb1001, 0, none⟩ = some (.int .i64 a0_0) := (blk_cell BK1001.out 0).trans rfl; have hcz3_1 : w2.cell? ⟨gb1001, 1, none⟩ = some (.int .i64 a0_1) := (blk_cell BK1001.out 1).trans rfl; have hcz3_2 : w2.cell? ⟨gb1001, 2, none⟩ = some (.slice A0_2 l0_2.length c0_2) := (blk_cell BK1001.out 2).trans rfl; have hfz3_0 := blk_frozen BK1001.out 0; have hfz3_1 := blk_frozen BK1001.out 1; have hfz3_2 := blk_frozen BK1001.out 2))
  repeat (go_quiet (first | ((with_reducible refine gate_dst (N := 1) rfl ?_); refine box_event ?hg (N := 1) ?hd (cs := #[.int .i64 a0_0, .int .i64 a0_1, .slice A0_2 l0_2.length c0_2]) (t := 25) ?hr ?_; (case hd => rfl); (case hg => rfl); (case hr => first | (go_simp; done) | (go_simp; rfl)); intro gb1001 hg w2 hbox hb; have n0_ := Aside0.mk (below_step (by repeat with_reducible first | exact HB.out | apply below_alloc | apply pw_below_drewN | apply below_drew1) hb); have n1_ := Aside0.mk (hbox); have n2_ := Aside0.mk ((by rw [hg]; exact (below_size (by repeat with_reducible first | exact HB.out | apply below_alloc | apply pw_below_drewN | apply below_drew1)) : w.heap.size ≤ gb1001)); have n3_ := Aside0.mk ((by rw [hg]; exact (below_size (by repeat with_reducible first | exact HB.out | apply below_alloc | apply pw_below_drewN | apply below_drew1)) : w.heap.size ≤ gb1001)); clear HB; have HB := n0_; have BK1001 := n1_; have GW1001 := n2_; have GE1001 := n3_; clear n0_ n1_ n2_ n3_; clear hb hbox hg; have hcz3_0 : w2.cell? ⟨gb1001, 0, none⟩ = some (.int .i64 a0_0) := (blk_cell BK1001.out 0).trans rfl; have hcz3_1 : w2.cell? ⟨gb1001, 1, none⟩ = some (.int .i64 a0_1) := (blk_cell BK1001.out 1).trans rfl; have hcz3_2 : w2.cell? ⟨gb1001, 2, none⟩ = some (.slice A0_2 l0_2.length c0_2) := (blk_cell BK1001.out 2).trans rfl; have hfz3_0 := blk_frozen BK1001.out 0; have hfz3_1 := blk_frozen BK1001.out 1; have hfz3_2 := blk_frozen BK1001.out 2)); try go_wp2_with (first | ((with_reducible refine gate_dst (N := 1) rfl ?_); refine box_event ?hg (N := 1) ?hd (cs := #[.int .i64 a0_0, .int .i64 a0_1, .slice A0_2 l0_2.length c0_2]) (t := 25) ?hr ?_; (case hd => rfl); (case hg => rfl); (case hr => first | (go_simp; done) | (go_simp; rfl)); intro gb1001 hg w2 hbox hb; have n0_ := Aside0.mk (below_step (by repeat with_reducible first | exact HB.out | apply below_alloc | apply pw_below_drewN | apply below_drew1) hb); have n1_ := Aside0.mk (hbox); have n2_ := Aside0.mk ((by rw [hg]; exact (below_size (by repeat with_reducible first | exact HB.out | apply below_alloc | apply pw_below_drewN | apply below_drew1)) : w.heap.size ≤ gb1001)); have n3_ := Aside0.mk ((by rw [hg]; exact (below_size (by repeat with_reducible first | exact HB.out | apply below_alloc | apply pw_below_drewN | apply below_drew1)) : w.heap.size ≤ gb1001)); clear HB; have HB := n0_; have BK1001 := n1_; have GW1001 := n2_; have GE1001 := n3_; clear n0_ n1_ n2_ n3_; clear hb hbox hg; have hcz3_0 : w2.cell? ⟨gb1001, 0, none⟩ = some (.int .i64 a0_0) := (blk_cell BK1001.out 0).trans rfl; have hcz3_1 : w2.cell? ⟨gb1001, 1, none⟩ = some (.int .i64 a0_1) := (blk_cell BK1001.out 1).trans rfl; have hcz3_2 : w2.cell? ⟨gb1001, 2, none⟩ = some (.slice A0_2 l0_2.length c0_2) := (blk_cell BK1001.out 2).trans rfl; have hfz3_0 := blk_frozen BK1001.out 0; have hfz3_1 := blk_frozen BK1001.out 1; have hfz3_2 := blk_frozen BK1001.out 2)))
  go_loopg [3, 8] k (fun kq v3 v8 w' => ∃ (x3_1 : List Int) (x8_1 : Int), v8 = .int .i64 x8_1 ∧ Aside0 (watch_There_p.l0 kq x3_1 (l0_2.length : Int) x8_1 a0_0 a0_1 l0_2 = some r) ∧ Aside0 (kq ≤ k) ∧ Aside0 (Kd.R (Kd.int .i64) 3 w' w.heap.size (fun _ => True) v3 x3_1) ∧ Aside0 (w'.heap[gb1001]? = some (.cells #[.int .i64 a0_0, .int .i64 a0_1, (.slice A0_2 l0_2.length c0_2)] 25 (0, 0))) ∧ Aside0 (Below w.heap.size w w'))
  case atStart => exact ⟨(([] : List Int)), (0), (by first | rfl | (simp; done) | (simp [*]; done)), H', ⟨Nat.le_refl _⟩, ⟨by first | exact Kd.R_nil _ _ _ _ _ | exact Kd.N_nil _ _ _ _ _ | exact Kd.V_nil _ _ _ _ _ | exact Kd.Q_nil _ _ _ _ _ | exact Kd.S_nil _ _ _ _ _⟩, ⟨by (with_reducible repeat (first | refine blk_drewN ?_ _ | refine blk_drew ?_ | refine blk_alloc ?_ _)); exact BK1001.out⟩, ⟨by repeat (first | (with_reducible first | exact HB.out | apply below_alloc | apply pw_below_drewN | apply below_drew1 | refine below_set ?_ GE1001.out) | exact HB.out)⟩⟩
  case round =>
    clear H'; try clear c2
    try clear p2
    try clear hcz3_0
    try clear hcz3_1
    try clear hcz3_2
    try clear hfz3_0
    try clear hfz3_1
    try clear hfz3_2
    obtain ⟨x3_1, x8_1, rfl, HA, HK1, HO_3, BK1001, HB⟩ := hrel; cases gk with
    | zero => exact absurd HA.out (by simp [watch_There_p.l0])
    | succ k1 =>
      have H := HA.out; clear HA; simp only [watch_There_p.l0] at H; by_cases c4 : x8_1 < (l0_2.length : Int)
      · rw [if_pos c4] at H
        have c4b0 : decide (x8_1 < (l0_2.length : Int)) = true := decide_eq_true c4
        clear c4; by_cases c5 : 0 ≤ x8_1
        · rw [if_pos c5] at H
          have c5b0 : decide (0 ≤ x8_1) = true := decide_eq_true c5
          clear c5; by_cases c6 : x8_1 < (l0_2.length : Int)
          · rw [if_pos c6] at H
            have c6b0 : decide (x8_1 < (l0_2.length : Int)) = true := decide_eq_true c6
            clear c6; by_cases c7 : (rd l0_2 x8_1) ≤ a0_1
            · rw [if_pos c7] at H
              have c7b0 : decide ((rd l0_2 x8_1) ≤ a0_1) = true := decide_eq_true c7
              clear c7; by_cases c8 : x3_1.length < 17592186044416
              · rw [if_pos c8] at H
                have LMc8 := Aside0.mk c8
                clear c8; obtain ⟨y1003, hy1003⟩ : ∃ y_ : List Int, y_ = (x3_1 ++ [wrap64 (x8_1 + 1)]) := ⟨_, rfl⟩
                replace H : (watch_There_p.l0 k1 y1003 (l0_2.length : Int) (wrap64 (x8_1 + 1)) a0_0 a0_1 l0_2) = some r := by first | (rw [hy1003]; with_reducible exact H) | (have H2_ := (Option.bind_some _ _).symm.trans H; rw [hy1003]; with_reducible exact H2_) | (have H2_ := (Option.bind_some _ _).symm.trans H; with_reducible exact H2_) | with_reducible exact H | (rw [hy1003]; exact H) | exact H
                have Ny1003 := Aside0.mk hy1003
                clear hy1003; have H' := Aside0.mk H
                clear H; have hcz9_0 : wr.cell? ⟨gb1001, 0, none⟩ = some (.int .i64 a0_0) := (blk_cell BK1001.out 0).trans rfl
                have hcz9_1 : wr.cell? ⟨gb1001, 1, none⟩ = some (.int .i64 a0_1) := (blk_cell BK1001.out 1).trans rfl
                have hcz9_2 : wr.cell? ⟨gb1001, 2, none⟩ = some (.slice A0_2 l0_2.length c0_2) := (blk_cell BK1001.out 2).trans rfl
                have hfz9_0 := blk_frozen BK1001.out 0; have hfz9_1 := blk_frozen BK1001.out 1; have hfz9_2 := blk_frozen BK1001.out 2; have p1002 : 0 ≤ (x8_1 : Int) := of_decide_eq_true (by first | (with_reducible assumption) | assumption)
                have q1002 : x8_1 < (l0_2.length : Int) := of_decide_eq_true (by first | (with_reducible assumption) | assumption)
                obtain ⟨ad1002, e1002, hx1002_0⟩ := Kd.at_int HR0_2.out x8_1 p1002 q1002
                cases e1002
                replace hx1002_0 := (HB.out.cell (World.block_lt_of_cell? w _ hx1002_0)).trans hx1002_0
                replace p1002 := eq_true p1002
                replace q1002 := eq_true q1002
                go_wp2_with (first | ((with_reducible refine gate_builtin (b := .append) (xs := #[.tmp 19, .tmp 22]) rfl ?_); at_builtin; refine Kd.R_append (Kd.int .i64) (w0 := w) w.heap.size rfl (.tmp 19) (.tmp 22) 22 3 (.int .i64 0) 8 rfl Try.underlying22 info3 rfl (by decide) (by omega) u3 x3_1 (wrap64 (x8_1 + 1)) [.int .i64 (wrap64 (x8_1 + 1))] (fun _ => True) (fun _ => False) rfl rfl ?aP (fun _ hk => hk.elim) ?aF ?aO ?aB ?aS ?aL ?_; (case aP => exact rfl); (case aB => exact (by repeat (with_reducible first | exact HB.out | apply below_alloc | apply pw_below_drewN | apply below_drew1 | refine below_set ?_ GE1001.out))); (case aF => exact (fun _ _ => trivial)); (case aO => exact (by (with_reducible repeat (first | apply Kd.R_alloc | apply Kd.R_drewN | apply Kd.R_drew)); exact HO_3.out)); (case aS => exact (below_size (by repeat (with_reducible first | exact HB.out | apply below_alloc | apply pw_below_drewN | apply below_drew1 | refine below_set ?_ GE1001.out)))); (case aL => have := LMc8.out; omega); intro v1004 w10 ho hb hg hat; rw [← Ny1003.out] at ho; have n0_ := Aside0.mk (blk_grown (g := gb1001) (o := .cells #[.int .i64 a0_0, .int .i64 a0_1, .slice (some ad1002) l0_2.length c0_2] 25 (0, 0)) (by (with_reducible repeat (first | refine blk_drewN ?_ _ | refine blk_drew ?_ | refine blk_alloc ?_ _)); exact BK1001.out) hg (Kd.R_ne HO_3.out BK1001.out (by decide))); have n1_ := Aside0.mk (hb); have n2_ := Aside0.mk (ho); clear BK1001; clear HB; clear HO_3; have BK1001 := n0_; have HB := n1_; have HO1005 := n2_; clear n0_ n1_ n2_; clear ho hb hg hat))
                repeat (go_quiet (first | ((with_reducible refine gate_builtin (b := .append) (xs := #[.tmp 19, .tmp 22]) rfl ?_); at_builtin; refine Kd.R_append (Kd.int .i64) (w0 := w) w.heap.size rfl (.tmp 19) (.tmp 22) 22 3 (.int .i64 0) 8 rfl Try.underlying22 info3 rfl (by decide) (by omega) u3 x3_1 (wrap64 (x8_1 + 1)) [.int .i64 (wrap64 (x8_1 + 1))] (fun _ => True) (fun _ => False) rfl rfl ?aP (fun _ hk => hk.elim) ?aF ?aO ?aB ?aS ?aL ?_; (case aP => exact rfl); (case aB => exact (by repeat (with_reducible first | exact HB.out | apply below_alloc | apply pw_below_drewN | apply below_drew1 | refine below_set ?_ GE1001.out))); (case aF => exact (fun _ _ => trivial)); (case aO => exact (by (with_reducible repeat (first | apply Kd.R_alloc | apply Kd.R_drewN | apply Kd.R_drew)); exact HO_3.out)); (case aS => exact (below_size (by repeat (with_reducible first | exact HB.out | apply below_alloc | apply pw_below_drewN | apply below_drew1 | refine below_set ?_ GE1001.out)))); (case aL => have := LMc8.out; omega); intro v1004 w10 ho hb hg hat; rw [← Ny1003.out] at ho; have n0_ := Aside0.mk (blk_grown (g := gb1001) (o := .cells #[.int .i64 a0_0, .int .i64 a0_1, .slice (some ad1002) l0_2.length c0_2] 25 (0, 0)) (by (with_reducible repeat (first | refine blk_drewN ?_ _ | refine blk_drew ?_ | refine blk_alloc ?_ _)); exact BK1001.out) hg (Kd.R_ne HO_3.out BK1001.out (by decide))); have n1_ := Aside0.mk (hb); have n2_ := Aside0.mk (ho); clear BK1001; clear HB; clear HO_3; have BK1001 := n0_; have HB := n1_; have HO1005 := n2_; clear n0_ n1_ n2_; clear ho hb hg hat)); try go_wp2_with (first | ((with_reducible refine gate_builtin (b := .append) (xs := #[.tmp 19, .tmp 22]) rfl ?_); at_builtin; refine Kd.R_append (Kd.int .i64) (w0 := w) w.heap.size rfl (.tmp 19) (.tmp 22) 22 3 (.int .i64 0) 8 rfl Try.underlying22 info3 rfl (by decide) (by omega) u3 x3_1 (wrap64 (x8_1 + 1)) [.int .i64 (wrap64 (x8_1 + 1))] (fun _ => True) (fun _ => False) rfl rfl ?aP (fun _ hk => hk.elim) ?aF ?aO ?aB ?aS ?aL ?_; (case aP => exact rfl); (case aB => exact (by repeat (with_reducible first | exact HB.out | apply below_alloc | apply pw_below_drewN | apply below_drew1 | refine below_set ?_ GE1001.out))); (case aF => exact (fun _ _ => trivial)); (case aO => exact (by (with_reducible repeat (first | apply Kd.R_alloc | apply Kd.R_drewN | apply Kd.R_drew)); exact HO_3.out)); (case aS => exact (below_size (by repeat (with_reducible first | exact HB.out | apply below_alloc | apply pw_below_drewN | apply below_drew1 | refine below_set ?_ GE1001.out)))); (case aL => have := LMc8.out; omega); intro v1004 w10 ho hb hg hat; rw [← Ny1003.out] at ho; have n0_ := Aside0.mk (blk_grown (g := gb1001) (o := .cells #[.int .i64 a0_0, .int .i64 a0_1, .slice (some ad1002) l0_2.length c0_2] 25 (0, 0)) (by (with_reducible repeat (first | refine blk_drewN ?_ _ | refine blk_drew ?_ | refine blk_alloc ?_ _)); exact BK1001.out) hg (Kd.R_ne HO_3.out BK1001.out (by decide))); have n1_ := Aside0.mk (hb); have n2_ := Aside0.mk (ho); clear BK1001; clear HB; clear HO_3; have BK1001 := n0_; have HB := n1_; have HO1005 := n2_; clear n0_ n1_ n2_; clear ho hb hg hat)))
                go_roundg k1
                case measure => have := HK1.out; omega
                case rel => exact ⟨(y1003), (wrap64 (x8_1 + 1)), (by first | rfl | (simp; done) | (simp [*]; done)), H', ⟨by have := HK1.out; omega⟩, ⟨by (with_reducible repeat (first | apply Kd.R_alloc | apply Kd.R_drewN | apply Kd.R_drew)); exact HO1005.out⟩, ⟨by (with_reducible repeat (first | refine blk_drewN ?_ _ | refine blk_drew ?_ | refine blk_alloc ?_ _)); exact BK1001.out⟩, ⟨by repeat (first | (with_reducible first | exact HB.out | apply below_alloc | apply pw_below_drewN | apply below_drew1 | refine below_set ?_ GE1001.out) | exact HB.out)⟩⟩
              · rw [if_neg c8] at H
                exact absurd H (by simp)
            · rw [if_neg c7] at H
              have c7b0 : decide ((rd l0_2 x8_1) ≤ a0_1) = false := decide_eq_false c7
              clear c7; have H' := Aside0.mk H
              clear H; have hcz11_0 : wr.cell? ⟨gb1001, 0, none⟩ = some (.int .i64 a0_0) := (blk_cell BK1001.out 0).trans rfl
              have hcz11_1 : wr.cell? ⟨gb1001, 1, none⟩ = some (.int .i64 a0_1) := (blk_cell BK1001.out 1).trans rfl
              have hcz11_2 : wr.cell? ⟨gb1001, 2, none⟩ = some (.slice A0_2 l0_2.length c0_2) := (blk_cell BK1001.out 2).trans rfl
              have hfz11_0 := blk_frozen BK1001.out 0; have hfz11_1 := blk_frozen BK1001.out 1; have hfz11_2 := blk_frozen BK1001.out 2; have p1002 : 0 ≤ (x8_1 : Int) := of_decide_eq_true (by first | (with_reducible assumption) | assumption)
              have q1002 : x8_1 < (l0_2.length : Int) := of_decide_eq_true (by first | (with_reducible assumption) | assumption)
              obtain ⟨ad1002, e1002, hx1002_0⟩ := Kd.at_int HR0_2.out x8_1 p1002 q1002
              cases e1002
              replace hx1002_0 := (HB.out.cell (World.block_lt_of_cell? w _ hx1002_0)).trans hx1002_0
              replace p1002 := eq_true p1002
              replace q1002 := eq_true q1002
              go_wp2; repeat (go_quiet (fail); try go_wp2)
              go_roundg k1
              case measure => have := HK1.out; omega
              case rel => exact ⟨(x3_1), (wrap64 (x8_1 + 1)), (by first | rfl | (simp; done) | (simp [*]; done)), H', ⟨by have := HK1.out; omega⟩, ⟨by (with_reducible repeat (first | apply Kd.R_alloc | apply Kd.R_drewN | apply Kd.R_drew)); exact HO_3.out⟩, ⟨by (with_reducible repeat (first | refine blk_drewN ?_ _ | refine blk_drew ?_ | refine blk_alloc ?_ _)); exact BK1001.out⟩, ⟨by repeat (first | (with_reducible first | exact HB.out | apply below_alloc | apply pw_below_drewN | apply below_drew1 | refine below_set ?_ GE1001.out) | exact HB.out)⟩⟩
          · rw [if_neg c6] at H
            exact absurd H (by simp)
        · rw [if_neg c5] at H
          exact absurd H (by simp)
      · rw [if_neg c4] at H
        have c4b0 : decide (x8_1 < (l0_2.length : Int)) = false := decide_eq_false c4
        clear c4; obtain rfl := Option.some.inj H
        go_wp2; repeat (go_quiet (fail); try go_wp2)
        go_ret
        exact ⟨_, by first | rfl | (simp [errW_none, errW_some] <;> rfl) | (simp [*, errW_none, errW_some] <;> rfl), by (with_reducible repeat (first | apply Kd.R_alloc | apply Kd.R_drewN | apply Kd.R_drew)); exact HO_3.out, by repeat (first | (with_reducible first | exact HB.out | apply below_alloc | apply pw_below_drewN | apply below_drew1 | refine below_set ?_ GE1001.out) | exact HB.out)⟩

def thereL (lim : Int) (q : List Int) : List Int := (q.zipIdx.filter (fun y => decide (y.1 ≤ lim))).map (fun y => (y.2 : Int) + 1)
def watch_There.f (_me lim : Int) (q : List Int) : Option (List Int) := if q.length < 8796093022208 then some (thereL lim q) else none
theorem thereL_snoc (lim : Int) (q : List Int) (x : Int) : thereL lim (q ++ [x]) = thereL lim q ++ (if x ≤ lim then [(q.length : Int) + 1] else []) := by
  unfold thereL
  rw [List.zipIdx_append, List.filter_append, List.map_append]
  congr 1
  by_cases h : x ≤ lim <;> simp [h]
theorem thereL_len (lim : Int) (q : List Int) : (thereL lim q).length ≤ q.length := by
  unfold thereL
  rw [List.length_map]
  have := List.length_filter_le (fun y : Int × Nat => decide (y.1 ≤ lim)) q.zipIdx
  rw [List.length_zipIdx] at this
  exact this
theorem watch_There.go (me lim : Int) (q : List Int) (hq : q.length < 8796093022208) (d : Nat) : ∀ (k i : Nat), i ≤ q.length → q.length - i = d → d < k →
    watch_There_p.l0 k (thereL lim (q.take i)) (q.length : Int) i me lim q = some (thereL lim q) := by
  induction d with
  | zero =>
    intro k i h1 hd hk; obtain ⟨k, rfl⟩ : ∃ m, k = m + 1 := ⟨k - 1, by omega⟩
    simp only [watch_There_p.l0]; rw [if_neg (by omega), List.take_of_length_le (by omega)]
  | succ d ih =>
    intro k i h1 hd hk; obtain ⟨k, rfl⟩ : ∃ m, k = m + 1 := ⟨k - 1, by omega⟩
    have hw : wrap64 ((i : Int) + 1) = (i : Int) + 1 := by unfold wrap64; omega
    have hrd : rd q (i : Int) = q[i] := by simp [rd, List.getD_eq_getElem?_getD, show i < q.length by omega]
    have ht : q.take (i + 1) = q.take i ++ [q[i]] := List.take_succ_eq_append_getElem (by omega)
    have hlen := thereL_len lim (q.take i)
    rw [List.length_take] at hlen
    have hil : (q.take i).length = i := by rw [List.length_take]; omega
    have hn := ih k (i + 1) (by omega) (by omega) (by omega)
    rw [ht, thereL_snoc, hil] at hn
    simp only [watch_There_p.l0]; rw [if_pos (by omega), if_pos (by omega), if_pos (by omega), hrd, hw]
    by_cases h : q[i] ≤ lim
    · rw [if_pos h, if_pos (by omega)]
      rw [if_pos h] at hn
      exact hn
    · rw [if_neg h]
      rw [if_neg h, List.append_nil] at hn
      exact hn
theorem watch_There.calls (a0_0 : Int) (a0_1 : Int) (A0_2 : Option Addr) (c0_2 : Nat) (l0_2 : List Int) (r : List Int) (w : World) (hr0_2 : Kd.C (Kd.int .i64) w A0_2 l0_2.length l0_2) (hc0_2 : l0_2.length ≤ c0_2) (h : watch_There.f a0_0 a0_1 l0_2 = some r) :
    Calls Try.prog 27 #[.agg #[.int .i64 a0_0, .int .i64 a0_1, .slice A0_2 l0_2.length c0_2]] w fun e w' => ∃ v0_ : Value, e = .returned (v0_) ∧ Kd.R (Kd.int .i64) 3 w' w.heap.size (fun _ => True) v0_ r ∧ Below w.heap.size w w' := by
  have hq : l0_2.length < 8796093022208 := by
    unfold watch_There.f at h
    split at h
    · assumption
    · cases h
  refine watch_There_p.calls (l0_2.length + 1) a0_0 a0_1 A0_2 c0_2 l0_2 r w hr0_2 hc0_2 ?_
  rw [← h, watch_There.f, if_pos hq]
  exact watch_There.go a0_0 a0_1 l0_2 hq l0_2.length _ 0 (by omega) (by omega) (by omega)

end Go.Proofs.Ytppimpadfgldjaa.F
