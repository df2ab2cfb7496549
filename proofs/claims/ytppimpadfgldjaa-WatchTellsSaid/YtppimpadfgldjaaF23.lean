-- Laid by mk.py (a program of this session) over the seat's translation.
import Derived.Test.YtppimpadfgldjaaF0
import Derived.Test.YtppimpadfgldjaaF96
namespace Go.Proofs.Ytppimpadfgldjaa.F
open Go.RowKit Go.Proofs.YtppimpadfgldjaaW.PrintWords Go.Proofs.YtppimpadfgldjaaW.PrintLast Go.Proofs.YtppimpadfgldjaaW.PrintMore
attribute [local go_sem] max2_int min2_int max_two min_two max_three min_three max_four min_four
set_option linter.unusedVariables false
set_option linter.unusedSimpArgs false

/-! ### watch_Tick: function 23 -/
/-! #### watch_Tick_p: function 23 -/
def watch_Tick_p.l0 : Nat → Int → Int → Int → Int → List Int → Option (Int × Int × List Int)
  | 0, _, _, _, _, _ => none
  | k + 1, x10, x11, x1002000, x1002001, x1002002 => if x11 < x10 then (if (wrap64 (x11 + 1)) = x1002000 then (watch_Tick_p.l0 k x10 (wrap64 (x11 + 1)) x1002000 x1002001 x1002002) else (if 0 ≤ x11 then (if x11 < (x1002002.length : Int) then (watch_Tick_p.l0 k x10 (wrap64 (x11 + 1)) x1002000 x1002001 (x1002002.set (x11 : Int).toNat (mn (wrap64 ((rd x1002002 x11) + 1)) (wrap64 (x1002001 + 1))))) else (none)) else (none))) else (some (x1002000, x1002001, x1002002))
def watch_Tick_p.f (k : Nat) (a0_0 : Int) (a0_1 : Int) (l0_2 : List Int) : Option (Int × Int × List Int) := (slices_Clone_int_int.f l0_2).bind fun t1003 => (watch_Tick_p.l0 k (t1003.length : Int) 0 a0_0 a0_1 t1003)
theorem watch_Tick_p.mono_l : ∀ k, (∀ y0 y1 y2 y3 y4, LeO (watch_Tick_p.l0 k y0 y1 y2 y3 y4) (watch_Tick_p.l0 (k + 1) y0 y1 y2 y3 y4))
  | 0 => fun _ _ _ _ _ r h => by simp [watch_Tick_p.l0] at h
  | k + 1 => by
    have ih0 := watch_Tick_p.mono_l k
    · intro y0 y1 y2 y3 y4; unfold watch_Tick_p.l0
      repeat' first
      | (with_reducible exact ih0 _ _ _ _ _)
      | (with_reducible exact LeO.refl _)
      | (with_reducible exact LeO.none _)
      | (with_reducible refine LeO.ite ?_ ?_)
      | (with_reducible refine LeO.bind ?_ (fun _ => ?_))
      | exact ih0 _ _ _ _ _
      | exact LeO.none _
      | refine LeO.ite ?_ ?_
      | refine LeO.bind ?_ (fun _ => ?_)
theorem watch_Tick_p.mono : ∀ a0 a1 a2 k, LeO (watch_Tick_p.f k a0 a1 a2) (watch_Tick_p.f (k + 1) a0 a1 a2) := by
  intro a0 a1 a2 k; have ih0 := watch_Tick_p.mono_l k
  unfold watch_Tick_p.f
  repeat' first
      | (with_reducible exact ih0 _ _ _ _ _)
      | (with_reducible exact LeO.refl _)
      | (with_reducible exact LeO.none _)
      | (with_reducible refine LeO.ite ?_ ?_)
      | (with_reducible refine LeO.bind ?_ (fun _ => ?_))
      | exact ih0 _ _ _ _ _
      | exact LeO.none _
      | refine LeO.ite ?_ ?_
      | refine LeO.bind ?_ (fun _ => ?_)
def watch_Tick_p.T6 : Bool × List (List Nat × List Nat) := (true, [([], []), ([0], [0]), ([], []), ([], []), ([3], [3]), ([], []), ([4, 5], [4, 5]), ([6], [6]), ([7], [7]), ([], []), ([9], [9]), ([10], [10]), ([8, 11], [8, 11]), ([1, 2, 0, 1, 2, 3, 4, 5, 6, 7, 8, 9, 10, 11, 12], [1, 2]), ([13, 12, 0, 1, 2, 3, 4, 5, 6, 7, 8, 9, 10, 11, 12], [12, 13])])
def watch_Tick_p.B6 : List Nat := [0, 1, 0, 0, 8, 0, 56, 120, 248, 0, 512, 1536, 4088, 8191, 16383]
theorem watch_Tick_p.tab6 : rtab .any (opsOf Try.f23 6) = watch_Tick_p.T6 := by kernel_rfl
theorem watch_Tick_p.bits6 : waitsOk watch_Tick_p.T6.2 watch_Tick_p.B6 = true := by kernel_rfl
set_option maxHeartbeats 8000000 in
set_option maxRecDepth 100000 in
theorem watch_Tick_p.calls (k : Nat) (a0_0 : Int) (a0_1 : Int) (A0_2 : Option Addr) (c0_2 : Nat) (l0_2 : List Int) (r1 : Int) (r2 : Int) (r3 : List Int) (w : World) (hr0_2 : Kd.C (Kd.int .i64) w A0_2 l0_2.length l0_2) (hc0_2 : l0_2.length ≤ c0_2) (h : watch_Tick_p.f k a0_0 a0_1 l0_2 = some (r1, r2, r3)) :
    Calls Try.prog 23 #[.agg #[.int .i64 a0_0, .int .i64 a0_1, .slice A0_2 l0_2.length c0_2]] w fun e w' => ∃ v2_ : Value, e = .returned (.agg #[.int .i64 r1, .int .i64 r2, v2_]) ∧ Kd.R (Kd.int .i64) 3 w' w.heap.size (fun _ => True) v2_ r3 ∧ Below w.heap.size w w' := by
  have hu25 := Try.underlying25; have HR0_2 := Aside0.mk hr0_2
  have HC0_2 := Aside0.mk hc0_2
  clear hr0_2 hc0_2; have HB := Aside0.mk (Below.refl w.heap.size w)
  have H : ((slices_Clone_int_int.f l0_2).bind fun t1003 => (watch_Tick_p.l0 k (t1003.length : Int) 0 a0_0 a0_1 t1003)) = some (r1, r2, r3) := h
  clear h; replace H := Option.bind_eq_some_iff.mp H
  obtain ⟨t1003, A20, H⟩ := H; replace H : (watch_Tick_p.l0 k (t1003.length : Int) 0 a0_0 a0_1 t1003) = some (r1, r2, r3) := H
  have A2 := Aside0.mk A20
  clear A20; have H' := Aside0.mk H
  clear H; go_enter Try.func23, Try.ntmps23
  go_wp2_with (first | ((with_reducible refine gate_dst (N := 1) rfl ?_); refine box_event ?hg (N := 1) ?hd (cs := #[.int .i64 a0_0, .int .i64 a0_1, .slice A0_2 l0_2.length c0_2]) (t := 25) ?hr ?_; (case hd => rfl); (case hg => rfl); (case hr => first | (go_simp; done) | (go_simp; rfl)); intro gb1001 hg w3 hbox hb; have n0_ := Aside0.mk (below_step (by repeat with_reducible first | exact HB.out | apply below_alloc | apply pw_below_drewN | apply below_drew1) hb); have n1_ := Aside0.mk (hbox); have n2_ := Aside0.mk ((by rw [hg]; exact (below_size (by repeat with_reducible first | exact HB.out | apply below_alloc | apply pw_below_drewN | apply below_drew1)) : w.heap.size ≤ gb1001)); have n3_ := Aside0.mk ((by rw [hg]; exact (below_size (by repeat with_reducible first | exact HB.out | apply below_alloc | apply pw_below_drewN | apply below_drew1)) : w.heap.size ≤ gb1001)); clear HB; have HB := n0_; have BK1001 := n1_; have GW1001 := n2_; have GE1001 := n3_; clear n0_ n1_ n2_ n3_; clear hb hbox hg) | ((with_reducible refine gate_dst (N := 2) rfl ?_); refine box_event ?hg (N := 2) ?hd (cs := #[.int .i64 0, .int .i64 0, .slice none 0 0]) (t := 25) ?hr ?_; (case hd => rfl); (case hg => rfl); (case hr => first | (go_simp; done) | (go_simp; rfl)); intro gb1002 hg w4 hbox hb; have n0_ := Aside0.mk (blk_below (g := gb1001) (o := .cells #[.int .i64 a0_0, .int .i64 a0_1, .slice A0_2 l0_2.length c0_2] 25 (0, 0)) (by (with_reducible repeat (first | refine blk_drewN ?_ _ | refine blk_drew ?_ | refine blk_alloc ?_ _)); exact BK1001.out) hb); have n1_ := Aside0.mk (below_step (by repeat (with_reducible first | exact HB.out | apply below_alloc | apply pw_below_drewN | apply below_drew1 | refine below_set ?_ GE1001.out)) hb); have n2_ := Aside0.mk (hbox); have n3_ := Aside0.mk ((by rw [hg]; exact (below_size (by repeat (with_reducible first | exact HB.out | apply below_alloc | apply pw_below_drewN | apply below_drew1 | refine below_set ?_ GE1001.out))) : w.heap.size ≤ gb1002)); have n4_ := Aside0.mk ((by rw [hg]; exact (below_size (by repeat (with_reducible first | exact HB.out | apply below_alloc | apply pw_below_drewN | apply below_drew1 | refine below_set ?_ GE1001.out))) : w.heap.size ≤ gb1002)); have n5_ := Aside0.mk ((by rw [hg]; exact Nat.ne_of_lt (blk_lt (g := gb1001) (o := .cells #[.int .i64 a0_0, .int .i64 a0_1, .slice A0_2 l0_2.length c0_2] 25 (0, 0)) (by (with_reducible repeat (first | refine blk_drewN ?_ _ | refine blk_drew ?_ | refine blk_alloc ?_ _)); exact BK1001.out)) : gb1001 ≠ gb1002)); have n6_ := Aside0.mk ((by rw [hg]; exact Nat.ne_of_gt (blk_lt (g := gb1001) (o := .cells #[.int .i64 a0_0, .int .i64 a0_1, .slice A0_2 l0_2.length c0_2] 25 (0, 0)) (by (with_reducible repeat (first | refine blk_drewN ?_ _ | refine blk_drew ?_ | refine blk_alloc ?_ _)); exact BK1001.out)) : gb1002 ≠ gb1001)); clear BK1001; clear HB; have BK1001 := n0_; have HB := n1_; have BK1002 := n2_; have GW1002 := n3_; have GE1002 := n4_; have NB1001_1002 := n5_; have NB1002_1001 := n6_; clear n0_ n1_ n2_ n3_ n4_ n5_ n6_; clear hb hbox hg; have hnb5 := NB1001_1002.out; have hnc5 := NB1002_1001.out; have hcz6_0 : w4.cell? ⟨gb1001, 0, none⟩ = some (.int .i64 a0_0) := (blk_cell BK1001.out 0).trans rfl; have hcz6_1 : w4.cell? ⟨gb1001, 1, none⟩ = some (.int .i64 a0_1) := (blk_cell BK1001.out 1).trans rfl; have hcz6_2 : w4.cell? ⟨gb1001, 2, none⟩ = some (.slice A0_2 l0_2.length c0_2) := (blk_cell BK1001.out 2).trans rfl; have hfz6_0 := blk_frozen BK1001.out 0; have hfz6_1 := blk_frozen BK1001.out 1; have hfz6_2 := blk_frozen BK1001.out 2) | ((with_reducible refine gate_callee (f := 96) rfl ?_); refine goesL_ (some 6) rfl rfl Try.func96 (by kernel_rfl) rfl #[.slice A0_2 l0_2.length c0_2] rfl (by simp only [List.map_toArray, List.map_cons, List.map_nil] <;> rfl) ?_; (with_reducible refine (slices_Clone_int_int.calls _ _ l0_2 t1003 _ ?side1 ?side2 A2.out).mono ?_); (case side1 => repeat (first | exact (Kd.C_below HR0_2.out HB.out) | (with_reducible refine Kd.C_alloc ?_ _) | (with_reducible refine Kd.C_drewN ?_ _) | (with_reducible refine Kd.C_drew ?_))); (case side2 => exact HC0_2.out); rintro e w7 ⟨v1004, rfl, ho0, hb⟩; refine ⟨_, rfl, ?_⟩; have n0_ := Aside0.mk (Kd.R_lower ho0 (below_size (by repeat (with_reducible first | exact HB.out | apply below_alloc | apply pw_below_drewN | apply below_drew1 | refine below_set ?_ GE1001.out | refine below_set ?_ GE1002.out)))); have n1_ := Aside0.mk (blk_below (g := gb1001) (o := .cells #[.int .i64 a0_0, .int .i64 a0_1, .slice A0_2 l0_2.length c0_2] 25 (0, 0)) (by (with_reducible repeat (first | refine blk_drewN ?_ _ | refine blk_drew ?_ | refine blk_alloc ?_ _)); exact BK1001.out) hb); have n2_ := Aside0.mk (blk_below (g := gb1002) (o := .cells #[.int .i64 0, .int .i64 0, .slice none 0 0] 25 (0, 0)) (by (with_reducible repeat (first | refine blk_drewN ?_ _ | refine blk_drew ?_ | refine blk_alloc ?_ _)); exact BK1002.out) hb); have n3_ := Aside0.mk (below_step (by repeat (with_reducible first | exact HB.out | apply below_alloc | apply pw_below_drewN | apply below_drew1 | refine below_set ?_ GE1001.out | refine below_set ?_ GE1002.out)) hb); clear BK1001; clear BK1002; clear HB; have HO1005 := n0_; have BK1001 := n1_; have BK1002 := n2_; have HB := n3_; clear n0_ n1_ n2_ n3_; (try clear hb); (try clear ho0); obtain ⟨Ao8, co8, eo8⟩ := Kd.R_slice HO1005.out; subst eo8; have hcz9_0 : w7.cell? ⟨gb1001, 0, none⟩ = some (.int .i64 a0_0) := (blk_cell BK1001.out 0).trans rfl; have hcz9_1 : w7.cell? ⟨gb1001, 1, none⟩ = some (.int .i64 a0_1) := (blk_cell BK1001.out 1).trans rfl; have hcz9_2 : w7.cell? ⟨gb1001, 2, none⟩ = some (.slice A0_2 l0_2.length c0_2) := (blk_cell BK1001.out 2).trans rfl; have hfz9_0 := blk_frozen BK1001.out 0; have hfz9_1 := blk_frozen BK1001.out 1; have hfz9_2 := blk_frozen BK1001.out 2))
  go_loopg [11] k (fun kq v11 w' => ∃ (x11_1 : Int) (x1002002_1 : List Int) (u1002002 : Value), v11 = .int .i64 x11_1 ∧ Aside0 (watch_Tick_p.l0 kq (t1003.length : Int) x11_1 a0_0 a0_1 x1002002_1 = some (r1, r2, r3)) ∧ Aside0 (kq ≤ k) ∧ Aside0 (Kd.R (Kd.int .i64) 3 w' w.heap.size (fun _ => True) u1002002 x1002002_1) ∧ Aside0 (w'.heap[gb1001]? = some (.cells #[.int .i64 a0_0, .int .i64 a0_1, u1002002] 25 (0, 0))) ∧ Aside0 (w'.heap[gb1002]? = some (.cells #[.int .i64 0, .int .i64 0, (.slice none 0 0)] 25 (0, 0))) ∧ Aside0 (Below w.heap.size w w'))
  case atStart => exact ⟨(0), (t1003), (.slice Ao8 t1003.length co8), (by first | rfl | (simp; done) | (simp [*]; done)), H', ⟨Nat.le_refl _⟩, ⟨by (with_reducible repeat (first | apply Kd.R_alloc | apply Kd.R_drewN | apply Kd.R_drew)); exact Kd.R_mono (Kd.R_far (p := ⟨gb1001, 2, none⟩) (Kd.R_types HO1005.out BK1001.out (by decide)) (fun _ hk => hk.2) (.slice Ao8 t1003.length co8)) (fun _ hk => trivial)⟩, ⟨by (with_reducible repeat (first | refine blk_drewN ?_ _ | refine blk_drew ?_ | refine blk_alloc ?_ _)); refine blk_put (cs := #[.int .i64 a0_0, .int .i64 a0_1, .slice A0_2 l0_2.length c0_2]) ?_ 2 _ rfl; (with_reducible repeat (first | refine blk_drewN ?_ _ | refine blk_drew ?_ | refine blk_alloc ?_ _)); exact BK1001.out⟩, ⟨by (with_reducible repeat (first | refine blk_drewN ?_ _ | refine blk_drew ?_ | refine blk_alloc ?_ _)); refine blk_far ?_ NB1002_1001.out _; (with_reducible repeat (first | refine blk_drewN ?_ _ | refine blk_drew ?_ | refine blk_alloc ?_ _)); exact BK1002.out⟩, ⟨by repeat (first | (with_reducible first | exact HB.out | apply below_alloc | apply pw_below_drewN | apply below_drew1 | refine below_set ?_ GE1001.out | refine below_set ?_ GE1002.out) | exact HB.out)⟩⟩
  case round =>
    clear H'; try clear c2
    try clear p2
    try clear c5
    try clear c9
    try clear hcz6_0
    try clear hcz6_1
    try clear hcz6_2
    try clear hcz9_0
    try clear hcz9_1
    try clear hcz9_2
    try clear hfz6_0
    try clear hfz6_1
    try clear hfz6_2
    try clear hfz9_0
    try clear hfz9_1
    try clear hfz9_2
    obtain ⟨x11_1, x1002002_1, u1002002, rfl, HA, HK1, HO_1002002, BK1001, BK1002, HB⟩ := hrel; cases gk with
    | zero => exact absurd HA.out (by simp [watch_Tick_p.l0])
    | succ k1 =>
      have H := HA.out; clear HA; simp only [watch_Tick_p.l0] at H; by_cases c10 : x11_1 < (t1003.length : Int)
      · rw [if_pos c10] at H
        have c10b0 : decide (x11_1 < (t1003.length : Int)) = true := decide_eq_true c10
        clear c10; by_cases c11 : (wrap64 (x11_1 + 1)) = a0_0
        · rw [if_pos c11] at H
          have c11b0 : ((wrap64 (x11_1 + 1)) == a0_0) = true := beq_iff_eq.mpr c11
          have c11b1 : ((wrap64 (x11_1 + 1)) != a0_0) = false := bne_eq_false_iff_eq.mpr c11
          clear c11; have H' := Aside0.mk H
          clear H; have hnb12 := NB1001_1002.out; have hnc12 := NB1002_1001.out; have hcz13_0 : wr.cell? ⟨gb1001, 0, none⟩ = some (.int .i64 a0_0) := (blk_cell BK1001.out 0).trans rfl
          have hcz13_1 : wr.cell? ⟨gb1001, 1, none⟩ = some (.int .i64 a0_1) := (blk_cell BK1001.out 1).trans rfl
          have hcz13_2 : wr.cell? ⟨gb1001, 2, none⟩ = some (u1002002) := (blk_cell BK1001.out 2).trans rfl
          have hfz13_0 := blk_frozen BK1001.out 0; have hfz13_1 := blk_frozen BK1001.out 1; have hfz13_2 := blk_frozen BK1001.out 2; go_wp2; go_roundg k1
          case measure => have := HK1.out; omega
          case rel => exact ⟨(wrap64 (x11_1 + 1)), (x1002002_1), (u1002002), (by first | rfl | (simp; done) | (simp [*]; done)), H', ⟨by have := HK1.out; omega⟩, ⟨by (with_reducible repeat (first | apply Kd.R_alloc | apply Kd.R_drewN | apply Kd.R_drew)); exact HO_1002002.out⟩, ⟨by (with_reducible repeat (first | refine blk_drewN ?_ _ | refine blk_drew ?_ | refine blk_alloc ?_ _)); exact BK1001.out⟩, ⟨by (with_reducible repeat (first | refine blk_drewN ?_ _ | refine blk_drew ?_ | refine blk_alloc ?_ _)); exact BK1002.out⟩, ⟨by repeat (first | (with_reducible first | exact HB.out | apply below_alloc | apply pw_below_drewN | apply below_drew1 | refine below_set ?_ GE1001.out | refine below_set ?_ GE1002.out) | exact HB.out)⟩⟩
        · rw [if_neg c11] at H
          have c11b0 : ((wrap64 (x11_1 + 1)) == a0_0) = false := beq_eq_false_iff_ne.mpr c11
          have c11b1 : ((wrap64 (x11_1 + 1)) != a0_0) = true := bne_iff_ne.mpr c11
          by_cases c14 : 0 ≤ x11_1
          · rw [if_pos c14] at H
            have c14b0 : decide (0 ≤ x11_1) = true := decide_eq_true c14
            clear c14; by_cases c15 : x11_1 < (x1002002_1.length : Int)
            · rw [if_pos c15] at H
              have c15b0 : decide (x11_1 < (x1002002_1.length : Int)) = true := decide_eq_true c15
              clear c15; obtain ⟨ji16, hji16⟩ : ∃ j_ : Int, (mn (wrap64 ((rd x1002002_1 x11_1) + 1)) (wrap64 (a0_1 + 1))) = j_ := ⟨_, rfl⟩
              replace H : (watch_Tick_p.l0 k1 (t1003.length : Int) (wrap64 (x11_1 + 1)) a0_0 a0_1 (x1002002_1.set (x11_1 : Int).toNat (ji16))) = some (r1, r2, r3) := by first | (rw [hji16] at H; exact H) | (simp only [hji16] at H ⊢; exact H)
              have hji16_ : (if (wrap64 (a0_1 + 1)) < (wrap64 ((rd x1002002_1 x11_1) + 1)) then (wrap64 (a0_1 + 1)) else (wrap64 ((rd x1002002_1 x11_1) + 1))) = ji16 := hji16
              obtain ⟨y1007, hy1007⟩ : ∃ y_ : List Int, y_ = (x1002002_1.set (x11_1 : Int).toNat (ji16)) := ⟨_, rfl⟩
              replace H : (watch_Tick_p.l0 k1 (t1003.length : Int) (wrap64 (x11_1 + 1)) a0_0 a0_1 y1007) = some (r1, r2, r3) := by first | (rw [hy1007]; with_reducible exact H) | (have H2_ := (Option.bind_some _ _).symm.trans H; rw [hy1007]; with_reducible exact H2_) | (have H2_ := (Option.bind_some _ _).symm.trans H; with_reducible exact H2_) | with_reducible exact H | (rw [hy1007]; exact H) | exact H
              have Ny1007 := Aside0.mk hy1007
              clear hy1007; have H' := Aside0.mk H
              clear H; have hnb18 := NB1001_1002.out; have hnc18 := NB1002_1001.out; have hcz19_0 : wr.cell? ⟨gb1001, 0, none⟩ = some (.int .i64 a0_0) := (blk_cell BK1001.out 0).trans rfl
              have hcz19_1 : wr.cell? ⟨gb1001, 1, none⟩ = some (.int .i64 a0_1) := (blk_cell BK1001.out 1).trans rfl
              have hcz19_2 : wr.cell? ⟨gb1001, 2, none⟩ = some (u1002002) := (blk_cell BK1001.out 2).trans rfl
              have hfz19_0 := blk_frozen BK1001.out 0; have hfz19_1 := blk_frozen BK1001.out 1; have hfz19_2 := blk_frozen BK1001.out 2; try go_wp2
              have n0_ := Aside0.mk (Kd.R_drew HO_1002002.out)
              have n1_ := Aside0.mk (blk_drew BK1001.out)
              have n2_ := Aside0.mk (blk_drew BK1002.out)
              have n3_ := Aside0.mk (below_drew1 HB.out)
              clear HO_1002002; clear BK1001; clear BK1002; clear HB; have HO_1002002 := n0_; have BK1001 := n1_; have BK1002 := n2_; have HB := n3_; clear n0_ n1_ n2_ n3_; obtain ⟨Ao21, co21, eo21⟩ := Kd.R_slice HO_1002002.out; (first | subst eo21 | (injection eo21 with f1_ f2_ f3_; have f4_ := f1_.symm; have f5_ := f3_.symm; clear f1_ f2_ f3_; subst f4_; subst f5_)); have p1006 : 0 ≤ (x11_1 : Int) := of_decide_eq_true (by first | (with_reducible assumption) | assumption)
              have q1006 : x11_1 < (x1002002_1.length : Int) := of_decide_eq_true (by first | (with_reducible assumption) | assumption)
              obtain ⟨ad1006, e1006, hx1006_0⟩ := Kd.at_int (Kd.R_reads' HO_1002002.out).2.2 x11_1 p1006 q1006
              cases e1006
              replace p1006 := eq_true p1006
              replace q1006 := eq_true q1006
              have p17 : 0 ≤ (x11_1 : Int) := of_decide_eq_true (by first | (with_reducible assumption) | assumption)
              have q17 : (x11_1 : Int) < ((x1002002_1.length : Int) : Int) := of_decide_eq_true (by first | (with_reducible assumption) | assumption)
              obtain ⟨go17, co17, eo17, gb17, gl17, cl17, HG17⟩ := Kd.R_form HO_1002002.out (by omega)
              (first | cases eo17 | (injection eo17 with ea_ en_ ec_; (first | subst ea_ | (injection ea_ with ea_; subst ea_)); subst ec_; clear en_)); have GB17 := Aside0.mk gb17
              have GG17 := Aside0.mk HG17
              clear gb17 gl17 HG17; (first | simp only [add_plain] at hx1006_0 | skip); obtain ⟨hx17_0, hf17_0⟩ := Kd.R_celln 0 HO_1002002.out (x11_1 : Int) p17 q17
              replace p17 := eq_true p17
              replace q17 := eq_true q17
              have HP22 := Kd.R_putn HO_1002002.out (x11_1 : Int) ji16
              rw [← Ny1007.out] at HP22
              have HQ22 := Aside0.mk HP22
              clear HP22; refine start_ (n := 15) (S := fun w' => w'.cell? ⟨gb1001, 0, none⟩ = some (.int .i64 a0_0) ∧ w'.cell? ⟨gb1001, 1, none⟩ = some (.int .i64 a0_1) ∧ w'.cell? ⟨gb1001, 2, none⟩ = some (.slice (some ⟨go17, 0, none⟩) x1002002_1.length co21) ∧ w'.cell? ⟨go17, (x11_1).toNat, none⟩ = some (.int .i64 (rd x1002002_1 x11_1))) (ds := [14]) #[false, false, false, false, false, false, false, false, false, false, false, false, false, false, false] (by kernel_rfl) rfl rfl ⟨(blk_cell BK1001.out 0).trans rfl, (blk_cell BK1001.out 1).trans rfl, (blk_cell BK1001.out 2).trans rfl, hx1006_0⟩ (fun hHeld => ?_); refine with_tabW watch_Tick_p.tab6 watch_Tick_p.bits6 (fun HT_ HW_ => ?_)
              generalize wr.drew = w20 at HO_1002002 BK1001 BK1002 HB GG17 HQ22 hf17_0 hx1006_0 hx17_0 hHeld ⊢
              refine pure_ (i := 0) (N := some 19) (v := ?_) (a' := ?_) #[true, false, false, false, false, false, false, false, false, false, false, false, false, false, false] rfl rfl (any_of HT_.out (by kernel_rfl)) (fun _ _ _ h => h) (Or.inl ⟨by rfl, ?_⟩) ?_ ?_
              rotate_left
              · intro w'; go_simp; with_reducible rfl
              rotate_left; · (simp only [Act.put, List.setIfInBounds_toArray, List.set_cons_zero, List.set_cons_succ, i64_w, i32_w]; rfl)
              refine pure_ (i := 2) (N := some 21) (v := ?_) (a' := ?_) #[true, false, true, false, false, false, false, false, false, false, false, false, false, false, false] rfl rfl (any_of HT_.out (by kernel_rfl)) (fun _ _ _ h => h) (Or.inl ⟨by rfl, ?_⟩) ?_ ?_
              rotate_left
              · intro w'; go_simp; with_reducible rfl
              rotate_left; · (simp only [Act.put, List.setIfInBounds_toArray, List.set_cons_zero, List.set_cons_succ, i64_w, i32_w]; rfl)
              refine pure_ (i := 3) (N := some 22) (v := ?_) (a' := ?_) #[true, false, true, true, false, false, false, false, false, false, false, false, false, false, false] rfl rfl (any_of HT_.out (by kernel_rfl)) (fun _ _ _ h => h) (Or.inl ⟨by rfl, ?_⟩) ?_ ?_
              rotate_left
              · intro w'; go_simp; with_reducible rfl
              rotate_left; · (simp only [Act.put, List.setIfInBounds_toArray, List.set_cons_zero, List.set_cons_succ, i64_w, i32_w]; rfl)
              refine pure_ (i := 5) (N := some 24) (v := ?_) (a' := ?_) #[true, false, true, true, false, true, false, false, false, false, false, false, false, false, false] rfl rfl (any_of HT_.out (by kernel_rfl)) (fun _ _ _ h => h) (Or.inl ⟨by rfl, ?_⟩) ?_ ?_
              rotate_left
              · intro w'; go_simp; with_reducible rfl
              rotate_left; · (simp only [Act.put, List.setIfInBounds_toArray, List.set_cons_zero, List.set_cons_succ, i64_w, i32_w]; rfl)
              refine pure_ (i := 9) (N := some 28) (v := ?_) (a' := ?_) #[true, false, true, true, false, true, false, false, false, true, false, false, false, false, false] rfl rfl (any_of HT_.out (by kernel_rfl)) (fun _ _ _ h => h) (Or.inl ⟨by rfl, ?_⟩) ?_ ?_
              rotate_left
              · intro w'; go_simp; with_reducible rfl
              rotate_left; · (simp only [Act.put, List.setIfInBounds_toArray, List.set_cons_zero, List.set_cons_succ, i64_w, i32_w]; rfl)
              refine take_ (i := 1) (N := some 20) (v := ?_) (a' := ?_) #[true, true, true, true, false, true, false, false, false, true, false, false, false, false, false] rfl rfl (take_ofW HT_.out HW_.out (by kernel_rfl)) (fun _ _ _ h => h) (Or.inl ⟨by rfl, ?_⟩) hHeld ?_ ?_
              rotate_left
              · rintro w' ⟨s0, s1, s2, s3⟩; go_simp; with_reducible rfl
              rotate_left; · (simp only [Act.put, List.setIfInBounds_toArray, List.set_cons_zero, List.set_cons_succ, i64_w, i32_w]; rfl)
              refine take_ (i := 4) (N := some 23) (v := ?_) (a' := ?_) #[true, true, true, true, true, true, false, false, false, true, false, false, false, false, false] rfl rfl (take_ofW HT_.out HW_.out (by kernel_rfl)) (fun _ _ _ h => h) (Or.inl ⟨by rfl, ?_⟩) hHeld ?_ ?_
              rotate_left
              · rintro w' ⟨s0, s1, s2, s3⟩; go_simp; with_reducible rfl
              rotate_left; · (simp only [Act.put, List.setIfInBounds_toArray, List.set_cons_zero, List.set_cons_succ, i64_w, i32_w]; rfl)
              refine pure_ (i := 6) (N := some 25) (v := ?_) (a' := ?_) #[true, true, true, true, true, true, true, false, false, true, false, false, false, false, false] rfl rfl (any_of HT_.out (by kernel_rfl)) (fun _ _ _ h => h) (Or.inl ⟨by rfl, ?_⟩) ?_ ?_
              rotate_left
              · intro w'; go_simp; with_reducible rfl
              rotate_left; · (simp only [Act.put, List.setIfInBounds_toArray, List.set_cons_zero, List.set_cons_succ, i64_w, i32_w]; rfl)
              refine take_ (i := 7) (N := some 26) (v := ?_) (a' := ?_) #[true, true, true, true, true, true, true, true, false, true, false, false, false, false, false] rfl rfl (take_ofW HT_.out HW_.out (by kernel_rfl)) (fun _ _ _ h => h) (Or.inl ⟨by rfl, ?_⟩) hHeld ?_ ?_
              rotate_left
              · rintro w' ⟨s0, s1, s2, s3⟩; go_simp; with_reducible rfl
              rotate_left; · (simp only [Act.put, List.setIfInBounds_toArray, List.set_cons_zero, List.set_cons_succ, i64_w, i32_w]; rfl)
              refine pure_ (i := 8) (N := some 27) (v := ?_) (a' := ?_) #[true, true, true, true, true, true, true, true, true, true, false, false, false, false, false] rfl rfl (any_of HT_.out (by kernel_rfl)) (fun _ _ _ h => h) (Or.inl ⟨by rfl, ?_⟩) ?_ ?_
              rotate_left
              · intro w'; go_simp; with_reducible rfl
              rotate_left; · (simp only [Act.put, List.setIfInBounds_toArray, List.set_cons_zero, List.set_cons_succ, i64_w, i32_w]; rfl)
              refine take_ (i := 10) (N := some 29) (v := ?_) (a' := ?_) #[true, true, true, true, true, true, true, true, true, true, true, false, false, false, false] rfl rfl (take_ofW HT_.out HW_.out (by kernel_rfl)) (fun _ _ _ h => h) (Or.inl ⟨by rfl, ?_⟩) hHeld ?_ ?_
              rotate_left
              · rintro w' ⟨s0, s1, s2, s3⟩; go_simp; with_reducible rfl
              rotate_left; · (simp only [Act.put, List.setIfInBounds_toArray, List.set_cons_zero, List.set_cons_succ, i64_w, i32_w]; rfl)
              refine pure_ (i := 11) (N := some 30) (v := ?_) (a' := ?_) #[true, true, true, true, true, true, true, true, true, true, true, true, false, false, false] rfl rfl (any_of HT_.out (by kernel_rfl)) (fun _ _ _ h => h) (Or.inl ⟨by rfl, ?_⟩) ?_ ?_
              rotate_left
              · intro w'; go_simp; with_reducible rfl
              rotate_left; · (simp only [Act.put, List.setIfInBounds_toArray, List.set_cons_zero, List.set_cons_succ, i64_w, i32_w]; rfl)
              refine pure_ (i := 12) (N := some 31) (v := ?_) (a' := ?_) #[true, true, true, true, true, true, true, true, true, true, true, true, true, false, false] rfl rfl (any_of HT_.out (by kernel_rfl)) (fun _ _ _ h => h) (Or.inl ⟨by rfl, ?_⟩) ?_ ?_
              rotate_left
              · intro w'; go_simp; with_reducible rfl
              rotate_left; · (simp only [Act.put, List.setIfInBounds_toArray, List.set_cons_zero, List.set_cons_succ, i64_w, i32_w]; rfl)
              refine pure_ (i := 13) (N := some 32) (v := ?_) (a' := ?_) #[true, true, true, true, true, true, true, true, true, true, true, true, true, true, false] rfl rfl (any_of HT_.out (by kernel_rfl)) (fun _ _ _ h => h) (Or.inl ⟨by rfl, ?_⟩) ?_ ?_
              rotate_left
              · intro w'; go_simp; with_reducible rfl
              rotate_left; · (simp only [Act.put, List.setIfInBounds_toArray, List.set_cons_zero, List.set_cons_succ, i64_w, i32_w]; rfl)
              refine last_ (i := 14) (N := none) #[true, true, true, true, true, true, true, true, true, true, true, true, true, true, true] rfl rfl (one_of HT_.out (by kernel_rfl)) (by decide) (fun K hK => ?_)
              refine skip_ (w1 := ?_) (by rfl) rfl ?_ ?_
              rotate_left; · (go_simp; rfl)
              refine hK.out _ _ ?_
              clear hK K; refine done_ (done_of HT_.out (by kernel_rfl)) ?_
              try go_wp2
              go_roundg k1
              case measure => have := HK1.out; omega
              case rel => exact ⟨(wrap64 (x11_1 + 1)), (y1007), (.slice (some ⟨go17, 0, none⟩) x1002002_1.length co21), (by first | rfl | (simp; done) | (simp [*]; done)), H', ⟨by have := HK1.out; omega⟩, ⟨by (with_reducible repeat (first | apply Kd.R_alloc | apply Kd.R_drewN | apply Kd.R_drew)); exact HQ22.out⟩, ⟨by (with_reducible repeat (first | refine blk_drewN ?_ _ | refine blk_drew ?_ | refine blk_alloc ?_ _)); refine blk_far ?_ (by have h_ := Kd.R_ne HO_1002002.out BK1001.out (by decide); intro e_; exact h_ (by rw [e_]; rfl)) _; (with_reducible repeat (first | refine blk_drewN ?_ _ | refine blk_drew ?_ | refine blk_alloc ?_ _)); exact BK1001.out⟩, ⟨by (with_reducible repeat (first | refine blk_drewN ?_ _ | refine blk_drew ?_ | refine blk_alloc ?_ _)); refine blk_far ?_ (by have h_ := Kd.R_ne HO_1002002.out BK1002.out (by decide); intro e_; exact h_ (by rw [e_]; rfl)) _; (with_reducible repeat (first | refine blk_drewN ?_ _ | refine blk_drew ?_ | refine blk_alloc ?_ _)); exact BK1002.out⟩, ⟨by repeat (first | (with_reducible first | exact HB.out | apply below_alloc | apply pw_below_drewN | apply below_drew1 | refine below_set ?_ GB17.out | refine below_set ?_ GE1001.out | refine below_set ?_ GE1002.out) | exact HB.out)⟩⟩
            · rw [if_neg c15] at H
              exact absurd H (by simp)
          · rw [if_neg c14] at H
            exact absurd H (by simp)
      · rw [if_neg c10] at H
        have c10b0 : decide (x11_1 < (t1003.length : Int)) = false := decide_eq_false c10
        clear c10; simp only [Option.some.injEq, Prod.mk.injEq] at H; obtain ⟨rfl, rfl, rfl⟩ := H; have hnb23 := NB1001_1002.out; have hnc23 := NB1002_1001.out; have hcz24_0 : wr.cell? ⟨gb1001, 0, none⟩ = some (.int .i64 a0_0) := (blk_cell BK1001.out 0).trans rfl
        have hcz24_1 : wr.cell? ⟨gb1001, 1, none⟩ = some (.int .i64 a0_1) := (blk_cell BK1001.out 1).trans rfl
        have hcz24_2 : wr.cell? ⟨gb1001, 2, none⟩ = some (u1002002) := (blk_cell BK1001.out 2).trans rfl
        have hfz24_0 := blk_frozen BK1001.out 0; have hfz24_1 := blk_frozen BK1001.out 1; have hfz24_2 := blk_frozen BK1001.out 2; have hcz25_0 : wr.cell? ⟨gb1002, 0, none⟩ = some (.int .i64 0) := (blk_cell BK1002.out 0).trans rfl
        have hcz25_1 : wr.cell? ⟨gb1002, 1, none⟩ = some (.int .i64 0) := (blk_cell BK1002.out 1).trans rfl
        have hcz25_2 : wr.cell? ⟨gb1002, 2, none⟩ = some (.slice none 0 0) := (blk_cell BK1002.out 2).trans rfl
        have hfz25_0 := blk_frozen BK1002.out 0; have hfz25_1 := blk_frozen BK1002.out 1; have hfz25_2 := blk_frozen BK1002.out 2; obtain ⟨Ao26, co26, eo26⟩ := Kd.R_slice HO_1002002.out; subst eo26; go_wp2; refine bodyPost_ret (results_cell_row rfl _ _ gb1002 25 #[.int .i64 a0_0, .int .i64 a0_1, .slice Ao26 x1002002_1.length co26] (0, 0) _ rfl (by (with_reducible repeat (first | refine blk_drewN ?_ _ | refine blk_drew ?_ | refine blk_alloc ?_ _)); refine blk_put (cs := #[.int .i64 a0_0, .int .i64 a0_1, .slice none 0 0]) ?_ 2 _ rfl; (with_reducible repeat (first | refine blk_drewN ?_ _ | refine blk_drew ?_ | refine blk_alloc ?_ _)); refine blk_put (cs := #[.int .i64 a0_0, .int .i64 0, .slice none 0 0]) ?_ 1 _ rfl; (with_reducible repeat (first | refine blk_drewN ?_ _ | refine blk_drew ?_ | refine blk_alloc ?_ _)); refine blk_put (cs := #[.int .i64 0, .int .i64 0, .slice none 0 0]) ?_ 0 _ rfl; (with_reducible repeat (first | refine blk_drewN ?_ _ | refine blk_drew ?_ | refine blk_alloc ?_ _)); exact BK1002.out) Try.underlying25 rfl (by kernel_rfl)) rfl ?_
        exact ⟨_, by first | rfl | (simp [errW_none, errW_some] <;> rfl) | (simp [*, errW_none, errW_some] <;> rfl), by (with_reducible repeat (first | apply Kd.R_alloc | apply Kd.R_drewN | apply Kd.R_drew)); exact Kd.R_mono (Kd.R_far (p := ⟨gb1002, 2, none⟩) (Kd.R_far (p := ⟨gb1002, 1, none⟩) (Kd.R_far (p := ⟨gb1002, 0, none⟩) (Kd.R_types HO_1002002.out BK1002.out (by decide)) (fun _ hk => hk.2) (.int .i64 a0_0)) (fun _ hk => hk.2) (.int .i64 a0_1)) (fun _ hk => hk.2) (.slice Ao26 x1002002_1.length co26)) (fun _ hk => trivial), by repeat (first | (with_reducible first | exact HB.out | apply below_alloc | apply pw_below_drewN | apply below_drew1 | refine below_set ?_ GE1001.out | refine below_set ?_ GE1002.out) | exact HB.out)⟩

def tick1 (me lim : Int) (i : Nat) (x : Int) : Int := if (i : Int) + 1 = me then x else mn (wrap64 (x + 1)) (wrap64 (lim + 1))
def tickQ (me lim : Int) (q : List Int) : List Int := q.mapIdx (tick1 me lim)
def watch_Tick.f (me lim : Int) (q : List Int) : Option (Int × Int × List Int) := if q.length < 8796093022208 then some (me, lim, tickQ me lim q) else none
theorem watch_Tick.go (me lim : Int) (q : List Int) (hq : q.length < 8796093022208) (d : Nat) : ∀ (k : Nat) (i : Int) (cur : List Int), 0 ≤ i → i ≤ q.length → (q.length : Int) - i = d → d < k → cur.length = q.length →
    (∀ j : Nat, j < q.length → cur.getD j 0 = if (j : Int) < i then tick1 me lim j (q.getD j 0) else q.getD j 0) → watch_Tick_p.l0 k (q.length : Int) i me lim cur = some (me, lim, tickQ me lim q) := by
  induction d with
  | zero =>
    intro k i cur h0 h1 hd hk hl hc; obtain ⟨k, rfl⟩ : ∃ m, k = m + 1 := ⟨k - 1, by omega⟩
    simp only [watch_Tick_p.l0]; rw [if_neg (by omega)]
    have : cur = tickQ me lim q := by
      apply List.ext_getElem
      · simp [tickQ, hl]
      · intro j h2 h3; have h4 := hc j (by omega)
        rw [if_pos (by omega)] at h4
        simp only [List.getD_eq_getElem?_getD, List.getElem?_eq_getElem h2, List.getElem?_eq_getElem (show j < q.length by omega), Option.getD_some] at h4; simp [tickQ, h4]
    rw [this]
  | succ d ih =>
    intro k i cur h0 h1 hd hk hl hc; obtain ⟨k, rfl⟩ : ∃ m, k = m + 1 := ⟨k - 1, by omega⟩
    have hw : wrap64 (i + 1) = i + 1 := by unfold wrap64; omega
    simp only [watch_Tick_p.l0]; rw [if_pos (by omega), hw]
    by_cases hm : i + 1 = me
    · rw [if_pos hm]
      refine ih k (i + 1) cur (by omega) (by omega) (by omega) (by omega) hl ?_
      intro j hj; rw [hc j hj]
      by_cases h2 : (j : Int) < i
      · rw [if_pos h2, if_pos (by omega)]
      · rw [if_neg h2]
        by_cases h3 : (j : Int) < i + 1
        · rw [if_pos h3, tick1, if_pos (by omega)]
        · rw [if_neg h3]
    · rw [if_neg hm, if_pos h0, if_pos (by omega)]
      refine ih k (i + 1) _ (by omega) (by omega) (by omega) (by omega) (by simp [hl]) ?_
      intro j hj; have h5 := hc j hj
      by_cases h2 : (j : Int) = i
      · have h6 : i.toNat = j := by omega
        rw [if_neg (by omega)] at h5
        rw [if_pos (by omega), h6, tick1, if_neg (by omega)]
        have : rd cur i = q.getD j 0 := by rw [rd, h6]; exact h5
        rw [this]
        simp [List.getD_eq_getElem?_getD, hl, hj]
      · have h6 : i.toNat ≠ j := by omega
        have h7 : (cur.set i.toNat (mn (wrap64 (rd cur i + 1)) (wrap64 (lim + 1)))).getD j 0 = cur.getD j 0 := by
          simp only [List.getD_eq_getElem?_getD]; rw [List.getElem?_set_ne h6]
        rw [h7, h5]
        by_cases h3 : (j : Int) < i
        · rw [if_pos h3, if_pos (by omega)]
        · rw [if_neg h3, if_neg (by omega)]
theorem watch_Tick.calls (a0_0 : Int) (a0_1 : Int) (A0_2 : Option Addr) (c0_2 : Nat) (l0_2 : List Int) (r1 : Int) (r2 : Int) (r3 : List Int) (w : World) (hr0_2 : Kd.C (Kd.int .i64) w A0_2 l0_2.length l0_2) (hc0_2 : l0_2.length ≤ c0_2) (h : watch_Tick.f a0_0 a0_1 l0_2 = some (r1, r2, r3)) :
    Calls Try.prog 23 #[.agg #[.int .i64 a0_0, .int .i64 a0_1, .slice A0_2 l0_2.length c0_2]] w fun e w' => ∃ v2_ : Value, e = .returned (.agg #[.int .i64 r1, .int .i64 r2, v2_]) ∧ Kd.V (Kd.int .i64) 3 w' w.heap.size (fun k_ => w.heap.size ≤ k_) v2_ r3 ∧ Below w.heap.size w w' := by
  have hq : l0_2.length < 8796093022208 := by
    unfold watch_Tick.f at h
    split at h
    · assumption
    · cases h
  refine (watch_Tick_p.calls (l0_2.length + 1) a0_0 a0_1 A0_2 c0_2 l0_2 r1 r2 r3 w hr0_2 hc0_2 ?_).mono fun e w' ⟨v, he, hr, hb⟩ => ⟨v, he, Kd.R_V (Kd.R_mono (Kd.R_bound hr) (fun _ hk => hk.2.1)), hb⟩
  unfold watch_Tick_p.f slices_Clone_int_int.f
  rw [if_pos hq, Option.bind_some, watch_Tick.go a0_0 a0_1 l0_2 hq l0_2.length _ 0 l0_2 (by omega) (by omega) (by omega) (by omega) rfl (fun j hj => by rw [if_neg (by omega)]), ← h, watch_Tick.f, if_pos hq]

end Go.Proofs.Ytppimpadfgldjaa.F
