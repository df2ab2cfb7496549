import Derived.Test.YtpfpmjdifnoeoaaMSealApartF0
import Derived.Test.YtpfpmjdifnoeoaaMSealApartF64
namespace Go.Proofs.Ytpfpmjdifnoeoaa.F
open Go.RowKit Go.Proofs.YtpfpmjdifnoeoaaW.PrintWords Go.Proofs.YtpfpmjdifnoeoaaW.PrintLast Go.Proofs.YtpfpmjdifnoeoaaW.PrintMore
attribute [local go_sem] max2_int min2_int max_two min_two max_three min_three max_four min_four
set_option linter.unusedVariables false
set_option linter.unusedSimpArgs false
def gemotlaw17_of_p.f (a0 : Int) : Option (Int × Int × List Int) := (gemotlaw17_pick.f a0 1000).bind fun t1002 => (some (t1002, 1, (([1, 2, 3, 4, 5, 6, 7, 8] : List Int))))
set_option maxHeartbeats 8000000 in
set_option maxRecDepth 100000 in
theorem gemotlaw17_of_p.calls (a0 : Int) (r1 : Int) (r2 : Int) (r3 : List Int) (w : World) (h : gemotlaw17_of_p.f a0 = some (r1, r2, r3)) :
    Calls Try.prog 63 #[.int .i64 a0] w fun e w' => ∃ v2_ : Value, e = .returned (.agg #[.int .i64 r1, .int .i64 r2, v2_]) ∧ Kd.R (Kd.int .i64) 3 w' w.heap.size (fun _ => True) v2_ r3 ∧ Below w.heap.size w w' := by
  have hu65 := Try.underlying65
  have hu35 := Try.underlying35
  have HB := Aside0.mk (Below.refl w.heap.size w)
  have H : ((gemotlaw17_pick.f a0 1000).bind fun t1002 => (some (t1002, 1, (([1, 2, 3, 4, 5, 6, 7, 8] : List Int))))) = some (r1, r2, r3) := h
  clear h
  replace H := Option.bind_eq_some_iff.mp H
  obtain ⟨t1002, A20, H⟩ := H
  replace H : (some (t1002, 1, (([1, 2, 3, 4, 5, 6, 7, 8] : List Int)))) = some (r1, r2, r3) := H
  have A2 := Aside0.mk A20
  clear A20
  obtain ⟨y1003, hy1003⟩ : ∃ y_ : List Int, y_ = (([1, 2, 3, 4, 5, 6, 7, 8] : List Int)) := ⟨_, rfl⟩
  replace H : (some (t1002, 1, y1003)) = some (r1, r2, r3) := by first | (rw [hy1003]; with_reducible exact H) | (have H2_ := (Option.bind_some _ _).symm.trans H; rw [hy1003]; with_reducible exact H2_) | (have H2_ := (Option.bind_some _ _).symm.trans H; with_reducible exact H2_) | with_reducible exact H | (rw [hy1003]; exact H) | exact H
  have Ny1003 := Aside0.mk hy1003
  clear hy1003
  simp only [Option.some.injEq, Prod.mk.injEq] at H
  obtain ⟨rfl, rfl, rfl⟩ := H
  go_enter Try.func63, Try.ntmps63
  go_wp2_with (first | ((with_reducible refine gate_dst (N := 2) rfl ?_); refine box_event ?hg (N := 2) ?hd (cs := #[.int .i64 0, .int .i64 0, .slice none 0 0]) (t := 65) ?hr ?_; (case hd => rfl); (case hg => rfl); (case hr => first | (go_simp; done) | (go_simp; rfl)); intro gb1001 hg w3 hbox hb; have n0_ := Aside0.mk (below_step (by repeat with_reducible first | exact HB.out | apply below_alloc | apply pw_below_drewN | apply below_drew1) hb); have n1_ := Aside0.mk (hbox); have n2_ := Aside0.mk ((by rw [hg]; exact (below_size (by repeat with_reducible first | exact HB.out | apply below_alloc | apply pw_below_drewN | apply below_drew1)) : w.heap.size ≤ gb1001)); have n3_ := Aside0.mk ((by rw [hg]; exact (below_size (by repeat with_reducible first | exact HB.out | apply below_alloc | apply pw_below_drewN | apply below_drew1)) : w.heap.size ≤ gb1001)); clear HB; have HB := n0_; have BK1001 := n1_; have GW1001 := n2_; have GE1001 := n3_; clear n0_ n1_ n2_ n3_; clear hb hbox hg) | ((with_reducible refine gate_callee (f := 64) rfl ?_); refine goesL_ (some 4) rfl rfl Try.func64 (by kernel_rfl) rfl #[.int .i64 a0, .int .i64 1000] rfl (by simp only [List.map_toArray, List.map_cons, List.map_nil] <;> rfl) ?_; (with_reducible refine (gemotlaw17_pick.calls a0 1000 t1002 _ A2.out).mono ?_); rintro e w' ⟨rfl, ⟨nd, rfl⟩⟩; refine ⟨_, rfl, ?_⟩; (try (rw [drewN_self w3]; generalize hq_ : World.drewN w3 _ = w3; have n0_ : Aside0 (w3.heap[gb1001]? = some (.cells #[.int .i64 0, .int .i64 0, .slice none 0 0] 65 (0, 0))) := ⟨by rw [← hq_]; exact (by (with_reducible repeat (first | refine blk_drewN ?_ _ | refine blk_drew ?_ | refine blk_alloc ?_ _)); exact BK1001.out)⟩; have n1_ : Aside0 (Below w.heap.size w w3) := ⟨by rw [← hq_]; exact (by repeat (with_reducible first | exact HB.out | apply below_alloc | apply pw_below_drewN | apply below_drew1 | refine below_set ?_ GE1001.out))⟩; clear BK1001 HB hq_; have BK1001 := n0_; have HB := n1_; clear n0_ n1_))) | ((with_reducible refine gate_dst (N := 6) rfl ?_); refine Kd.R_lit (Kd.int .i64) _ 3 ?hg (N := 6) ?hd (xs := ([1, 2, 3, 4, 5, 6, 7, 8] : List Int)) (inner := [.int .i64 1, .int .i64 2, .int .i64 3, .int .i64 4, .int .i64 5, .int .i64 6, .int .i64 7, .int .i64 8]) (ok := fun _ => True) (okp := fun _ => True) ?hr ?hp (fun _ hk => hk) trivial (Below.refl _ _) (Nat.le_refl _) (by simp) ?_; (case hd => rfl); (case hg => rfl); (case hr => first | (go_simp; done) | (go_simp; rfl)); (case hp => exact (Reps.one (show Kd.M (Kd.int .i64) _ _ _ 1 [.int .i64 1] from rfl) (Reps.one (show Kd.M (Kd.int .i64) _ _ _ 2 [.int .i64 2] from rfl) (Reps.one (show Kd.M (Kd.int .i64) _ _ _ 3 [.int .i64 3] from rfl) (Reps.one (show Kd.M (Kd.int .i64) _ _ _ 4 [.int .i64 4] from rfl) (Reps.one (show Kd.M (Kd.int .i64) _ _ _ 5 [.int .i64 5] from rfl) (Reps.one (show Kd.M (Kd.int .i64) _ _ _ 6 [.int .i64 6] from rfl) (Reps.one (show Kd.M (Kd.int .i64) _ _ _ 7 [.int .i64 7] from rfl) (Reps.one (show Kd.M (Kd.int .i64) _ _ _ 8 [.int .i64 8] from rfl) (Reps.none _ _)))))))))); intro v1004 w4 ho5 hb hg_ hnew_; clear hg_ hnew_; (first | rw [← Ny1003.out] at ho5 | (simp only [Int.reduceToNat] at ho5; rw [← Ny1003.out] at ho5)); have n0_ := Aside0.mk (Kd.R_lower ho5 (below_size (by repeat (with_reducible first | exact HB.out | apply below_alloc | apply pw_below_drewN | apply below_drew1 | refine below_set ?_ GE1001.out)))); have n1_ := Aside0.mk (blk_below (g := gb1001) (o := .cells #[.int .i64 0, .int .i64 0, .slice none 0 0] 65 (0, 0)) (by (with_reducible repeat (first | refine blk_drewN ?_ _ | refine blk_drew ?_ | refine blk_alloc ?_ _)); exact BK1001.out) hb); have n2_ := Aside0.mk (below_step (by repeat (with_reducible first | exact HB.out | apply below_alloc | apply pw_below_drewN | apply below_drew1 | refine below_set ?_ GE1001.out)) hb); clear BK1001; clear HB; have HO1005 := n0_; have BK1001 := n1_; have HB := n2_; clear n0_ n1_ n2_; clear hb ho5; obtain ⟨Ao6, co6, eo6⟩ := Kd.R_slice HO1005.out; subst eo6; have hcz7_0 : w4.cell? ⟨gb1001, 0, none⟩ = some (.int .i64 0) := (blk_cell BK1001.out 0).trans rfl; have hcz7_1 : w4.cell? ⟨gb1001, 1, none⟩ = some (.int .i64 0) := (blk_cell BK1001.out 1).trans rfl; have hcz7_2 : w4.cell? ⟨gb1001, 2, none⟩ = some (.slice none 0 0) := (blk_cell BK1001.out 2).trans rfl; have hfz7_0 := blk_frozen BK1001.out 0; have hfz7_1 := blk_frozen BK1001.out 1; have hfz7_2 := blk_frozen BK1001.out 2))
  refine bodyPost_ret (results_cell_row rfl _ _ gb1001 65 #[.int .i64 t1002, .int .i64 1, .slice Ao6 y1003.length co6] (0, 0) _ rfl (by (with_reducible repeat (first | refine blk_drewN ?_ _ | refine blk_drew ?_ | refine blk_alloc ?_ _)); refine blk_put (cs := #[.int .i64 t1002, .int .i64 1, .slice none 0 0]) ?_ 2 _ rfl; (with_reducible repeat (first | refine blk_drewN ?_ _ | refine blk_drew ?_ | refine blk_alloc ?_ _)); refine blk_put (cs := #[.int .i64 t1002, .int .i64 0, .slice none 0 0]) ?_ 1 _ rfl; (with_reducible repeat (first | refine blk_drewN ?_ _ | refine blk_drew ?_ | refine blk_alloc ?_ _)); refine blk_put (cs := #[.int .i64 0, .int .i64 0, .slice none 0 0]) ?_ 0 _ rfl; (with_reducible repeat (first | refine blk_drewN ?_ _ | refine blk_drew ?_ | refine blk_alloc ?_ _)); exact BK1001.out) Try.underlying65 rfl (by kernel_rfl)) rfl ?_
  exact ⟨_, by first | rfl | (simp [errW_none, errW_some] <;> rfl) | (simp [*, errW_none, errW_some] <;> rfl), by (with_reducible repeat (first | apply Kd.R_alloc | apply Kd.R_drewN | apply Kd.R_drew)); exact Kd.R_mono (Kd.R_far (p := ⟨gb1001, 2, none⟩) (Kd.R_far (p := ⟨gb1001, 1, none⟩) (Kd.R_far (p := ⟨gb1001, 0, none⟩) (Kd.R_types HO1005.out BK1001.out (by decide)) (fun _ hk => hk.2) (.int .i64 t1002)) (fun _ hk => hk.2) (.int .i64 1)) (fun _ hk => hk.2) (.slice Ao6 y1003.length co6)) (fun _ hk => trivial), by repeat (first | (with_reducible first | exact HB.out | apply below_alloc | apply pw_below_drewN | apply below_drew1 | refine below_set ?_ GE1001.out) | exact HB.out)⟩
def procs8 : List Int := [1, 2, 3, 4, 5, 6, 7, 8]
def gemotlaw17_of.f (n : Int) : Option (Int × Int × List Int) := if -9223372036854775808 ≤ n ∧ n ≤ 9223372036854775807 then some ((if n < 0 then -(n + 1) else n) % 1000, 1, procs8) else none
theorem gemotlaw17_of.calls (a0 : Int) (r1 : Int) (r2 : Int) (r3 : List Int) (w : World) (h : gemotlaw17_of.f a0 = some (r1, r2, r3)) :
    Calls Try.prog 63 #[.int .i64 a0] w fun e w' => ∃ v2_ : Value, e = .returned (.agg #[.int .i64 r1, .int .i64 r2, v2_]) ∧ Kd.V (Kd.int .i64) 3 w' w.heap.size (fun k_ => w.heap.size ≤ k_) v2_ r3 ∧ Below w.heap.size w w' := by
  unfold gemotlaw17_of.f at h
  split at h
  case isFalse => cases h
  rename_i hs
  refine (gemotlaw17_of_p.calls a0 r1 r2 r3 w ?_).mono fun e w' ⟨v, he, hr, hb⟩ => ⟨v, he, Kd.R_V (Kd.R_mono (Kd.R_bound hr) (fun _ hk => hk.2.1)), hb⟩
  rw [← h]
  unfold gemotlaw17_of_p.f gemotlaw17_pick.f
  rw [if_pos ⟨hs.1, hs.2, by decide, by decide⟩]
  rfl
end Go.Proofs.Ytpfpmjdifnoeoaa.F
