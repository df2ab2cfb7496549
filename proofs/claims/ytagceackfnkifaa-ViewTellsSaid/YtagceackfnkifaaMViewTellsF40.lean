import Derived.Test.YtagceackfnkifaaMViewTellsF0
import Derived.Test.YtagceackfnkifaaMViewTellsF116
import Derived.Test.YtagceackfnkifaaMViewTellsF80
import Derived.Test.YtagceackfnkifaaMViewTellsF81
namespace Go.Proofs.Ytagceackfnkifaa.F
open Go.RowKit Go.Proofs.YtagceackfnkifaaW.PrintWords Go.Proofs.YtagceackfnkifaaW.PrintLast Go.Proofs.YtagceackfnkifaaW.PrintMore
attribute [local go_sem] max2_int min2_int max_two min_two max_three min_three max_four min_four
set_option linter.unusedVariables false
set_option linter.unusedSimpArgs false
def view_Less_p.f (k : Nat) (a0_0 : Int) (a0_1 : Int) (a1_0 : Int) (a1_1 : Int) : Option (Bool) := (cmp_Compare_int.f a0_0 a1_0).bind fun t1003 => ((cmp_Compare_int.f a0_1 a1_1).bind fun t1004 => ((cmp_Or_int.f k (([t1003, t1004] : List Int))).bind fun t1008 => (some (decide (t1008 < 0)))))
def view_Less_p.T1 : Bool × List (List Nat × List Nat) := (true, [([], []), ([0], [0]), ([], []), ([2], [2]), ([1, 3], [1, 3]), ([], []), ([5], [5]), ([], []), ([7], [7]), ([6, 8, 4], [6, 8]), ([4, 9], [4, 9]), ([10, 9], [10]), ([11], [11]), ([12, 11, 0, 1, 2, 3, 4, 5, 6, 7, 8, 9, 10, 11, 12], [12])])
def view_Less_p.B1 : List Nat := [0, 1, 0, 4, 15, 0, 32, 0, 128, 511, 1023, 2047, 4095, 8191]
theorem view_Less_p.tab1 : rtab .any (opsOf Try.f40 1) = view_Less_p.T1 := by kernel_rfl
theorem view_Less_p.bits1 : waitsOk view_Less_p.T1.2 view_Less_p.B1 = true := by kernel_rfl
set_option maxHeartbeats 8000000 in
set_option maxRecDepth 100000 in
theorem view_Less_p.calls (k : Nat) (a0_0 : Int) (a0_1 : Int) (a1_0 : Int) (a1_1 : Int) (r : Bool) (w : World) (h : view_Less_p.f k a0_0 a0_1 a1_0 a1_1 = some r) :
    Calls Try.prog 40 #[.agg #[.int .i64 a0_0, .int .i64 a0_1], .agg #[.int .i64 a1_0, .int .i64 a1_1]] w fun e w' => e = .returned (.bool r) ∧ Below w.heap.size w w' := by
  have hu57 := Try.underlying57; have HB := Aside0.mk (Below.refl w.heap.size w)
  have H : ((cmp_Compare_int.f a0_0 a1_0).bind fun t1003 => ((cmp_Compare_int.f a0_1 a1_1).bind fun t1004 => ((cmp_Or_int.f k (([t1003, t1004] : List Int))).bind fun t1008 => (some (decide (t1008 < 0)))))) = some r := h
  clear h; replace H := Option.bind_eq_some_iff.mp H
  obtain ⟨t1003, A30, H⟩ := H; replace H : ((cmp_Compare_int.f a0_1 a1_1).bind fun t1004 => ((cmp_Or_int.f k (([t1003, t1004] : List Int))).bind fun t1008 => (some (decide (t1008 < 0))))) = some r := H
  have A3 := Aside0.mk A30
  clear A30; replace H := Option.bind_eq_some_iff.mp H
  obtain ⟨t1004, A40, H⟩ := H; replace H : ((cmp_Or_int.f k (([t1003, t1004] : List Int))).bind fun t1008 => (some (decide (t1008 < 0)))) = some r := H
  have A4 := Aside0.mk A40
  clear A40; obtain ⟨y1005, hy1005⟩ : ∃ y_ : List Int, y_ = (([t1003, t1004] : List Int)) := ⟨_, rfl⟩
  replace H : ((cmp_Or_int.f k y1005).bind fun t1008 => (some (decide (t1008 < 0)))) = some r := by first | (rw [hy1005]; with_reducible exact H) | (have H2_ := (Option.bind_some _ _).symm.trans H; rw [hy1005]; with_reducible exact H2_) | (have H2_ := (Option.bind_some _ _).symm.trans H; with_reducible exact H2_) | with_reducible exact H | (rw [hy1005]; exact H) | exact H
  have Ny1005 := Aside0.mk hy1005
  clear hy1005; replace H := Option.bind_eq_some_iff.mp H
  obtain ⟨t1008, A50, H⟩ := H; replace H : (some (decide (t1008 < 0))) = some r := H
  have A5 := Aside0.mk A50
  clear A50; obtain rfl := Option.some.inj H
  go_enter Try.func40, Try.ntmps40
  try go_wp2_with (first | ((with_reducible refine gate_dst (N := 2) rfl ?_); refine box_event ?hg (N := 2) ?hd (cs := #[.int .i64 a0_0, .int .i64 a0_1]) (t := 57) ?hr ?_; (case hd => rfl); (case hg => rfl); (case hr => first | (go_simp; done) | (go_simp; rfl)); intro gb1001 hg w6 hbox hb; have n0_ := Aside0.mk (below_step (by repeat with_reducible first | exact HB.out | apply below_alloc | apply pw_below_drewN | apply below_drew1) hb); have n1_ := Aside0.mk (hbox); have n2_ := Aside0.mk ((by rw [hg]; exact (below_size (by repeat with_reducible first | exact HB.out | apply below_alloc | apply pw_below_drewN | apply below_drew1)) : w.heap.size ≤ gb1001)); have n3_ := Aside0.mk ((by rw [hg]; exact (below_size (by repeat with_reducible first | exact HB.out | apply below_alloc | apply pw_below_drewN | apply below_drew1)) : w.heap.size ≤ gb1001)); clear HB; have HB := n0_; have BK1001 := n1_; have GW1001 := n2_; have GE1001 := n3_; clear n0_ n1_ n2_ n3_; clear hb hbox hg) | ((with_reducible refine gate_dst (N := 3) rfl ?_); refine box_event ?hg (N := 3) ?hd (cs := #[.int .i64 a1_0, .int .i64 a1_1]) (t := 57) ?hr ?_; (case hd => rfl); (case hg => rfl); (case hr => first | (go_simp; done) | (go_simp; rfl)); intro gb1002 hg w7 hbox hb; have n0_ := Aside0.mk (blk_below (g := gb1001) (o := .cells #[.int .i64 a0_0, .int .i64 a0_1] 57 (0, 0)) (by (with_reducible repeat (first | refine blk_drewN ?_ _ | refine blk_drew ?_ | refine blk_alloc ?_ _)); exact BK1001.out) hb); have n1_ := Aside0.mk (below_step (by repeat (with_reducible first | exact HB.out | apply below_alloc | apply pw_below_drewN | apply below_drew1 | refine below_set ?_ GE1001.out)) hb); have n2_ := Aside0.mk (hbox); have n3_ := Aside0.mk ((by rw [hg]; exact (below_size (by repeat (with_reducible first | exact HB.out | apply below_alloc | apply pw_below_drewN | apply below_drew1 | refine below_set ?_ GE1001.out))) : w.heap.size ≤ gb1002)); have n4_ := Aside0.mk ((by rw [hg]; exact (below_size (by repeat (with_reducible first | exact HB.out | apply below_alloc | apply pw_below_drewN | apply below_drew1 | refine below_set ?_ GE1001.out))) : w.heap.size ≤ gb1002)); have n5_ := Aside0.mk ((by rw [hg]; exact Nat.ne_of_lt (blk_lt (g := gb1001) (o := .cells #[.int .i64 a0_0, .int .i64 a0_1] 57 (0, 0)) (by (with_reducible repeat (first | refine blk_drewN ?_ _ | refine blk_drew ?_ | refine blk_alloc ?_ _)); exact BK1001.out)) : gb1001 ≠ gb1002)); have n6_ := Aside0.mk ((by rw [hg]; exact Nat.ne_of_gt (blk_lt (g := gb1001) (o := .cells #[.int .i64 a0_0, .int .i64 a0_1] 57 (0, 0)) (by (with_reducible repeat (first | refine blk_drewN ?_ _ | refine blk_drew ?_ | refine blk_alloc ?_ _)); exact BK1001.out)) : gb1002 ≠ gb1001)); clear BK1001; clear HB; have BK1001 := n0_; have HB := n1_; have BK1002 := n2_; have GW1002 := n3_; have GE1002 := n4_; have NB1001_1002 := n5_; have NB1002_1001 := n6_; clear n0_ n1_ n2_ n3_ n4_ n5_ n6_; clear hb hbox hg))
  have n0_ := Aside0.mk (blk_drew BK1001.out)
  have n1_ := Aside0.mk (blk_drew BK1002.out)
  have n2_ := Aside0.mk (below_drew1 HB.out)
  clear BK1001; clear BK1002; clear HB; have BK1001 := n0_; have BK1002 := n1_; have HB := n2_; clear n0_ n1_ n2_; refine start_ (n := 14) (S := fun w' => w'.cell? ⟨gb1001, 0, none⟩ = some (.int .i64 a0_0) ∧ w'.cell? ⟨gb1001, 1, none⟩ = some (.int .i64 a0_1) ∧ w'.cell? ⟨gb1002, 0, none⟩ = some (.int .i64 a1_0) ∧ w'.cell? ⟨gb1002, 1, none⟩ = some (.int .i64 a1_1)) (ds := []) #[false, false, false, false, false, false, false, false, false, false, false, false, false, false] (by kernel_rfl) rfl rfl ⟨(blk_cell BK1001.out 0).trans rfl, (blk_cell BK1001.out 1).trans rfl, (blk_cell BK1002.out 0).trans rfl, (blk_cell BK1002.out 1).trans rfl⟩ (fun hHeld => ?_); refine with_tabW view_Less_p.tab1 view_Less_p.bits1 (fun HT_ HW_ => ?_)
  generalize w7.drew = w8 at BK1001 BK1002 HB hHeld ⊢
  refine pure_ (i := 0) (N := some 5) (v := ?_) (a' := ?_) #[true, false, false, false, false, false, false, false, false, false, false, false, false, false] rfl rfl (any_of HT_.out (by kernel_rfl)) (fun _ _ _ h => h) (Or.inl ⟨by rfl, ?_⟩) ?_ ?_
  rotate_left
  · intro w'; go_simp; with_reducible rfl
  rotate_left; · (simp only [Act.put, List.setIfInBounds_toArray, List.set_cons_zero, List.set_cons_succ, i64_w, i32_w]; rfl)
  refine pure_ (i := 2) (N := some 7) (v := ?_) (a' := ?_) #[true, false, true, false, false, false, false, false, false, false, false, false, false, false] rfl rfl (any_of HT_.out (by kernel_rfl)) (fun _ _ _ h => h) (Or.inl ⟨by rfl, ?_⟩) ?_ ?_
  rotate_left
  · intro w'; go_simp; with_reducible rfl
  rotate_left; · (simp only [Act.put, List.setIfInBounds_toArray, List.set_cons_zero, List.set_cons_succ, i64_w, i32_w]; rfl)
  refine pure_ (i := 5) (N := some 10) (v := ?_) (a' := ?_) #[true, false, true, false, false, true, false, false, false, false, false, false, false, false] rfl rfl (any_of HT_.out (by kernel_rfl)) (fun _ _ _ h => h) (Or.inl ⟨by rfl, ?_⟩) ?_ ?_
  rotate_left
  · intro w'; go_simp; with_reducible rfl
  rotate_left; · (simp only [Act.put, List.setIfInBounds_toArray, List.set_cons_zero, List.set_cons_succ, i64_w, i32_w]; rfl)
  refine pure_ (i := 7) (N := some 12) (v := ?_) (a' := ?_) #[true, false, true, false, false, true, false, true, false, false, false, false, false, false] rfl rfl (any_of HT_.out (by kernel_rfl)) (fun _ _ _ h => h) (Or.inl ⟨by rfl, ?_⟩) ?_ ?_
  rotate_left
  · intro w'; go_simp; with_reducible rfl
  rotate_left; · (simp only [Act.put, List.setIfInBounds_toArray, List.set_cons_zero, List.set_cons_succ, i64_w, i32_w]; rfl)
  refine take_ (i := 1) (N := some 6) (v := ?_) (a' := ?_) #[true, true, true, false, false, true, false, true, false, false, false, false, false, false] rfl rfl (take_ofW HT_.out HW_.out (by kernel_rfl)) (fun _ _ _ h => h) (Or.inl ⟨by rfl, ?_⟩) hHeld ?_ ?_
  rotate_left
  · rintro w' ⟨s0, s1, s2, s3⟩; go_simp; with_reducible rfl
  rotate_left; · (simp only [Act.put, List.setIfInBounds_toArray, List.set_cons_zero, List.set_cons_succ, i64_w, i32_w]; rfl)
  refine take_ (i := 3) (N := some 8) (v := ?_) (a' := ?_) #[true, true, true, true, false, true, false, true, false, false, false, false, false, false] rfl rfl (take_ofW HT_.out HW_.out (by kernel_rfl)) (fun _ _ _ h => h) (Or.inl ⟨by rfl, ?_⟩) hHeld ?_ ?_
  rotate_left
  · rintro w' ⟨s0, s1, s2, s3⟩; go_simp; with_reducible rfl
  rotate_left; · (simp only [Act.put, List.setIfInBounds_toArray, List.set_cons_zero, List.set_cons_succ, i64_w, i32_w]; rfl)
  refine take_ (i := 6) (N := some 11) (v := ?_) (a' := ?_) #[true, true, true, true, false, true, true, true, false, false, false, false, false, false] rfl rfl (take_ofW HT_.out HW_.out (by kernel_rfl)) (fun _ _ _ h => h) (Or.inl ⟨by rfl, ?_⟩) hHeld ?_ ?_
  rotate_left
  · rintro w' ⟨s0, s1, s2, s3⟩; go_simp; with_reducible rfl
  rotate_left; · (simp only [Act.put, List.setIfInBounds_toArray, List.set_cons_zero, List.set_cons_succ, i64_w, i32_w]; rfl)
  refine take_ (i := 8) (N := some 13) (v := ?_) (a' := ?_) #[true, true, true, true, false, true, true, true, true, false, false, false, false, false] rfl rfl (take_ofW HT_.out HW_.out (by kernel_rfl)) (fun _ _ _ h => h) (Or.inl ⟨by rfl, ?_⟩) hHeld ?_ ?_
  rotate_left
  · rintro w' ⟨s0, s1, s2, s3⟩; go_simp; with_reducible rfl
  rotate_left; · (simp only [Act.put, List.setIfInBounds_toArray, List.set_cons_zero, List.set_cons_succ, i64_w, i32_w]; rfl)
  refine one_ (i := 4) (N := some 9) #[true, true, true, true, true, true, true, true, true, false, false, false, false, false] rfl rfl (one_of HT_.out (by kernel_rfl)) (by decide) (fun K hK => ?_)
  refine goes_ Try.func81 (by kernel_rfl) rfl #[.int .i64 a0_0, .int .i64 a1_0] (by rfl) rfl rfl (by (try simp only [List.map_toArray, List.map_cons, List.map_nil]); first | done | rfl | (simp only [List.length_drop, List.length_take]; rfl)) ?_
  with_reducible refine (cmp_Compare_int.calls a0_0 a1_0 t1003 _ A3.out).mono ?_
  rintro e w' ⟨rfl, ⟨nd, rfl⟩⟩; refine ⟨_, rfl, ?_⟩
  refine hK.out _ _ ⟨(blk_cell BK1001.out 0).trans rfl, (blk_cell BK1001.out 1).trans rfl, (blk_cell BK1002.out 0).trans rfl, (blk_cell BK1002.out 1).trans rfl⟩ (fun hHeld => ?_)
  clear hK K; refine norm_ (a' := ?_) ?_ ?_
  rotate_left
  · show Act.put _ (some 9) _ = _
    simp only [Act.put, List.setIfInBounds_toArray, List.set_cons_zero, List.set_cons_succ, i64_w, i32_w]; rfl
  refine one_ (i := 9) (N := some 14) #[true, true, true, true, true, true, true, true, true, true, false, false, false, false] rfl rfl (one_of HT_.out (by kernel_rfl)) (by decide) (fun K hK => ?_)
  refine goes_ Try.func81 (by kernel_rfl) rfl #[.int .i64 a0_1, .int .i64 a1_1] (by rfl) rfl rfl (by (try simp only [List.map_toArray, List.map_cons, List.map_nil]); first | done | rfl | (simp only [List.length_drop, List.length_take]; rfl)) ?_
  with_reducible refine (cmp_Compare_int.calls a0_1 a1_1 t1004 _ A4.out).mono ?_
  rintro e w' ⟨rfl, ⟨nd, rfl⟩⟩; refine ⟨_, rfl, ?_⟩
  refine hK.out _ _ ⟨(blk_cell BK1001.out 0).trans rfl, (blk_cell BK1001.out 1).trans rfl, (blk_cell BK1002.out 0).trans rfl, (blk_cell BK1002.out 1).trans rfl⟩ (fun hHeld => ?_)
  clear hK K; refine norm_ (a' := ?_) ?_ ?_
  rotate_left
  · show Act.put _ (some 14) _ = _
    simp only [Act.put, List.setIfInBounds_toArray, List.set_cons_zero, List.set_cons_succ, i64_w, i32_w]; rfl
  refine one_ (i := 10) (N := some 15) #[true, true, true, true, true, true, true, true, true, true, true, false, false, false] rfl rfl (one_of HT_.out (by kernel_rfl)) (by decide) (fun K hK => ?_)
  refine Kd.R_lit_step (Kd.int .i64) _ 3 ?hg (N := 15) ?hd (xs := ([t1003, t1004] : List Int)) (inner := [.int .i64 t1003, .int .i64 t1004]) (ok := fun _ => True) (okp := fun _ => True) ?hr ?hp (fun _ hk => hk) trivial (Below.refl _ _) (Nat.le_refl _) (by simp) ?_; (case hd => rfl); (case hg => rfl); (case hr => first | (go_simp; done) | (go_simp; rfl)); (case hp => exact (Reps.one (show Kd.M (Kd.int .i64) _ _ _ t1003 [.int .i64 t1003] from rfl) (Reps.one (show Kd.M (Kd.int .i64) _ _ _ t1004 [.int .i64 t1004] from rfl) (Reps.none _ _))))
  intro v1006 w9 ho10 hb hg_ hnew_; clear hg_ hnew_; (first | rw [← Ny1005.out] at ho10 | (simp only [Int.reduceToNat] at ho10; rw [← Ny1005.out] at ho10)); have n0_ := Aside0.mk (Kd.R_lower ho10 (below_size (by repeat (first | (with_reducible first | exact HB.out | apply below_alloc | apply pw_below_drewN | apply below_drew1 | refine below_set ?_ GE1001.out | refine below_set ?_ GE1002.out) | exact HB.out))))
  have n1_ := Aside0.mk (blk_below (g := gb1001) (o := .cells #[.int .i64 a0_0, .int .i64 a0_1] 57 (0, 0)) (by (with_reducible repeat (first | refine blk_drewN ?_ _ | refine blk_drew ?_ | refine blk_alloc ?_ _)); exact BK1001.out) hb)
  have n2_ := Aside0.mk (blk_below (g := gb1002) (o := .cells #[.int .i64 a1_0, .int .i64 a1_1] 57 (0, 0)) (by (with_reducible repeat (first | refine blk_drewN ?_ _ | refine blk_drew ?_ | refine blk_alloc ?_ _)); exact BK1002.out) hb)
  have n3_ := Aside0.mk (below_step (by repeat (first | (with_reducible first | exact HB.out | apply below_alloc | apply pw_below_drewN | apply below_drew1 | refine below_set ?_ GE1001.out | refine below_set ?_ GE1002.out) | exact HB.out)) hb)
  clear BK1001; clear BK1002; clear HB; have HO1007 := n0_; have BK1001 := n1_; have BK1002 := n2_; have HB := n3_; clear n0_ n1_ n2_ n3_; clear hb ho10; obtain ⟨Ao11, co11, eo11⟩ := Kd.R_slice HO1007.out; (first | subst eo11 | (injection eo11 with f1_ f2_ f3_; have f4_ := f1_.symm; have f5_ := f3_.symm; clear f1_ f2_ f3_; subst f4_; subst f5_)); refine hK.out _ _ ⟨(blk_cell BK1001.out 0).trans rfl, (blk_cell BK1001.out 1).trans rfl, (blk_cell BK1002.out 0).trans rfl, (blk_cell BK1002.out 1).trans rfl⟩ (fun hHeld => ?_)
  clear hK K; refine norm_ (a' := ?_) ?_ ?_
  rotate_left
  · show Act.put _ (some 15) _ = _
    simp only [Act.put, List.setIfInBounds_toArray, List.set_cons_zero, List.set_cons_succ, i64_w, i32_w]; rfl
  refine one_ (i := 11) (N := some 16) #[true, true, true, true, true, true, true, true, true, true, true, true, false, false] rfl rfl (one_of HT_.out (by kernel_rfl)) (by decide) (fun K hK => ?_)
  refine goes_ Try.func80 (by kernel_rfl) rfl #[.slice Ao11 y1005.length co11] (by rfl) rfl rfl (by (try simp only [List.map_toArray, List.map_cons, List.map_nil]); first | done | rfl | (simp only [List.length_drop, List.length_take]; rfl)) ?_
  with_reducible refine (cmp_Or_int.calls k _ _ y1005 t1008 _ ?side1 ?side2 A5.out).mono ?_
  (case side1 => repeat (first | exact (Kd.R_reads' HO1007.out).2.2 | (with_reducible refine Kd.C_alloc ?_ _) | (with_reducible refine Kd.C_drewN ?_ _) | (with_reducible refine Kd.C_drew ?_))); (case side2 => exact (Kd.R_reads' HO1007.out).2.1); rintro e w' ⟨rfl, ⟨nd, rfl⟩⟩; refine ⟨_, rfl, ?_⟩
  refine hK.out _ _ ⟨(blk_cell BK1001.out 0).trans rfl, (blk_cell BK1001.out 1).trans rfl, (blk_cell BK1002.out 0).trans rfl, (blk_cell BK1002.out 1).trans rfl⟩ (fun hHeld => ?_)
  clear hK K; refine norm_ (a' := ?_) ?_ ?_
  rotate_left
  · show Act.put _ (some 16) _ = _
    simp only [Act.put, List.setIfInBounds_toArray, List.set_cons_zero, List.set_cons_succ, i64_w, i32_w]; rfl
  refine pure_ (i := 12) (N := some 17) (v := ?_) (a' := ?_) #[true, true, true, true, true, true, true, true, true, true, true, true, true, false] rfl rfl (any_of HT_.out (by kernel_rfl)) (fun _ _ _ h => h) (Or.inl ⟨by rfl, ?_⟩) ?_ ?_
  rotate_left
  · intro w'; go_simp; with_reducible rfl
  rotate_left; · (simp only [Act.put, List.setIfInBounds_toArray, List.set_cons_zero, List.set_cons_succ, i64_w, i32_w]; rfl)
  refine pure_ (i := 13) (N := some 4) (v := ?_) (a' := ?_) #[true, true, true, true, true, true, true, true, true, true, true, true, true, true] rfl rfl (any_of HT_.out (by kernel_rfl)) (fun _ _ _ h => h) (Or.inl ⟨by rfl, ?_⟩) ?_ ?_
  rotate_left
  · intro w'; go_simp; with_reducible rfl
  rotate_left; · (simp only [Act.put, List.setIfInBounds_toArray, List.set_cons_zero, List.set_cons_succ, i64_w, i32_w]; rfl)
  refine done_ (done_of HT_.out (by kernel_rfl)) ?_
  try go_wp2
  go_ret
  exact ⟨by first | rfl | (simp [errW_none, errW_some] <;> rfl) | (simp [*, errW_none, errW_some] <;> rfl), by repeat (first | (with_reducible first | exact HB.out | apply below_alloc | apply pw_below_drewN | apply below_drew1 | refine below_set ?_ GE1001.out | refine below_set ?_ GE1002.out) | exact HB.out)⟩
def view_Less.f (a0_0 a0_1 a1_0 a1_1 : Int) : Option Bool := some (decide (a0_0 < a1_0 ∨ a0_0 = a1_0 ∧ a0_1 < a1_1))
theorem view_Less.eq (a b c d : Int) : view_Less_p.f 4 a b c d = view_Less.f a b c d := by
  have hc : ∀ x y : Int, cmp_Compare_int.f x y = some (if x < y then -1 else if x > y then 1 else 0) := by
    intro x y; unfold cmp_Compare_int.f cmp_isNaN_int.f
    have h1 : (x != x) = false := by simp
    have h2 : (y != y) = false := by simp
    simp only [Option.bind_some, h1, h2]; rw [if_neg (by simp), if_neg (by simp)]
    split
    · rfl
    · split <;> rfl
  have ho : ∀ x y : Int, cmp_Or_int.f 4 [x, y] = some (if x = 0 then y else x) := by
    intro x y; unfold cmp_Or_int.f
    by_cases hx : x = 0
    · by_cases hy : y = 0
      · subst hx hy; simp [cmp_Or_int.l0, rd, wrap64]
      · subst hx; simp [cmp_Or_int.l0, rd, wrap64, hy]
    · simp [cmp_Or_int.l0, rd, wrap64, hx]
  unfold view_Less_p.f view_Less.f
  rw [hc, hc]
  simp only [Option.bind_some]; rw [ho]
  simp only [Option.bind_some]; congr 1
  rw [decide_eq_decide]
  repeat' split
  all_goals omega
theorem view_Less.calls (a0_0 : Int) (a0_1 : Int) (a1_0 : Int) (a1_1 : Int) (r : Bool) (w : World) (h : view_Less.f a0_0 a0_1 a1_0 a1_1 = some r) :
    Calls Try.prog 40 #[.agg #[.int .i64 a0_0, .int .i64 a0_1], .agg #[.int .i64 a1_0, .int .i64 a1_1]] w fun e w' => e = .returned (.bool r) ∧ Below w.heap.size w w' :=
  view_Less_p.calls 4 a0_0 a0_1 a1_0 a1_1 r w ((view_Less.eq ..).trans h)
end Go.Proofs.Ytagceackfnkifaa.F
