import Derived.Test.YtpfpmjdifnoeoaaMSealOldF0
import Derived.Test.YtpfpmjdifnoeoaaMSealOldF56
import Derived.Test.YtpfpmjdifnoeoaaMSealOldF59
import Derived.Test.YtpfpmjdifnoeoaaMSealOldF61
import Derived.Test.YtpfpmjdifnoeoaaMSealOldF63
import Derived.Test.YtpfpmjdifnoeoaaMSealOldF64
import Derived.Test.YtpfpmjdifnoeoaaMSealOldB1
namespace Go.Proofs.Ytpfpmjdifnoeoaa.F
open Go.RowKit Go.Proofs.YtpfpmjdifnoeoaaW.PrintWords Go.Proofs.YtpfpmjdifnoeoaaW.PrintLast Go.Proofs.YtpfpmjdifnoeoaaW.PrintMore
attribute [local go_sem] max2_int min2_int max_two min_two max_three min_three max_four min_four
set_option linter.unusedVariables false
set_option linter.unusedSimpArgs false
mutual
def gemotlaw17_SealOld.j0 : Nat → Int → Int → Int → Int → ByteArray → Bool → Bool → Option (Bool)
  | 0, _, _, _, _, _, _, _ => none
  | k + 1, x0, x1, x2, x3, x4, x11, x27 => if x27 = true then (some x11) else ((gemotlaw17_of.f x1).bind fun bt1002 => ((term_Name.f x0).bind fun t1008 => ((gemotlaw17_pick.f x2 8).bind fun t1009 => ((gemotlaw17_pick.f x3 32).bind fun t1010 => ((seal_Close.f t1008 bt1002.1 bt1002.2.1 bt1002.2.2 (wrap64 (1 + t1009)) (wrap64 (1 + t1010)) x4).bind fun bt1011 => (if bt1011.2 = 0 then (gemotlaw17_SealOld.l0 k x0 x2 x3 x4 bt1011.1 0 1 bt1002.1 bt1002.2.1 bt1002.2.2) else (none)))))))
def gemotlaw17_SealOld.l0 : Nat → Int → Int → Int → ByteArray → ByteArray → Int → Int → Int → Int → List Int → Option (Bool)
  | 0, _, _, _, _, _, _, _, _, _, _ => none
  | k + 1, x0, x2, x3, x4, x13, x15, x16, x1008000, x1008001, x1008002 => if x16 ≤ 8 then (gemotlaw17_SealOld.l1 k x0 x2 x3 x4 x13 x15 x16 1 x1008000 x1008001 x1008002) else (some (x15 == 1))
def gemotlaw17_SealOld.l1 : Nat → Int → Int → Int → ByteArray → ByteArray → Int → Int → Int → Int → Int → List Int → Option (Bool)
  | 0, _, _, _, _, _, _, _, _, _, _, _ => none
  | k + 1, x0, x2, x3, x4, x13, x15, x16, x17, x1008000, x1008001, x1008002 => if x17 ≤ 32 then ((term_Name.f x0).bind fun t1013 => ((seal_Open.f t1013 x1008000 x1008001 x1008002 x16 x17 x13).bind fun bt1014 => (if bt1014.2 = 0 then (if bt1014.1.toList = x4.toList then ((gemotlaw17_pick.f x2 8).bind fun t1016 => (if x16 = (wrap64 (1 + t1016)) then ((gemotlaw17_pick.f x3 32).bind fun t1017 => (if x17 = (wrap64 (1 + t1017)) then (gemotlaw17_SealOld.l1 k x0 x2 x3 x4 x13 (wrap64 (x15 + 1)) x16 (wrap64 (x17 + 1)) x1008000 x1008001 x1008002) else (none))) else (none))) else (none)) else (if bt1014.2 = 7 then (if bt1014.1.toList = ([] : List UInt8) then (gemotlaw17_SealOld.l1 k x0 x2 x3 x4 x13 x15 x16 (wrap64 (x17 + 1)) x1008000 x1008001 x1008002) else (none)) else (none))))) else (gemotlaw17_SealOld.l0 k x0 x2 x3 x4 x13 x15 (wrap64 (x16 + 1)) x1008000 x1008001 x1008002)
end
def gemotlaw17_SealOld.f (k : Nat) (a0 : Int) (a1 : Int) (a2 : Int) (a3 : Int) (a4 : ByteArray) : Option (Bool) := (gemotlaw17_shown.f).bind fun t1001 => (if t1001 = true then (gemotlaw17_SealOld.j0 k a0 a1 a2 a3 a4 t1001 (decide ((a4.size : Int) > 100))) else (gemotlaw17_SealOld.j0 k a0 a1 a2 a3 a4 t1001 true))
def gemotlaw17_SealOld.T5 : Bool × List (List Nat × List Nat) := (true, [([], []), ([0], [0]), ([], []), ([], []), ([3, 1], [3]), ([4], [4]), ([], []), ([6, 4], [6]), ([7], [7]), ([], []), ([1, 2, 5, 8, 9, 7], [1, 2, 5, 8, 9]), ([10], [10]), ([11], [11]), ([11], [11]), ([12, 10, 0, 1, 2, 3, 4, 5, 6, 7, 8, 9, 10, 11, 12], [12]), ([13, 14, 0, 1, 2, 3, 4, 5, 6, 7, 8, 9, 10, 11, 12, 13, 14], [13])])
def gemotlaw17_SealOld.B5 : List Nat := [0, 1, 0, 0, 11, 27, 0, 91, 219, 0, 1023, 2047, 4095, 4095, 8191, 32767]
theorem gemotlaw17_SealOld.tab5 : rtab .any (opsOf Try.f12 5) = gemotlaw17_SealOld.T5 := by kernel_rfl
theorem gemotlaw17_SealOld.bits5 : waitsOk gemotlaw17_SealOld.T5.2 gemotlaw17_SealOld.B5 = true := by kernel_rfl
def gemotlaw17_SealOld.T15 : Bool × List (List Nat × List Nat) := (true, [([], []), ([0], [0]), ([], []), ([], []), ([], []), ([], []), ([1, 2, 3, 4, 5, 1], [1, 2, 3, 4, 5]), ([6], [6]), ([7], [7]), ([7], [7]), ([8, 6, 0, 1, 2, 3, 4, 5, 6, 7, 8], [8]), ([9, 10, 0, 1, 2, 3, 4, 5, 6, 7, 8, 9, 10], [9])])
def gemotlaw17_SealOld.B15 : List Nat := [0, 1, 0, 0, 0, 0, 63, 127, 255, 255, 511, 2047]
theorem gemotlaw17_SealOld.tab15 : rtab .any (opsOf Try.f12 15) = gemotlaw17_SealOld.T15 := by kernel_rfl
theorem gemotlaw17_SealOld.bits15 : waitsOk gemotlaw17_SealOld.T15.2 gemotlaw17_SealOld.B15 = true := by kernel_rfl
set_option maxHeartbeats 8000000 in
set_option maxRecDepth 100000 in
theorem gemotlaw17_SealOld.calls (k : Nat) (a0 : Int) (a1 : Int) (a2 : Int) (a3 : Int) (a4 : ByteArray) (r : Bool) (w : World) (h : gemotlaw17_SealOld.f k a0 a1 a2 a3 a4 = some r) :
    Calls Try.prog 12 #[.int .u64 a0, .int .i64 a1, .int .i64 a2, .int .i64 a3, .string a4] w fun e w' => e = .returned (.bool r) ∧ Below w.heap.size w w' := by
  have hu65 := Try.underlying65; have HB := Aside0.mk (Below.refl w.heap.size w)
  have H : ((gemotlaw17_shown.f).bind fun t1001 => (if t1001 = true then (gemotlaw17_SealOld.j0 k a0 a1 a2 a3 a4 t1001 (decide ((a4.size : Int) > 100))) else (gemotlaw17_SealOld.j0 k a0 a1 a2 a3 a4 t1001 true))) = some r := h
  clear h; replace H := Option.bind_eq_some_iff.mp H
  obtain ⟨t1001, A60, H⟩ := H; replace H : (if t1001 = true then (gemotlaw17_SealOld.j0 k a0 a1 a2 a3 a4 t1001 (decide ((a4.size : Int) > 100))) else (gemotlaw17_SealOld.j0 k a0 a1 a2 a3 a4 t1001 true)) = some r := H
  have A6 := Aside0.mk A60
  clear A60; have HC7 := Aside0.mk H
  clear H; go_enter Try.func12, Try.ntmps12
  go_upto_region 2 with (first | ((with_reducible refine gate_callee (f := 56) rfl ?_); refine goesL_ (some 20) rfl rfl Try.func56 (by kernel_rfl) rfl #[] rfl (by simp only [List.map_toArray, List.map_cons, List.map_nil] <;> rfl) ?_; (with_reducible refine (gemotlaw17_shown.calls  t1001 _ A6.out).mono ?_); rintro e w8 ⟨rfl, hb⟩; refine ⟨_, rfl, ?_⟩; have n0_ := Aside0.mk (below_step (by repeat with_reducible first | exact HB.out | apply below_alloc | apply pw_below_drewN | apply below_drew1) hb); clear HB; have HB := n0_; clear n0_; (try clear hb)))
  (try simp only [Act.put, List.setIfInBounds_toArray, List.set_cons_zero, List.set_cons_succ]); go_cut [27] (fun v27 wc => ∃ (kq : Nat) (x27_6 : Bool), v27 = .bool x27_6 ∧ Aside0 (gemotlaw17_SealOld.j0 kq a0 a1 a2 a3 a4 t1001 x27_6 = some r) ∧ Aside0 (kq ≤ k) ∧ Aside0 (Below w.heap.size w wc))
  case first =>
    have H := HC7.out; clear HC7; by_cases c9 : t1001 = true
    · subst c9; have H1 : (gemotlaw17_SealOld.j0 k a0 a1 a2 a3 a4 true (decide ((a4.size : Int) > 100))) = some r := by rw [if_pos rfl] at H; exact H
      clear H; have H := H1; clear H1; have H' := Aside0.mk H
      clear H; go_wp2; go_meet
      case rel => exact ⟨_, (decide ((a4.size : Int) > 100)), (by first | rfl | (simp; done) | (simp [*]; done)), H', ⟨by first | omega | exact Nat.le_refl _⟩, ⟨by repeat (first | (with_reducible first | exact HB.out | apply below_alloc | apply pw_below_drewN | apply below_drew1) | exact HB.out)⟩⟩
    · replace c9 := Bool.eq_false_iff.mpr c9
      subst c9; have H1 : (gemotlaw17_SealOld.j0 k a0 a1 a2 a3 a4 false true) = some r := by rw [if_neg (show ¬ (false = true) by decide)] at H; exact H
      clear H; have H := H1; clear H1; have H' := Aside0.mk H
      clear H; go_wp2; go_meet
      case rel => exact ⟨_, (true), (by first | rfl | (simp; done) | (simp [*]; done)), H', ⟨by first | omega | exact Nat.le_refl _⟩, ⟨by repeat (first | (with_reducible first | exact HB.out | apply below_alloc | apply pw_below_drewN | apply below_drew1) | exact HB.out)⟩⟩
  case rest =>
    clear HC7; try clear c1
    try clear p2
    try clear c5
    try clear c9
    obtain ⟨kq, x27_6, rfl, HA, HJ6, HB⟩ := hcut; cases kq with
    | zero => exact absurd HA.out (by simp [gemotlaw17_SealOld.j0])
    | succ kj6 =>
      have H := HA.out; clear HA; simp only [gemotlaw17_SealOld.j0] at H; by_cases c10 : x27_6 = true
      · subst c10; have H1 : (some t1001) = some r := by rw [if_pos rfl] at H; exact H
        clear H; have H := H1; clear H1; obtain rfl := Option.some.inj H
        go_wp2; go_ret
        exact ⟨by first | rfl | (simp [errW_none, errW_some] <;> rfl) | (simp [*, errW_none, errW_some] <;> rfl), by repeat (first | (with_reducible first | exact HB.out | apply below_alloc | apply pw_below_drewN | apply below_drew1) | exact HB.out)⟩
      · replace c10 := Bool.eq_false_iff.mpr c10
        subst c10; have H1 : ((gemotlaw17_of.f a1).bind fun bt1002 => ((term_Name.f a0).bind fun t1008 => ((gemotlaw17_pick.f a2 8).bind fun t1009 => ((gemotlaw17_pick.f a3 32).bind fun t1010 => ((seal_Close.f t1008 bt1002.1 bt1002.2.1 bt1002.2.2 (wrap64 (1 + t1009)) (wrap64 (1 + t1010)) a4).bind fun bt1011 => (if bt1011.2 = 0 then (gemotlaw17_SealOld.l0 kj6 a0 a2 a3 a4 bt1011.1 0 1 bt1002.1 bt1002.2.1 bt1002.2.2) else (none))))))) = some r := by rw [if_neg (show ¬ (false = true) by decide)] at H; exact H
        clear H; have H := H1; clear H1; replace H := Option.bind_eq_some_iff.mp H
        obtain ⟨⟨t1002, t1003, t1004⟩, A110, H⟩ := H
        replace H : ((term_Name.f a0).bind fun t1008 => ((gemotlaw17_pick.f a2 8).bind fun t1009 => ((gemotlaw17_pick.f a3 32).bind fun t1010 => ((seal_Close.f t1008 t1002 t1003 t1004 (wrap64 (1 + t1009)) (wrap64 (1 + t1010)) a4).bind fun bt1011 => (if bt1011.2 = 0 then (gemotlaw17_SealOld.l0 kj6 a0 a2 a3 a4 bt1011.1 0 1 t1002 t1003 t1004) else (none)))))) = some r := H
        have A11 := Aside0.mk A110
        clear A110; replace H := Option.bind_eq_some_iff.mp H
        obtain ⟨t1008, A120, H⟩ := H; replace H : ((gemotlaw17_pick.f a2 8).bind fun t1009 => ((gemotlaw17_pick.f a3 32).bind fun t1010 => ((seal_Close.f t1008 t1002 t1003 t1004 (wrap64 (1 + t1009)) (wrap64 (1 + t1010)) a4).bind fun bt1011 => (if bt1011.2 = 0 then (gemotlaw17_SealOld.l0 kj6 a0 a2 a3 a4 bt1011.1 0 1 t1002 t1003 t1004) else (none))))) = some r := H
        have A12 := Aside0.mk A120
        clear A120; replace H := Option.bind_eq_some_iff.mp H
        obtain ⟨t1009, A130, H⟩ := H; replace H : ((gemotlaw17_pick.f a3 32).bind fun t1010 => ((seal_Close.f t1008 t1002 t1003 t1004 (wrap64 (1 + t1009)) (wrap64 (1 + t1010)) a4).bind fun bt1011 => (if bt1011.2 = 0 then (gemotlaw17_SealOld.l0 kj6 a0 a2 a3 a4 bt1011.1 0 1 t1002 t1003 t1004) else (none)))) = some r := H
        have A13 := Aside0.mk A130
        clear A130; replace H := Option.bind_eq_some_iff.mp H
        obtain ⟨t1010, A140, H⟩ := H; replace H : ((seal_Close.f t1008 t1002 t1003 t1004 (wrap64 (1 + t1009)) (wrap64 (1 + t1010)) a4).bind fun bt1011 => (if bt1011.2 = 0 then (gemotlaw17_SealOld.l0 kj6 a0 a2 a3 a4 bt1011.1 0 1 t1002 t1003 t1004) else (none))) = some r := H
        have A14 := Aside0.mk A140
        clear A140; replace H := Option.bind_eq_some_iff.mp H
        obtain ⟨⟨t1011, t1012⟩, A150, H⟩ := H
        replace H : (if t1012 = 0 then (gemotlaw17_SealOld.l0 kj6 a0 a2 a3 a4 t1011 0 1 t1002 t1003 t1004) else (none)) = some r := H
        have A15 := Aside0.mk A150
        clear A150; by_cases c16 : t1012 = 0
        · rw [if_pos c16] at H
          have c16b0 : (t1012 == 0) = true := beq_iff_eq.mpr c16
          have c16b1 : (t1012 != 0) = false := bne_eq_false_iff_eq.mpr c16
          clear c16; have H' := Aside0.mk H
          clear H; try go_wp2_with (first | ((with_reducible refine gate_callee (f := 63) rfl ?_); refine goesL_ (some 30) rfl rfl Try.func63 (by kernel_rfl) rfl #[.int .i64 a1] rfl (by simp only [List.map_toArray, List.map_cons, List.map_nil] <;> rfl) ?_; (with_reducible refine (gemotlaw17_of.calls a1 t1002 t1003 t1004 _ A11.out).mono ?_); rintro e w17 ⟨v1005, rfl, ho0, hb⟩; refine ⟨_, rfl, ?_⟩; have n0_ := Aside0.mk (Kd.V_lower (Kd.V_mono (ok' := fun k_ => True) ho0 (fun k_ hk_ => trivial)) (below_size (by repeat with_reducible first | exact HB.out | apply below_alloc | apply pw_below_drewN | apply below_drew1))); have n1_ := Aside0.mk (below_step (by repeat with_reducible first | exact HB.out | apply below_alloc | apply pw_below_drewN | apply below_drew1) hb); clear HB; have HO1006 := n0_; have HB := n1_; clear n0_ n1_; (try clear hb); (try clear ho0)) | ((with_reducible refine gate_dst (N := 12) rfl ?_); refine box_event ?hg (N := 12) ?hd (cs := #[.int .i64 0, .int .i64 0, .slice none 0 0]) (t := 65) ?hr ?_; (case hd => rfl); (case hg => rfl); (case hr => first | (go_simp; done) | (go_simp; rfl)); intro gb1007 hg w18 hbox hb; have n0_ := Aside0.mk (Kd.V_below (Kd.V_elderB (by (with_reducible repeat (first | apply Kd.V_alloc | apply Kd.V_drewN | apply Kd.V_drew)); exact HO1006.out) gb1007 (Nat.le_of_eq hg.symm)) hb); have n1_ := Aside0.mk (below_step (by repeat with_reducible first | exact HB.out | apply below_alloc | apply pw_below_drewN | apply below_drew1) hb); have n2_ := Aside0.mk (hbox); have n3_ := Aside0.mk ((by rw [hg]; exact (below_size (by repeat with_reducible first | exact HB.out | apply below_alloc | apply pw_below_drewN | apply below_drew1)) : w.heap.size ≤ gb1007)); have n4_ := Aside0.mk ((by rw [hg]; exact (below_size (by repeat with_reducible first | exact HB.out | apply below_alloc | apply pw_below_drewN | apply below_drew1)) : w.heap.size ≤ gb1007)); clear HO1006; clear HB; have HO1006 := n0_; have HB := n1_; have BK1007 := n2_; have GW1007 := n3_; have GE1007 := n4_; clear n0_ n1_ n2_ n3_ n4_; clear hb hbox hg; have hcz19_0 : w18.cell? ⟨gb1007, 0, none⟩ = some (.int .i64 0) := (blk_cell BK1007.out 0).trans rfl; have hcz19_1 : w18.cell? ⟨gb1007, 1, none⟩ = some (.int .i64 0) := (blk_cell BK1007.out 1).trans rfl; have hcz19_2 : w18.cell? ⟨gb1007, 2, none⟩ = some (.slice none 0 0) := (blk_cell BK1007.out 2).trans rfl; have hfz19_0 := blk_frozen BK1007.out 0; have hfz19_1 := blk_frozen BK1007.out 1; have hfz19_2 := blk_frozen BK1007.out 2; obtain ⟨Ao20, co20, eo20⟩ := Kd.V_slice HO1006.out; subst eo20))
          have n0_ : Aside0 (Kd.V (Kd.int .i64) 3 (((w18.setCell ⟨gb1007, 0, none⟩ (.int .i64 t1002)).setCell ⟨gb1007, 1, none⟩ (.int .i64 t1003)).setCell ⟨gb1007, 2, none⟩ (.slice Ao20 t1004.length co20)) w.heap.size (fun k_ => k_ ≠ gb1007) (.slice Ao20 t1004.length co20) t1004) := ⟨by (with_reducible repeat (first | apply Kd.V_alloc | apply Kd.V_drewN | apply Kd.V_drew)); exact Kd.V_mono (Kd.V_far (p := ⟨gb1007, 2, none⟩) (Kd.V_far (p := ⟨gb1007, 1, none⟩) (Kd.V_far (p := ⟨gb1007, 0, none⟩) (Kd.V_mono HO1006.out (fun k_ hk => (⟨hk, hk.2⟩ : _ ∧ k_ ≠ gb1007))) (fun _ hk => hk.2) (.int .i64 t1002)) (fun _ hk => hk.2) (.int .i64 t1003)) (fun _ hk => hk.2) (.slice Ao20 t1004.length co20)) (fun _ hk => hk.1.2)⟩
          have n1_ : Aside0 ((((w18.setCell ⟨gb1007, 0, none⟩ (.int .i64 t1002)).setCell ⟨gb1007, 1, none⟩ (.int .i64 t1003)).setCell ⟨gb1007, 2, none⟩ (.slice Ao20 t1004.length co20)).heap[gb1007]? = some (.cells #[.int .i64 t1002, .int .i64 t1003, .slice Ao20 t1004.length co20] 65 (0, 0))) := ⟨by (with_reducible repeat (first | refine blk_drewN ?_ _ | refine blk_drew ?_ | refine blk_alloc ?_ _)); refine blk_put (cs := #[.int .i64 t1002, .int .i64 t1003, .slice none 0 0]) ?_ 2 _ rfl; (with_reducible repeat (first | refine blk_drewN ?_ _ | refine blk_drew ?_ | refine blk_alloc ?_ _)); refine blk_put (cs := #[.int .i64 t1002, .int .i64 0, .slice none 0 0]) ?_ 1 _ rfl; (with_reducible repeat (first | refine blk_drewN ?_ _ | refine blk_drew ?_ | refine blk_alloc ?_ _)); refine blk_put (cs := #[.int .i64 0, .int .i64 0, .slice none 0 0]) ?_ 0 _ rfl; (with_reducible repeat (first | refine blk_drewN ?_ _ | refine blk_drew ?_ | refine blk_alloc ?_ _)); exact BK1007.out⟩
          have n2_ : Aside0 (Below w.heap.size w (((w18.setCell ⟨gb1007, 0, none⟩ (.int .i64 t1002)).setCell ⟨gb1007, 1, none⟩ (.int .i64 t1003)).setCell ⟨gb1007, 2, none⟩ (.slice Ao20 t1004.length co20))) := ⟨by repeat (first | (with_reducible first | exact HB.out | apply below_alloc | apply pw_below_drewN | apply below_drew1 | refine below_set ?_ GE1007.out) | exact HB.out)⟩
          (try clear HO1006); (try clear BK1007); (try clear HB); generalize (((w18.setCell ⟨gb1007, 0, none⟩ (.int .i64 t1002)).setCell ⟨gb1007, 1, none⟩ (.int .i64 t1003)).setCell ⟨gb1007, 2, none⟩ (.slice Ao20 t1004.length co20)) = w21 at n0_ n1_ n2_ ⊢
          have HO1006 := n0_; have BK1007 := n1_; have HB := n2_; clear n0_ n1_ n2_; have n0_ := Aside0.mk (Kd.V_drew HO1006.out)
          have n1_ := Aside0.mk (blk_drew BK1007.out)
          have n2_ := Aside0.mk (below_drew1 HB.out)
          clear HO1006; clear BK1007; clear HB; have HO1006 := n0_; have BK1007 := n1_; have HB := n2_; clear n0_ n1_ n2_; refine start_ (n := 16) (S := fun w' => w'.cell? ⟨gb1007, 0, none⟩ = some (.int .i64 t1002) ∧ w'.cell? ⟨gb1007, 1, none⟩ = some (.int .i64 t1003) ∧ w'.cell? ⟨gb1007, 2, none⟩ = some (.slice Ao20 t1004.length co20)) (ds := []) #[false, false, false, false, false, false, false, false, false, false, false, false, false, false, false, false] (by kernel_rfl) rfl rfl ⟨(blk_cell BK1007.out 0).trans rfl, (blk_cell BK1007.out 1).trans rfl, (blk_cell BK1007.out 2).trans rfl⟩ (fun hHeld => ?_); refine with_tabW gemotlaw17_SealOld.tab5 gemotlaw17_SealOld.bits5 (fun HT_ HW_ => ?_)
          generalize w21.drew = w22 at HO1006 BK1007 HB hHeld ⊢
          refine pure_ (i := 0) (N := some 32) (v := ?_) (a' := ?_) #[true, false, false, false, false, false, false, false, false, false, false, false, false, false, false, false] rfl rfl (any_of HT_.out (by kernel_rfl)) (fun _ _ _ h => h) (Or.inl ⟨by rfl, ?_⟩) ?_ ?_
          rotate_left
          · intro w'; go_simp; with_reducible rfl
          rotate_left; · (simp only [Act.put, List.setIfInBounds_toArray, List.set_cons_zero, List.set_cons_succ, i64_w, i32_w]; rfl)
          refine pure_ (i := 3) (N := some 35) (v := ?_) (a' := ?_) #[true, false, false, true, false, false, false, false, false, false, false, false, false, false, false, false] rfl rfl (any_of HT_.out (by kernel_rfl)) (fun _ _ _ h => h) (Or.inl ⟨by rfl, ?_⟩) ?_ ?_
          rotate_left
          · intro w'; go_simp; with_reducible rfl
          rotate_left; · (simp only [Act.put, List.setIfInBounds_toArray, List.set_cons_zero, List.set_cons_succ, i64_w, i32_w]; rfl)
          refine pure_ (i := 6) (N := some 38) (v := ?_) (a' := ?_) #[true, false, false, true, false, false, true, false, false, false, false, false, false, false, false, false] rfl rfl (any_of HT_.out (by kernel_rfl)) (fun _ _ _ h => h) (Or.inl ⟨by rfl, ?_⟩) ?_ ?_
          rotate_left
          · intro w'; go_simp; with_reducible rfl
          rotate_left; · (simp only [Act.put, List.setIfInBounds_toArray, List.set_cons_zero, List.set_cons_succ, i64_w, i32_w]; rfl)
          refine pure_ (i := 9) (N := some 41) (v := ?_) (a' := ?_) #[true, false, false, true, false, false, true, false, false, true, false, false, false, false, false, false] rfl rfl (any_of HT_.out (by kernel_rfl)) (fun _ _ _ h => h) (Or.inl ⟨by rfl, ?_⟩) ?_ ?_
          rotate_left
          · intro w'; go_simp; with_reducible rfl
          rotate_left; · (simp only [Act.put, List.setIfInBounds_toArray, List.set_cons_zero, List.set_cons_succ, i64_w, i32_w]; rfl)
          refine take_ (i := 2) (N := some 34) (v := ?_) (a' := ?_) #[true, false, true, true, false, false, true, false, false, true, false, false, false, false, false, false] rfl rfl (take_ofW HT_.out HW_.out (by kernel_rfl)) (fun _ _ _ h => h) (Or.inl ⟨by rfl, ?_⟩) hHeld ?_ ?_
          rotate_left
          · rintro w' ⟨s0, s1, s2⟩; go_simp; with_reducible rfl
          rotate_left; · (simp only [Act.put, List.setIfInBounds_toArray, List.set_cons_zero, List.set_cons_succ, i64_w, i32_w]; rfl)
          refine one_ (i := 1) (N := some 33) #[true, true, true, true, false, false, true, false, false, true, false, false, false, false, false, false] rfl rfl (one_of HT_.out (by kernel_rfl)) (by decide) (fun K hK => ?_)
          refine goes_ Try.func65 (by kernel_rfl) rfl #[.int .u64 a0] (by rfl) rfl rfl (by (try simp only [List.map_toArray, List.map_cons, List.map_nil]); first | done | rfl | (simp only [List.length_drop, List.length_take]; rfl)) ?_
          with_reducible refine (term_Name.calls a0 t1008 _ A12.out).mono ?_
          rintro e w23 ⟨rfl, hb⟩; refine ⟨_, rfl, ?_⟩
          have n0_ := Aside0.mk (Kd.V_below (by (with_reducible repeat (first | apply Kd.V_alloc | apply Kd.V_drewN | apply Kd.V_drew)); exact HO1006.out) hb)
          have n1_ := Aside0.mk (blk_below (g := gb1007) (o := .cells #[.int .i64 t1002, .int .i64 t1003, .slice Ao20 t1004.length co20] 65 (0, 0)) (by (with_reducible repeat (first | refine blk_drewN ?_ _ | refine blk_drew ?_ | refine blk_alloc ?_ _)); exact BK1007.out) hb)
          have n2_ := Aside0.mk (below_step (by repeat (first | (with_reducible first | exact HB.out | apply below_alloc | apply pw_below_drewN | apply below_drew1 | refine below_set ?_ GE1007.out) | exact HB.out)) hb)
          clear HO1006; clear BK1007; clear HB; have HO1006 := n0_; have BK1007 := n1_; have HB := n2_; clear n0_ n1_ n2_; (try clear hb); (try clear hb2); (try clear hk); (try clear hi); refine hK.out _ _ ⟨(blk_cell BK1007.out 0).trans rfl, (blk_cell BK1007.out 1).trans rfl, (blk_cell BK1007.out 2).trans rfl⟩ (fun hHeld => ?_)
          clear hK K; refine norm_ (a' := ?_) ?_ ?_
          rotate_left
          · show Act.put _ (some 33) _ = _
            simp only [Act.put, List.setIfInBounds_toArray, List.set_cons_zero, List.set_cons_succ, i64_w, i32_w]; rfl
          refine one_ (i := 4) (N := some 36) #[true, true, true, true, true, false, true, false, false, true, false, false, false, false, false, false] rfl rfl (one_of HT_.out (by kernel_rfl)) (by decide) (fun K hK => ?_)
          refine goes_ Try.func64 (by kernel_rfl) rfl #[.int .i64 a2, .int .i64 8] (by rfl) rfl rfl (by (try simp only [List.map_toArray, List.map_cons, List.map_nil]); first | done | rfl | (simp only [List.length_drop, List.length_take]; rfl)) ?_
          with_reducible refine (gemotlaw17_pick.calls a2 8 t1009 _ A13.out).mono ?_
          rintro e w' ⟨rfl, ⟨nd, rfl⟩⟩; refine ⟨_, rfl, ?_⟩
          refine hK.out _ _ ⟨(blk_cell BK1007.out 0).trans rfl, (blk_cell BK1007.out 1).trans rfl, (blk_cell BK1007.out 2).trans rfl⟩ (fun hHeld => ?_)
          clear hK K; refine norm_ (a' := ?_) ?_ ?_
          rotate_left
          · show Act.put _ (some 36) _ = _
            simp only [Act.put, List.setIfInBounds_toArray, List.set_cons_zero, List.set_cons_succ, i64_w, i32_w]; rfl
          refine pure_ (i := 5) (N := some 37) (v := ?_) (a' := ?_) #[true, true, true, true, true, true, true, false, false, true, false, false, false, false, false, false] rfl rfl (any_of HT_.out (by kernel_rfl)) (fun _ _ _ h => h) (Or.inl ⟨by rfl, ?_⟩) ?_ ?_
          rotate_left
          · intro w'; go_simp; with_reducible rfl
          rotate_left; · (simp only [Act.put, List.setIfInBounds_toArray, List.set_cons_zero, List.set_cons_succ, i64_w, i32_w]; rfl)
          refine one_ (i := 7) (N := some 39) #[true, true, true, true, true, true, true, true, false, true, false, false, false, false, false, false] rfl rfl (one_of HT_.out (by kernel_rfl)) (by decide) (fun K hK => ?_)
          refine goes_ Try.func64 (by kernel_rfl) rfl #[.int .i64 a3, .int .i64 32] (by rfl) rfl rfl (by (try simp only [List.map_toArray, List.map_cons, List.map_nil]); first | done | rfl | (simp only [List.length_drop, List.length_take]; rfl)) ?_
          with_reducible refine (gemotlaw17_pick.calls a3 32 t1010 _ A14.out).mono ?_
          rintro e w' ⟨rfl, ⟨nd, rfl⟩⟩; refine ⟨_, rfl, ?_⟩
          refine hK.out _ _ ⟨(blk_cell BK1007.out 0).trans rfl, (blk_cell BK1007.out 1).trans rfl, (blk_cell BK1007.out 2).trans rfl⟩ (fun hHeld => ?_)
          clear hK K; refine norm_ (a' := ?_) ?_ ?_
          rotate_left
          · show Act.put _ (some 39) _ = _
            simp only [Act.put, List.setIfInBounds_toArray, List.set_cons_zero, List.set_cons_succ, i64_w, i32_w]; rfl
          refine pure_ (i := 8) (N := some 40) (v := ?_) (a' := ?_) #[true, true, true, true, true, true, true, true, true, true, false, false, false, false, false, false] rfl rfl (any_of HT_.out (by kernel_rfl)) (fun _ _ _ h => h) (Or.inl ⟨by rfl, ?_⟩) ?_ ?_
          rotate_left
          · intro w'; go_simp; with_reducible rfl
          rotate_left; · (simp only [Act.put, List.setIfInBounds_toArray, List.set_cons_zero, List.set_cons_succ, i64_w, i32_w]; rfl)
          refine one_ (i := 10) (N := some 42) #[true, true, true, true, true, true, true, true, true, true, true, false, false, false, false, false] rfl rfl (one_of HT_.out (by kernel_rfl)) (by decide) (fun K hK => ?_)
          refine goes_ Try.func59 (by kernel_rfl) rfl #[.string t1008, .agg #[.int .i64 t1002, .int .i64 t1003, .slice Ao20 t1004.length co20], .int .i64 (wrap64 (1 + t1009)), .int .i64 (wrap64 (1 + t1010)), .string a4] (by rfl) rfl rfl (by (try simp only [List.map_toArray, List.map_cons, List.map_nil]); first | done | rfl | (simp only [List.length_drop, List.length_take]; rfl)) ?_
          with_reducible refine (seal_Close.calls t1008 t1002 t1003 _ _ t1004 (wrap64 (1 + t1009)) (wrap64 (1 + t1010)) a4 t1011 t1012 _ ?side1 ?side2 A15.out).mono ?_
          (case side1 => repeat (first | exact (Kd.V_reads' HO1006.out).2.2 | (with_reducible refine Kd.C_alloc ?_ _) | (with_reducible refine Kd.C_drewN ?_ _) | (with_reducible refine Kd.C_drew ?_))); (case side2 => exact (Kd.V_reads' HO1006.out).2.1); rintro e w24 ⟨rfl, hb⟩; refine ⟨_, rfl, ?_⟩
          have n0_ := Aside0.mk (Kd.V_below (by (with_reducible repeat (first | apply Kd.V_alloc | apply Kd.V_drewN | apply Kd.V_drew)); exact HO1006.out) hb)
          have n1_ := Aside0.mk (blk_below (g := gb1007) (o := .cells #[.int .i64 t1002, .int .i64 t1003, .slice Ao20 t1004.length co20] 65 (0, 0)) (by (with_reducible repeat (first | refine blk_drewN ?_ _ | refine blk_drew ?_ | refine blk_alloc ?_ _)); exact BK1007.out) hb)
          have n2_ := Aside0.mk (below_step (by repeat (first | (with_reducible first | exact HB.out | apply below_alloc | apply pw_below_drewN | apply below_drew1 | refine below_set ?_ GE1007.out) | exact HB.out)) hb)
          clear HO1006; clear BK1007; clear HB; have HO1006 := n0_; have BK1007 := n1_; have HB := n2_; clear n0_ n1_ n2_; (try clear hb); (try clear hb2); (try clear hk); (try clear hi); refine hK.out _ _ ⟨(blk_cell BK1007.out 0).trans rfl, (blk_cell BK1007.out 1).trans rfl, (blk_cell BK1007.out 2).trans rfl⟩ (fun hHeld => ?_)
          clear hK K; refine norm_ (a' := ?_) ?_ ?_
          rotate_left
          · show Act.put _ (some 42) _ = _
            simp only [Act.put, List.setIfInBounds_toArray, List.set_cons_zero, List.set_cons_succ, i64_w, i32_w]; rfl
          refine pure_ (i := 11) (N := some 31) (v := ?_) (a' := ?_) #[true, true, true, true, true, true, true, true, true, true, true, true, false, false, false, false] rfl rfl (any_of HT_.out (by kernel_rfl)) (fun _ _ _ h => h) (Or.inl ⟨by rfl, ?_⟩) ?_ ?_
          rotate_left
          · intro w'; go_simp; with_reducible rfl
          rotate_left; · (simp only [Act.put, List.setIfInBounds_toArray, List.set_cons_zero, List.set_cons_succ, i64_w, i32_w]; rfl)
          refine pure_ (i := 12) (N := some 43) (v := ?_) (a' := ?_) #[true, true, true, true, true, true, true, true, true, true, true, true, true, false, false, false] rfl rfl (any_of HT_.out (by kernel_rfl)) (fun _ _ _ h => h) (Or.inl ⟨by rfl, ?_⟩) ?_ ?_
          rotate_left
          · intro w'; go_simp; with_reducible rfl
          rotate_left; · (simp only [Act.put, List.setIfInBounds_toArray, List.set_cons_zero, List.set_cons_succ, i64_w, i32_w]; rfl)
          refine pure_ (i := 13) (N := some 44) (v := ?_) (a' := ?_) #[true, true, true, true, true, true, true, true, true, true, true, true, true, true, false, false] rfl rfl (any_of HT_.out (by kernel_rfl)) (fun _ _ _ h => h) (Or.inl ⟨by rfl, ?_⟩) ?_ ?_
          rotate_left
          · intro w'; go_simp; with_reducible rfl
          rotate_left; · (simp only [Act.put, List.setIfInBounds_toArray, List.set_cons_zero, List.set_cons_succ, i64_w, i32_w]; rfl)
          refine pure_ (i := 14) (N := some 13) (v := ?_) (a' := ?_) #[true, true, true, true, true, true, true, true, true, true, true, true, true, true, true, false] rfl rfl (any_of HT_.out (by kernel_rfl)) (fun _ _ _ h => h) (Or.inl ⟨by rfl, ?_⟩) ?_ ?_
          rotate_left
          · intro w'; go_simp; with_reducible rfl
          rotate_left; · (simp only [Act.put, List.setIfInBounds_toArray, List.set_cons_zero, List.set_cons_succ, i64_w, i32_w]; rfl)
          refine pure_ (i := 15) (N := some 14) (v := ?_) (a' := ?_) #[true, true, true, true, true, true, true, true, true, true, true, true, true, true, true, true] rfl rfl (any_of HT_.out (by kernel_rfl)) (fun _ _ _ h => h) (Or.inl ⟨by rfl, ?_⟩) ?_ ?_
          rotate_left
          · intro w'; go_simp; with_reducible rfl
          rotate_left; · (simp only [Act.put, List.setIfInBounds_toArray, List.set_cons_zero, List.set_cons_succ, i64_w, i32_w]; rfl)
          refine done_ (done_of HT_.out (by kernel_rfl)) ?_
          try go_wp2
          go_loopg [15, 16] kj6 (fun kq v15 v16 w' => ∃ (x15_2 : Int) (x16_2 : Int), v15 = .int .i64 x15_2 ∧ v16 = .int .i64 x16_2 ∧ Aside0 (gemotlaw17_SealOld.l0 kq a0 a2 a3 a4 t1011 x15_2 x16_2 t1002 t1003 t1004 = some r) ∧ Aside0 (kq ≤ kj6) ∧ Aside0 (Kd.V (Kd.int .i64) 3 w' w.heap.size (fun k_ => k_ ≠ gb1007) (.slice Ao20 t1004.length co20) t1004) ∧ Aside0 (w'.heap[gb1007]? = some (.cells #[.int .i64 t1002, .int .i64 t1003, (.slice Ao20 t1004.length co20)] 65 (0, 0))) ∧ Aside0 (Below w.heap.size w w'))
          case atStart => exact ⟨(0), (1), (by first | rfl | (simp; done) | (simp [*]; done)), (by first | rfl | (simp; done) | (simp [*]; done)), H', ⟨Nat.le_refl _⟩, ⟨by (with_reducible repeat (first | apply Kd.V_alloc | apply Kd.V_drewN | apply Kd.V_drew)); exact HO1006.out⟩, ⟨by (with_reducible repeat (first | refine blk_drewN ?_ _ | refine blk_drew ?_ | refine blk_alloc ?_ _)); exact BK1007.out⟩, ⟨by repeat (first | (with_reducible first | exact HB.out | apply below_alloc | apply pw_below_drewN | apply below_drew1 | refine below_set ?_ GE1007.out) | exact HB.out)⟩⟩
          case round =>
            clear H'; try clear c1
            try clear p2
            try clear c5
            try clear c6
            try clear p6
            try clear c9
            try clear c10
            try clear c12
            try clear c16
            try clear c16b0
            try clear c16b1
            try clear hcz19_0
            try clear hcz19_1
            try clear hcz19_2
            try clear hfz19_0
            try clear hfz19_1
            try clear hfz19_2
            try clear p2
            obtain ⟨x15_2, x16_2, rfl, rfl, HA, HK2, HO_1008002, BK1007, HB⟩ := hrel; cases gk with
            | zero => exact absurd HA.out (by simp [gemotlaw17_SealOld.l0])
            | succ k2 =>
              have H := HA.out; clear HA; simp only [gemotlaw17_SealOld.l0] at H; by_cases c25 : x16_2 ≤ 8
              · rw [if_pos c25] at H
                have c25b0 : decide (x16_2 ≤ 8) = true := decide_eq_true c25
                clear c25; have H' := Aside0.mk H
                clear H; go_wp2; go_loopg [15, 17] k2 (fun kq v15 v17 w' => ∃ (x15_3 : Int) (x17_3 : Int), v15 = .int .i64 x15_3 ∧ v17 = .int .i64 x17_3 ∧ Aside0 (gemotlaw17_SealOld.l1 kq a0 a2 a3 a4 t1011 x15_3 x16_2 x17_3 t1002 t1003 t1004 = some r) ∧ Aside0 (kq ≤ k2) ∧ Aside0 (Kd.V (Kd.int .i64) 3 w' w.heap.size (fun k_ => k_ ≠ gb1007) (.slice Ao20 t1004.length co20) t1004) ∧ Aside0 (w'.heap[gb1007]? = some (.cells #[.int .i64 t1002, .int .i64 t1003, (.slice Ao20 t1004.length co20)] 65 (0, 0))) ∧ Aside0 (Below w.heap.size w w'))
                case atStart => exact ⟨(x15_2), (1), (by first | rfl | (simp; done) | (simp [*]; done)), (by first | rfl | (simp; done) | (simp [*]; done)), H', ⟨Nat.le_refl _⟩, ⟨by (with_reducible repeat (first | apply Kd.V_alloc | apply Kd.V_drewN | apply Kd.V_drew)); exact HO_1008002.out⟩, ⟨by (with_reducible repeat (first | refine blk_drewN ?_ _ | refine blk_drew ?_ | refine blk_alloc ?_ _)); exact BK1007.out⟩, ⟨by repeat (first | (with_reducible first | exact HB.out | apply below_alloc | apply pw_below_drewN | apply below_drew1 | refine below_set ?_ GE1007.out) | exact HB.out)⟩⟩
                case round =>
                  clear H'; try clear c1
                  try clear c2
                  try clear p2
                  try clear c5
                  try clear c6
                  try clear p6
                  try clear c9
                  try clear c10
                  try clear c12
                  try clear c16
                  try clear c16b0
                  try clear c16b1
                  try clear c25
                  try clear c25b0
                  try clear hcz19_0
                  try clear hcz19_1
                  try clear hcz19_2
                  try clear hfz19_0
                  try clear hfz19_1
                  try clear hfz19_2
                  try clear p2
                  try clear p6
                  obtain ⟨x15_3, x17_3, rfl, rfl, HA, HK3, HO_1008002, BK1007, HB⟩ := hrel; cases gk with
                  | zero => exact absurd HA.out (by simp [gemotlaw17_SealOld.l1])
                  | succ k3 =>
                    have H := HA.out; clear HA; simp only [gemotlaw17_SealOld.l1] at H; by_cases c26 : x17_3 ≤ 32
                    · rw [if_pos c26] at H
                      have c26b0 : decide (x17_3 ≤ 32) = true := decide_eq_true c26
                      clear c26; replace H := Option.bind_eq_some_iff.mp H
                      obtain ⟨t1013, A270, H⟩ := H; replace H : ((seal_Open.f t1013 t1002 t1003 t1004 x16_2 x17_3 t1011).bind fun bt1014 => (if bt1014.2 = 0 then (if bt1014.1.toList = a4.toList then ((gemotlaw17_pick.f a2 8).bind fun t1016 => (if x16_2 = (wrap64 (1 + t1016)) then ((gemotlaw17_pick.f a3 32).bind fun t1017 => (if x17_3 = (wrap64 (1 + t1017)) then (gemotlaw17_SealOld.l1 k3 a0 a2 a3 a4 t1011 (wrap64 (x15_3 + 1)) x16_2 (wrap64 (x17_3 + 1)) t1002 t1003 t1004) else (none))) else (none))) else (none)) else (if bt1014.2 = 7 then (if bt1014.1.toList = ([] : List UInt8) then (gemotlaw17_SealOld.l1 k3 a0 a2 a3 a4 t1011 x15_3 x16_2 (wrap64 (x17_3 + 1)) t1002 t1003 t1004) else (none)) else (none)))) = some r := H
                      have A27 := Aside0.mk A270
                      clear A270; replace H := Option.bind_eq_some_iff.mp H
                      obtain ⟨⟨t1014, t1015⟩, A280, H⟩ := H
                      replace H : (if t1015 = 0 then (if t1014.toList = a4.toList then ((gemotlaw17_pick.f a2 8).bind fun t1016 => (if x16_2 = (wrap64 (1 + t1016)) then ((gemotlaw17_pick.f a3 32).bind fun t1017 => (if x17_3 = (wrap64 (1 + t1017)) then (gemotlaw17_SealOld.l1 k3 a0 a2 a3 a4 t1011 (wrap64 (x15_3 + 1)) x16_2 (wrap64 (x17_3 + 1)) t1002 t1003 t1004) else (none))) else (none))) else (none)) else (if t1015 = 7 then (if t1014.toList = ([] : List UInt8) then (gemotlaw17_SealOld.l1 k3 a0 a2 a3 a4 t1011 x15_3 x16_2 (wrap64 (x17_3 + 1)) t1002 t1003 t1004) else (none)) else (none))) = some r := H
                      have A28 := Aside0.mk A280
                      clear A280; by_cases c29 : t1015 = 0
                      · rw [if_pos c29] at H
                        have c29b0 : (t1015 == 0) = true := beq_iff_eq.mpr c29
                        have c29b1 : (t1015 != 0) = false := bne_eq_false_iff_eq.mpr c29
                        clear c29; by_cases c30 : t1014.toList = a4.toList
                        · rw [if_pos c30] at H
                          have c30b0 : (t1014.toList == a4.toList) = true := beq_iff_eq.mpr c30
                          have c30b1 : (t1014.toList != a4.toList) = false := bne_eq_false_iff_eq.mpr c30
                          clear c30; replace H := Option.bind_eq_some_iff.mp H
                          obtain ⟨t1016, A310, H⟩ := H; replace H : (if x16_2 = (wrap64 (1 + t1016)) then ((gemotlaw17_pick.f a3 32).bind fun t1017 => (if x17_3 = (wrap64 (1 + t1017)) then (gemotlaw17_SealOld.l1 k3 a0 a2 a3 a4 t1011 (wrap64 (x15_3 + 1)) x16_2 (wrap64 (x17_3 + 1)) t1002 t1003 t1004) else (none))) else (none)) = some r := H
                          have A31 := Aside0.mk A310
                          clear A310; by_cases c32 : x16_2 = (wrap64 (1 + t1016))
                          · rw [if_pos c32] at H
                            have c32b0 : (x16_2 == (wrap64 (1 + t1016))) = true := beq_iff_eq.mpr c32
                            have c32b1 : (x16_2 != (wrap64 (1 + t1016))) = false := bne_eq_false_iff_eq.mpr c32
                            clear c32; replace H := Option.bind_eq_some_iff.mp H
                            obtain ⟨t1017, A330, H⟩ := H; replace H : (if x17_3 = (wrap64 (1 + t1017)) then (gemotlaw17_SealOld.l1 k3 a0 a2 a3 a4 t1011 (wrap64 (x15_3 + 1)) x16_2 (wrap64 (x17_3 + 1)) t1002 t1003 t1004) else (none)) = some r := H
                            have A33 := Aside0.mk A330
                            clear A330; by_cases c34 : x17_3 = (wrap64 (1 + t1017))
                            · rw [if_pos c34] at H
                              have c34b0 : (x17_3 == (wrap64 (1 + t1017))) = true := beq_iff_eq.mpr c34
                              have c34b1 : (x17_3 != (wrap64 (1 + t1017))) = false := bne_eq_false_iff_eq.mpr c34
                              clear c34; have H' := Aside0.mk H
                              clear H; try go_wp2
                              have n0_ := Aside0.mk (Kd.V_drew HO_1008002.out)
                              have n1_ := Aside0.mk (blk_drew BK1007.out)
                              have n2_ := Aside0.mk (below_drew1 HB.out)
                              clear HO_1008002; clear BK1007; clear HB; have HO_1008002 := n0_; have BK1007 := n1_; have HB := n2_; clear n0_ n1_ n2_; refine start_ (n := 12) (S := fun w' => w'.cell? ⟨gb1007, 0, none⟩ = some (.int .i64 t1002) ∧ w'.cell? ⟨gb1007, 1, none⟩ = some (.int .i64 t1003) ∧ w'.cell? ⟨gb1007, 2, none⟩ = some (.slice Ao20 t1004.length co20)) (ds := []) #[false, false, false, false, false, false, false, false, false, false, false, false] (by kernel_rfl) rfl rfl ⟨(blk_cell BK1007.out 0).trans rfl, (blk_cell BK1007.out 1).trans rfl, (blk_cell BK1007.out 2).trans rfl⟩ (fun hHeld => ?_); refine with_tabW gemotlaw17_SealOld.tab15 gemotlaw17_SealOld.bits15 (fun HT_ HW_ => ?_)
                              generalize wr.drew = w35 at HO_1008002 BK1007 HB hHeld ⊢
                              refine pure_ (i := 0) (N := some 56) (v := ?_) (a' := ?_) #[true, false, false, false, false, false, false, false, false, false, false, false] rfl rfl (any_of HT_.out (by kernel_rfl)) (fun _ _ _ h => h) (Or.inl ⟨by rfl, ?_⟩) ?_ ?_
                              rotate_left
                              · intro w'; go_simp; with_reducible rfl
                              rotate_left; · (simp only [Act.put, List.setIfInBounds_toArray, List.set_cons_zero, List.set_cons_succ, i64_w, i32_w]; rfl)
                              refine pure_ (i := 3) (N := some 59) (v := ?_) (a' := ?_) #[true, false, false, true, false, false, false, false, false, false, false, false] rfl rfl (any_of HT_.out (by kernel_rfl)) (fun _ _ _ h => h) (Or.inl ⟨by rfl, ?_⟩) ?_ ?_
                              rotate_left
                              · intro w'; go_simp; with_reducible rfl
                              rotate_left; · (simp only [Act.put, List.setIfInBounds_toArray, List.set_cons_zero, List.set_cons_succ, i64_w, i32_w]; rfl)
                              refine pure_ (i := 4) (N := some 60) (v := ?_) (a' := ?_) #[true, false, false, true, true, false, false, false, false, false, false, false] rfl rfl (any_of HT_.out (by kernel_rfl)) (fun _ _ _ h => h) (Or.inl ⟨by rfl, ?_⟩) ?_ ?_
                              rotate_left
                              · intro w'; go_simp; with_reducible rfl
                              rotate_left; · (simp only [Act.put, List.setIfInBounds_toArray, List.set_cons_zero, List.set_cons_succ, i64_w, i32_w]; rfl)
                              refine pure_ (i := 5) (N := some 61) (v := ?_) (a' := ?_) #[true, false, false, true, true, true, false, false, false, false, false, false] rfl rfl (any_of HT_.out (by kernel_rfl)) (fun _ _ _ h => h) (Or.inl ⟨by rfl, ?_⟩) ?_ ?_
                              rotate_left
                              · intro w'; go_simp; with_reducible rfl
                              rotate_left; · (simp only [Act.put, List.setIfInBounds_toArray, List.set_cons_zero, List.set_cons_succ, i64_w, i32_w]; rfl)
                              refine take_ (i := 2) (N := some 58) (v := ?_) (a' := ?_) #[true, false, true, true, true, true, false, false, false, false, false, false] rfl rfl (take_ofW HT_.out HW_.out (by kernel_rfl)) (fun _ _ _ h => h) (Or.inl ⟨by rfl, ?_⟩) hHeld ?_ ?_
                              rotate_left
                              · rintro w' ⟨s0, s1, s2⟩; go_simp; with_reducible rfl
                              rotate_left; · (simp only [Act.put, List.setIfInBounds_toArray, List.set_cons_zero, List.set_cons_succ, i64_w, i32_w]; rfl)
                              refine one_ (i := 1) (N := some 57) #[true, true, true, true, true, true, false, false, false, false, false, false] rfl rfl (one_of HT_.out (by kernel_rfl)) (by decide) (fun K hK => ?_)
                              refine goes_ Try.func65 (by kernel_rfl) rfl #[.int .u64 a0] (by rfl) rfl rfl (by (try simp only [List.map_toArray, List.map_cons, List.map_nil]); first | done | rfl | (simp only [List.length_drop, List.length_take]; rfl)) ?_
                              with_reducible refine (term_Name.calls a0 t1013 _ A27.out).mono ?_
                              rintro e w36 ⟨rfl, hb⟩; refine ⟨_, rfl, ?_⟩
                              have n0_ := Aside0.mk (Kd.V_below (by (with_reducible repeat (first | apply Kd.V_alloc | apply Kd.V_drewN | apply Kd.V_drew)); exact HO_1008002.out) hb)
                              have n1_ := Aside0.mk (blk_below (g := gb1007) (o := .cells #[.int .i64 t1002, .int .i64 t1003, .slice Ao20 t1004.length co20] 65 (0, 0)) (by (with_reducible repeat (first | refine blk_drewN ?_ _ | refine blk_drew ?_ | refine blk_alloc ?_ _)); exact BK1007.out) hb)
                              have n2_ := Aside0.mk (below_step (by repeat (first | (with_reducible first | exact HB.out | apply below_alloc | apply pw_below_drewN | apply below_drew1 | refine below_set ?_ GE1007.out) | exact HB.out)) hb)
                              clear HO_1008002; clear BK1007; clear HB; have HO_1008002 := n0_; have BK1007 := n1_; have HB := n2_; clear n0_ n1_ n2_; (try clear hb); (try clear hb2); (try clear hk); (try clear hi); refine hK.out _ _ ⟨(blk_cell BK1007.out 0).trans rfl, (blk_cell BK1007.out 1).trans rfl, (blk_cell BK1007.out 2).trans rfl⟩ (fun hHeld => ?_)
                              clear hK K; refine norm_ (a' := ?_) ?_ ?_
                              rotate_left
                              · show Act.put _ (some 57) _ = _
                                simp only [Act.put, List.setIfInBounds_toArray, List.set_cons_zero, List.set_cons_succ, i64_w, i32_w]; rfl
                              refine one_ (i := 6) (N := some 62) #[true, true, true, true, true, true, true, false, false, false, false, false] rfl rfl (one_of HT_.out (by kernel_rfl)) (by decide) (fun K hK => ?_)
                              refine goes_ Try.func61 (by kernel_rfl) rfl #[.string t1013, .agg #[.int .i64 t1002, .int .i64 t1003, .slice Ao20 t1004.length co20], .int .i64 x16_2, .int .i64 x17_3, .string t1011] (by rfl) rfl rfl (by (try simp only [List.map_toArray, List.map_cons, List.map_nil]); first | done | rfl | (simp only [List.length_drop, List.length_take]; rfl)) ?_
                              with_reducible refine (seal_Open.calls t1013 t1002 t1003 _ _ t1004 x16_2 x17_3 t1011 t1014 t1015 _ ?side1 ?side2 A28.out).mono ?_
                              (case side1 => repeat (first | exact (Kd.V_reads' HO_1008002.out).2.2 | (with_reducible refine Kd.C_alloc ?_ _) | (with_reducible refine Kd.C_drewN ?_ _) | (with_reducible refine Kd.C_drew ?_))); (case side2 => exact (Kd.V_reads' HO_1008002.out).2.1); rintro e w37 ⟨rfl, hb⟩; refine ⟨_, rfl, ?_⟩
                              have n0_ := Aside0.mk (Kd.V_below (by (with_reducible repeat (first | apply Kd.V_alloc | apply Kd.V_drewN | apply Kd.V_drew)); exact HO_1008002.out) hb)
                              have n1_ := Aside0.mk (blk_below (g := gb1007) (o := .cells #[.int .i64 t1002, .int .i64 t1003, .slice Ao20 t1004.length co20] 65 (0, 0)) (by (with_reducible repeat (first | refine blk_drewN ?_ _ | refine blk_drew ?_ | refine blk_alloc ?_ _)); exact BK1007.out) hb)
                              have n2_ := Aside0.mk (below_step (by repeat (first | (with_reducible first | exact HB.out | apply below_alloc | apply pw_below_drewN | apply below_drew1 | refine below_set ?_ GE1007.out) | exact HB.out)) hb)
                              clear HO_1008002; clear BK1007; clear HB; have HO_1008002 := n0_; have BK1007 := n1_; have HB := n2_; clear n0_ n1_ n2_; (try clear hb); (try clear hb2); (try clear hk); (try clear hi); refine hK.out _ _ ⟨(blk_cell BK1007.out 0).trans rfl, (blk_cell BK1007.out 1).trans rfl, (blk_cell BK1007.out 2).trans rfl⟩ (fun hHeld => ?_)
                              clear hK K; refine norm_ (a' := ?_) ?_ ?_
                              rotate_left
                              · show Act.put _ (some 62) _ = _
                                simp only [Act.put, List.setIfInBounds_toArray, List.set_cons_zero, List.set_cons_succ, i64_w, i32_w]; rfl
                              refine pure_ (i := 7) (N := some 55) (v := ?_) (a' := ?_) #[true, true, true, true, true, true, true, true, false, false, false, false] rfl rfl (any_of HT_.out (by kernel_rfl)) (fun _ _ _ h => h) (Or.inl ⟨by rfl, ?_⟩) ?_ ?_
                              rotate_left
                              · intro w'; go_simp; with_reducible rfl
                              rotate_left; · (simp only [Act.put, List.setIfInBounds_toArray, List.set_cons_zero, List.set_cons_succ, i64_w, i32_w]; rfl)
                              refine pure_ (i := 8) (N := some 63) (v := ?_) (a' := ?_) #[true, true, true, true, true, true, true, true, true, false, false, false] rfl rfl (any_of HT_.out (by kernel_rfl)) (fun _ _ _ h => h) (Or.inl ⟨by rfl, ?_⟩) ?_ ?_
                              rotate_left
                              · intro w'; go_simp; with_reducible rfl
                              rotate_left; · (simp only [Act.put, List.setIfInBounds_toArray, List.set_cons_zero, List.set_cons_succ, i64_w, i32_w]; rfl)
                              refine pure_ (i := 9) (N := some 64) (v := ?_) (a' := ?_) #[true, true, true, true, true, true, true, true, true, true, false, false] rfl rfl (any_of HT_.out (by kernel_rfl)) (fun _ _ _ h => h) (Or.inl ⟨by rfl, ?_⟩) ?_ ?_
                              rotate_left
                              · intro w'; go_simp; with_reducible rfl
                              rotate_left; · (simp only [Act.put, List.setIfInBounds_toArray, List.set_cons_zero, List.set_cons_succ, i64_w, i32_w]; rfl)
                              refine pure_ (i := 10) (N := some 18) (v := ?_) (a' := ?_) #[true, true, true, true, true, true, true, true, true, true, true, false] rfl rfl (any_of HT_.out (by kernel_rfl)) (fun _ _ _ h => h) (Or.inl ⟨by rfl, ?_⟩) ?_ ?_
                              rotate_left
                              · intro w'; go_simp; with_reducible rfl
                              rotate_left; · (simp only [Act.put, List.setIfInBounds_toArray, List.set_cons_zero, List.set_cons_succ, i64_w, i32_w]; rfl)
                              refine pure_ (i := 11) (N := some 19) (v := ?_) (a' := ?_) #[true, true, true, true, true, true, true, true, true, true, true, true] rfl rfl (any_of HT_.out (by kernel_rfl)) (fun _ _ _ h => h) (Or.inl ⟨by rfl, ?_⟩) ?_ ?_
                              rotate_left
                              · intro w'; go_simp; with_reducible rfl
                              rotate_left; · (simp only [Act.put, List.setIfInBounds_toArray, List.set_cons_zero, List.set_cons_succ, i64_w, i32_w]; rfl)
                              refine done_ (done_of HT_.out (by kernel_rfl)) ?_
                              try go_wp2_with (first | (go_at_call 64; (with_reducible refine (gemotlaw17_pick.calls a2 8 t1016 _ A31.out).mono ?_); rintro e w' ⟨rfl, ⟨nd, rfl⟩⟩) | (go_at_call 64; (with_reducible refine (gemotlaw17_pick.calls a3 32 t1017 _ A33.out).mono ?_); rintro e w' ⟨rfl, ⟨nd, rfl⟩⟩))
                              go_roundg k3
                              case measure => have := HJ6.out; have := HK2.out; have := HK3.out; omega
                              case rel => exact ⟨(wrap64 (x15_3 + 1)), (wrap64 (x17_3 + 1)), (by first | rfl | (simp; done) | (simp [*]; done)), (by first | rfl | (simp; done) | (simp [*]; done)), H', ⟨by have := HJ6.out; have := HK2.out; have := HK3.out; omega⟩, ⟨by (with_reducible repeat (first | apply Kd.V_alloc | apply Kd.V_drewN | apply Kd.V_drew)); exact HO_1008002.out⟩, ⟨by (with_reducible repeat (first | refine blk_drewN ?_ _ | refine blk_drew ?_ | refine blk_alloc ?_ _)); exact BK1007.out⟩, ⟨by repeat (first | (with_reducible first | exact HB.out | apply below_alloc | apply pw_below_drewN | apply below_drew1 | refine below_set ?_ GE1007.out) | exact HB.out)⟩⟩
                            · rw [if_neg c34] at H
                              exact absurd H (by simp)
                          · rw [if_neg c32] at H
                            exact absurd H (by simp)
                        · rw [if_neg c30] at H
                          exact absurd H (by simp)
                      · rw [if_neg c29] at H
                        have c29b0 : (t1015 == 0) = false := beq_eq_false_iff_ne.mpr c29
                        have c29b1 : (t1015 != 0) = true := bne_iff_ne.mpr c29
                        by_cases c47 : t1015 = 7
                        · rw [if_pos c47] at H
                          have c47b0 : (t1015 == 7) = true := beq_iff_eq.mpr c47
                          have c47b1 : (t1015 != 7) = false := bne_eq_false_iff_eq.mpr c47
                          clear c47; by_cases c48 : t1014.toList = ([] : List UInt8)
                          · rw [if_pos c48] at H
                            have c48b0 : (t1014.toList == ([] : List UInt8)) = true := beq_iff_eq.mpr c48
                            have c48b1 : (t1014.toList != ([] : List UInt8)) = false := bne_eq_false_iff_eq.mpr c48
                            clear c48; have H' := Aside0.mk H
                            clear H; try go_wp2
                            have n0_ := Aside0.mk (Kd.V_drew HO_1008002.out)
                            have n1_ := Aside0.mk (blk_drew BK1007.out)
                            have n2_ := Aside0.mk (below_drew1 HB.out)
                            clear HO_1008002; clear BK1007; clear HB; have HO_1008002 := n0_; have BK1007 := n1_; have HB := n2_; clear n0_ n1_ n2_; refine start_ (n := 12) (S := fun w' => w'.cell? ⟨gb1007, 0, none⟩ = some (.int .i64 t1002) ∧ w'.cell? ⟨gb1007, 1, none⟩ = some (.int .i64 t1003) ∧ w'.cell? ⟨gb1007, 2, none⟩ = some (.slice Ao20 t1004.length co20)) (ds := []) #[false, false, false, false, false, false, false, false, false, false, false, false] (by kernel_rfl) rfl rfl ⟨(blk_cell BK1007.out 0).trans rfl, (blk_cell BK1007.out 1).trans rfl, (blk_cell BK1007.out 2).trans rfl⟩ (fun hHeld => ?_); refine with_tabW gemotlaw17_SealOld.tab15 gemotlaw17_SealOld.bits15 (fun HT_ HW_ => ?_)
                            generalize wr.drew = w49 at HO_1008002 BK1007 HB hHeld ⊢
                            refine pure_ (i := 0) (N := some 56) (v := ?_) (a' := ?_) #[true, false, false, false, false, false, false, false, false, false, false, false] rfl rfl (any_of HT_.out (by kernel_rfl)) (fun _ _ _ h => h) (Or.inl ⟨by rfl, ?_⟩) ?_ ?_
                            rotate_left
                            · intro w'; go_simp; with_reducible rfl
                            rotate_left; · (simp only [Act.put, List.setIfInBounds_toArray, List.set_cons_zero, List.set_cons_succ, i64_w, i32_w]; rfl)
                            refine pure_ (i := 3) (N := some 59) (v := ?_) (a' := ?_) #[true, false, false, true, false, false, false, false, false, false, false, false] rfl rfl (any_of HT_.out (by kernel_rfl)) (fun _ _ _ h => h) (Or.inl ⟨by rfl, ?_⟩) ?_ ?_
                            rotate_left
                            · intro w'; go_simp; with_reducible rfl
                            rotate_left; · (simp only [Act.put, List.setIfInBounds_toArray, List.set_cons_zero, List.set_cons_succ, i64_w, i32_w]; rfl)
                            refine pure_ (i := 4) (N := some 60) (v := ?_) (a' := ?_) #[true, false, false, true, true, false, false, false, false, false, false, false] rfl rfl (any_of HT_.out (by kernel_rfl)) (fun _ _ _ h => h) (Or.inl ⟨by rfl, ?_⟩) ?_ ?_
                            rotate_left
                            · intro w'; go_simp; with_reducible rfl
                            rotate_left; · (simp only [Act.put, List.setIfInBounds_toArray, List.set_cons_zero, List.set_cons_succ, i64_w, i32_w]; rfl)
                            refine pure_ (i := 5) (N := some 61) (v := ?_) (a' := ?_) #[true, false, false, true, true, true, false, false, false, false, false, false] rfl rfl (any_of HT_.out (by kernel_rfl)) (fun _ _ _ h => h) (Or.inl ⟨by rfl, ?_⟩) ?_ ?_
                            rotate_left
                            · intro w'; go_simp; with_reducible rfl
                            rotate_left; · (simp only [Act.put, List.setIfInBounds_toArray, List.set_cons_zero, List.set_cons_succ, i64_w, i32_w]; rfl)
                            refine take_ (i := 2) (N := some 58) (v := ?_) (a' := ?_) #[true, false, true, true, true, true, false, false, false, false, false, false] rfl rfl (take_ofW HT_.out HW_.out (by kernel_rfl)) (fun _ _ _ h => h) (Or.inl ⟨by rfl, ?_⟩) hHeld ?_ ?_
                            rotate_left
                            · rintro w' ⟨s0, s1, s2⟩; go_simp; with_reducible rfl
                            rotate_left; · (simp only [Act.put, List.setIfInBounds_toArray, List.set_cons_zero, List.set_cons_succ, i64_w, i32_w]; rfl)
                            refine one_ (i := 1) (N := some 57) #[true, true, true, true, true, true, false, false, false, false, false, false] rfl rfl (one_of HT_.out (by kernel_rfl)) (by decide) (fun K hK => ?_)
                            refine goes_ Try.func65 (by kernel_rfl) rfl #[.int .u64 a0] (by rfl) rfl rfl (by (try simp only [List.map_toArray, List.map_cons, List.map_nil]); first | done | rfl | (simp only [List.length_drop, List.length_take]; rfl)) ?_
                            with_reducible refine (term_Name.calls a0 t1013 _ A27.out).mono ?_
                            rintro e w50 ⟨rfl, hb⟩; refine ⟨_, rfl, ?_⟩
                            have n0_ := Aside0.mk (Kd.V_below (by (with_reducible repeat (first | apply Kd.V_alloc | apply Kd.V_drewN | apply Kd.V_drew)); exact HO_1008002.out) hb)
                            have n1_ := Aside0.mk (blk_below (g := gb1007) (o := .cells #[.int .i64 t1002, .int .i64 t1003, .slice Ao20 t1004.length co20] 65 (0, 0)) (by (with_reducible repeat (first | refine blk_drewN ?_ _ | refine blk_drew ?_ | refine blk_alloc ?_ _)); exact BK1007.out) hb)
                            have n2_ := Aside0.mk (below_step (by repeat (first | (with_reducible first | exact HB.out | apply below_alloc | apply pw_below_drewN | apply below_drew1 | refine below_set ?_ GE1007.out) | exact HB.out)) hb)
                            clear HO_1008002; clear BK1007; clear HB; have HO_1008002 := n0_; have BK1007 := n1_; have HB := n2_; clear n0_ n1_ n2_; (try clear hb); (try clear hb2); (try clear hk); (try clear hi); refine hK.out _ _ ⟨(blk_cell BK1007.out 0).trans rfl, (blk_cell BK1007.out 1).trans rfl, (blk_cell BK1007.out 2).trans rfl⟩ (fun hHeld => ?_)
                            clear hK K; refine norm_ (a' := ?_) ?_ ?_
                            rotate_left
                            · show Act.put _ (some 57) _ = _
                              simp only [Act.put, List.setIfInBounds_toArray, List.set_cons_zero, List.set_cons_succ, i64_w, i32_w]; rfl
                            refine one_ (i := 6) (N := some 62) #[true, true, true, true, true, true, true, false, false, false, false, false] rfl rfl (one_of HT_.out (by kernel_rfl)) (by decide) (fun K hK => ?_)
                            refine goes_ Try.func61 (by kernel_rfl) rfl #[.string t1013, .agg #[.int .i64 t1002, .int .i64 t1003, .slice Ao20 t1004.length co20], .int .i64 x16_2, .int .i64 x17_3, .string t1011] (by rfl) rfl rfl (by (try simp only [List.map_toArray, List.map_cons, List.map_nil]); first | done | rfl | (simp only [List.length_drop, List.length_take]; rfl)) ?_
                            with_reducible refine (seal_Open.calls t1013 t1002 t1003 _ _ t1004 x16_2 x17_3 t1011 t1014 t1015 _ ?side1 ?side2 A28.out).mono ?_
                            (case side1 => repeat (first | exact (Kd.V_reads' HO_1008002.out).2.2 | (with_reducible refine Kd.C_alloc ?_ _) | (with_reducible refine Kd.C_drewN ?_ _) | (with_reducible refine Kd.C_drew ?_))); (case side2 => exact (Kd.V_reads' HO_1008002.out).2.1); rintro e w51 ⟨rfl, hb⟩; refine ⟨_, rfl, ?_⟩
                            have n0_ := Aside0.mk (Kd.V_below (by (with_reducible repeat (first | apply Kd.V_alloc | apply Kd.V_drewN | apply Kd.V_drew)); exact HO_1008002.out) hb)
                            have n1_ := Aside0.mk (blk_below (g := gb1007) (o := .cells #[.int .i64 t1002, .int .i64 t1003, .slice Ao20 t1004.length co20] 65 (0, 0)) (by (with_reducible repeat (first | refine blk_drewN ?_ _ | refine blk_drew ?_ | refine blk_alloc ?_ _)); exact BK1007.out) hb)
                            have n2_ := Aside0.mk (below_step (by repeat (first | (with_reducible first | exact HB.out | apply below_alloc | apply pw_below_drewN | apply below_drew1 | refine below_set ?_ GE1007.out) | exact HB.out)) hb)
                            clear HO_1008002; clear BK1007; clear HB; have HO_1008002 := n0_; have BK1007 := n1_; have HB := n2_; clear n0_ n1_ n2_; (try clear hb); (try clear hb2); (try clear hk); (try clear hi); refine hK.out _ _ ⟨(blk_cell BK1007.out 0).trans rfl, (blk_cell BK1007.out 1).trans rfl, (blk_cell BK1007.out 2).trans rfl⟩ (fun hHeld => ?_)
                            clear hK K; refine norm_ (a' := ?_) ?_ ?_
                            rotate_left
                            · show Act.put _ (some 62) _ = _
                              simp only [Act.put, List.setIfInBounds_toArray, List.set_cons_zero, List.set_cons_succ, i64_w, i32_w]; rfl
                            refine pure_ (i := 7) (N := some 55) (v := ?_) (a' := ?_) #[true, true, true, true, true, true, true, true, false, false, false, false] rfl rfl (any_of HT_.out (by kernel_rfl)) (fun _ _ _ h => h) (Or.inl ⟨by rfl, ?_⟩) ?_ ?_
                            rotate_left
                            · intro w'; go_simp; with_reducible rfl
                            rotate_left; · (simp only [Act.put, List.setIfInBounds_toArray, List.set_cons_zero, List.set_cons_succ, i64_w, i32_w]; rfl)
                            refine pure_ (i := 8) (N := some 63) (v := ?_) (a' := ?_) #[true, true, true, true, true, true, true, true, true, false, false, false] rfl rfl (any_of HT_.out (by kernel_rfl)) (fun _ _ _ h => h) (Or.inl ⟨by rfl, ?_⟩) ?_ ?_
                            rotate_left
                            · intro w'; go_simp; with_reducible rfl
                            rotate_left; · (simp only [Act.put, List.setIfInBounds_toArray, List.set_cons_zero, List.set_cons_succ, i64_w, i32_w]; rfl)
                            refine pure_ (i := 9) (N := some 64) (v := ?_) (a' := ?_) #[true, true, true, true, true, true, true, true, true, true, false, false] rfl rfl (any_of HT_.out (by kernel_rfl)) (fun _ _ _ h => h) (Or.inl ⟨by rfl, ?_⟩) ?_ ?_
                            rotate_left
                            · intro w'; go_simp; with_reducible rfl
                            rotate_left; · (simp only [Act.put, List.setIfInBounds_toArray, List.set_cons_zero, List.set_cons_succ, i64_w, i32_w]; rfl)
                            refine pure_ (i := 10) (N := some 18) (v := ?_) (a' := ?_) #[true, true, true, true, true, true, true, true, true, true, true, false] rfl rfl (any_of HT_.out (by kernel_rfl)) (fun _ _ _ h => h) (Or.inl ⟨by rfl, ?_⟩) ?_ ?_
                            rotate_left
                            · intro w'; go_simp; with_reducible rfl
                            rotate_left; · (simp only [Act.put, List.setIfInBounds_toArray, List.set_cons_zero, List.set_cons_succ, i64_w, i32_w]; rfl)
                            refine pure_ (i := 11) (N := some 19) (v := ?_) (a' := ?_) #[true, true, true, true, true, true, true, true, true, true, true, true] rfl rfl (any_of HT_.out (by kernel_rfl)) (fun _ _ _ h => h) (Or.inl ⟨by rfl, ?_⟩) ?_ ?_
                            rotate_left
                            · intro w'; go_simp; with_reducible rfl
                            rotate_left; · (simp only [Act.put, List.setIfInBounds_toArray, List.set_cons_zero, List.set_cons_succ, i64_w, i32_w]; rfl)
                            refine done_ (done_of HT_.out (by kernel_rfl)) ?_
                            try go_wp2
                            go_roundg k3
                            case measure => have := HJ6.out; have := HK2.out; have := HK3.out; omega
                            case rel => exact ⟨(x15_3), (wrap64 (x17_3 + 1)), (by first | rfl | (simp; done) | (simp [*]; done)), (by first | rfl | (simp; done) | (simp [*]; done)), H', ⟨by have := HJ6.out; have := HK2.out; have := HK3.out; omega⟩, ⟨by (with_reducible repeat (first | apply Kd.V_alloc | apply Kd.V_drewN | apply Kd.V_drew)); exact HO_1008002.out⟩, ⟨by (with_reducible repeat (first | refine blk_drewN ?_ _ | refine blk_drew ?_ | refine blk_alloc ?_ _)); exact BK1007.out⟩, ⟨by repeat (first | (with_reducible first | exact HB.out | apply below_alloc | apply pw_below_drewN | apply below_drew1 | refine below_set ?_ GE1007.out) | exact HB.out)⟩⟩
                          · rw [if_neg c48] at H
                            exact absurd H (by simp)
                        · rw [if_neg c47] at H
                          exact absurd H (by simp)
                    · rw [if_neg c26] at H
                      have c26b0 : decide (x17_3 ≤ 32) = false := decide_eq_false c26
                      clear c26; have H' := Aside0.mk H
                      clear H; go_wp2; go_roundg k3
                      case measure => have := HJ6.out; have := HK2.out; have := HK3.out; omega
                      case rel => exact ⟨(x15_3), (wrap64 (x16_2 + 1)), (by first | rfl | (simp; done) | (simp [*]; done)), (by first | rfl | (simp; done) | (simp [*]; done)), H', ⟨by have := HJ6.out; have := HK2.out; have := HK3.out; omega⟩, ⟨by (with_reducible repeat (first | apply Kd.V_alloc | apply Kd.V_drewN | apply Kd.V_drew)); exact HO_1008002.out⟩, ⟨by (with_reducible repeat (first | refine blk_drewN ?_ _ | refine blk_drew ?_ | refine blk_alloc ?_ _)); exact BK1007.out⟩, ⟨by repeat (first | (with_reducible first | exact HB.out | apply below_alloc | apply pw_below_drewN | apply below_drew1 | refine below_set ?_ GE1007.out) | exact HB.out)⟩⟩
              · rw [if_neg c25] at H
                have c25b0 : decide (x16_2 ≤ 8) = false := decide_eq_false c25
                clear c25; obtain rfl := Option.some.inj H
                go_wp2; go_ret
                exact ⟨by first | rfl | (simp [errW_none, errW_some] <;> rfl) | (simp [*, errW_none, errW_some] <;> rfl), by repeat (first | (with_reducible first | exact HB.out | apply below_alloc | apply pw_below_drewN | apply below_drew1 | refine below_set ?_ GE1007.out) | exact HB.out)⟩
        · rw [if_neg c16] at H
          exact absurd H (by simp)
end Go.Proofs.Ytpfpmjdifnoeoaa.F
