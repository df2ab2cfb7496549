import Derived.Test.YtpfpmjdifnoeoaaMListBackF0
import Derived.Test.YtpfpmjdifnoeoaaMListBackF100
import Derived.Test.YtpfpmjdifnoeoaaMListBackF41
import Derived.Test.YtpfpmjdifnoeoaaMListBackF42
import Derived.Test.YtpfpmjdifnoeoaaMListBackF43
import Derived.Test.YtpfpmjdifnoeoaaMListBackF44
import Derived.Test.YtpfpmjdifnoeoaaMListBackF45
import Derived.Test.YtpfpmjdifnoeoaaMListBackF46
import Derived.Test.YtpfpmjdifnoeoaaMListBackF48
import Derived.Test.YtpfpmjdifnoeoaaMListBackF51
import Derived.Test.YtpfpmjdifnoeoaaMListBackF53
namespace Go.Proofs.Ytpfpmjdifnoeoaa.F
open Go.RowKit Go.Proofs.YtpfpmjdifnoeoaaW.PrintWords Go.Proofs.YtpfpmjdifnoeoaaW.PrintLast Go.Proofs.YtpfpmjdifnoeoaaW.PrintMore
attribute [local go_sem] max2_int min2_int max_two min_two max_three min_three max_four min_four
set_option linter.unusedVariables false
set_option linter.unusedSimpArgs false
mutual
def gemotlaw4_ListBack.j0 : Nat → List (S170) → ByteArray → Bool → Bool → Int → Int → Int → Int → Int → Int → List Int → List ByteArray → Option (Bool)
  | 0, _, _, _, _, _, _, _, _, _, _, _, _ => none
  | k + 1, x0, x2, x7, x36, x1002000, x1002001, x1002002, x1002003, x1002004, x1002005, x1002006, x1002007 => if x36 = true then (some x7) else ((gemotlaw4_made.f x0).bind fun t1004 => ((list_Put.f t1004).bind fun bt1007 => (if bt1007.2 = 0 then ((list_Take.f bt1007.1).bind fun bt1009 => (if bt1009.2 = 0 then (gemotlaw4_ListBack.j1 k x2 t1004 bt1009.1 ((bt1009.1.length : Int) != (t1004.length : Int)) x1002000 x1002001 x1002002 x1002003 x1002004 x1002005 x1002006 x1002007) else (gemotlaw4_ListBack.j1 k x2 t1004 bt1009.1 true x1002000 x1002001 x1002002 x1002003 x1002004 x1002005 x1002006 x1002007))) else (gemotlaw4_ListBack.j3 k x2 t1004 x1002000 x1002001 x1002002 x1002003 x1002004 x1002005 x1002006 x1002007))))
def gemotlaw4_ListBack.j3 : Nat → ByteArray → List ByteArray → Int → Int → Int → Int → Int → Int → List Int → List ByteArray → Option (Bool)
  | 0, _, _, _, _, _, _, _, _, _, _ => none
  | k + 1, x2, x9, x1002000, x1002001, x1002002, x1002003, x1002004, x1002005, x1002006, x1002007 => (list_Pack.f x1002000 x1002001 x1002002 x1002003 x1002004 x1002005 x1002006 x9).bind fun bt1015 => (if bt1015.2 = 0 then ((list_Unpack.f bt1015.1).bind fun bt1017 => (if bt1017.2.2.2.2.2.2.2.2 = 0 then ((gemotlaw4_asMsg.f x1002000 x1002001 x1002002 x1002003 x1002004 x1002005 x1002006 x9).bind fun bt1031 => ((gemotlaw4_sameMsg.f bt1017.1 bt1017.2.1 bt1017.2.2.1 bt1017.2.2.2.1 bt1017.2.2.2.2.1 bt1017.2.2.2.2.2.1 bt1017.2.2.2.2.2.2.1 bt1017.2.2.2.2.2.2.2.1 bt1031.1 bt1031.2.1 bt1031.2.2.1 bt1031.2.2.2.1 bt1031.2.2.2.2.1 bt1031.2.2.2.2.2.1 bt1031.2.2.2.2.2.2.1 bt1031.2.2.2.2.2.2.2).bind fun t1043 => (if t1043 = true then (gemotlaw4_ListBack.j4 k x2) else (none)))) else (none))) else (gemotlaw4_ListBack.j4 k x2))
def gemotlaw4_ListBack.j4 : Nat → ByteArray → Option (Bool)
  | 0, _ => none
  | k + 1, x2 => (list_Unpack.f x2).bind fun bt1044 => (if bt1044.2.2.2.2.2.2.2.2 = 0 then ((list_Pack.f bt1044.1 bt1044.2.1 bt1044.2.2.1 bt1044.2.2.2.1 bt1044.2.2.2.2.1 bt1044.2.2.2.2.2.1 bt1044.2.2.2.2.2.2.1 bt1044.2.2.2.2.2.2.2.1).bind fun bt1058 => (if bt1058.2 = 0 then (if bt1058.1.toList = x2.toList then ((list_Right.f bt1044.1 bt1044.2.1 bt1044.2.2.1 bt1044.2.2.2.1 bt1044.2.2.2.2.1 bt1044.2.2.2.2.2.1 bt1044.2.2.2.2.2.2.1 bt1044.2.2.2.2.2.2.2.1).bind fun t1060 => (some t1060)) else (none)) else (none))) else (if bt1044.1 = 0 then (if (bt1044.2.2.2.2.2.2.1.length : Int) = 0 then (some ((bt1044.2.2.2.2.2.2.2.1.length : Int) == 0)) else (none)) else (none)))
def gemotlaw4_ListBack.j1 : Nat → ByteArray → List ByteArray → List ByteArray → Bool → Int → Int → Int → Int → Int → Int → List Int → List ByteArray → Option (Bool)
  | 0, _, _, _, _, _, _, _, _, _, _, _, _ => none
  | k + 1, x2, x9, x12, x60, x1002000, x1002001, x1002002, x1002003, x1002004, x1002005, x1002006, x1002007 => if x60 = true then (none) else (gemotlaw4_ListBack.l0 k x2 x9 x12 0 x1002000 x1002001 x1002002 x1002003 x1002004 x1002005 x1002006 x1002007)
def gemotlaw4_ListBack.l0 : Nat → ByteArray → List ByteArray → List ByteArray → Int → Int → Int → Int → Int → Int → Int → List Int → List ByteArray → Option (Bool)
  | 0, _, _, _, _, _, _, _, _, _, _, _, _ => none
  | k + 1, x2, x9, x12, x14, x1002000, x1002001, x1002002, x1002003, x1002004, x1002005, x1002006, x1002007 => if x14 < (x9.length : Int) then (if 0 ≤ x14 then (if x14 < (x12.length : Int) then (if (rdOf ByteArray.empty x12 x14).toList = (rdOf ByteArray.empty x9 x14).toList then (gemotlaw4_ListBack.l0 k x2 x9 x12 (wrap64 (x14 + 1)) x1002000 x1002001 x1002002 x1002003 x1002004 x1002005 x1002006 x1002007) else (none)) else (none)) else (none)) else (gemotlaw4_ListBack.j3 k x2 x9 x1002000 x1002001 x1002002 x1002003 x1002004 x1002005 x1002006 x1002007)
end
def gemotlaw4_ListBack.f (k : Nat) (l0 : List (S170)) (a1_0 : Int) (a1_1 : Int) (a1_2 : Int) (a1_3 : Int) (a1_4 : Int) (a1_5 : Int) (l1_6 : List Int) (l1_7 : List ByteArray) (a2 : ByteArray) : Option (Bool) := (gemotlaw4_shown.f).bind fun t1002 => ((gemotlaw4_short.f a1_0 a1_1 a1_2 a1_3 a1_4 a1_5 l1_6 l1_7).bind fun t1003 => (if t1002 = true then (if t1003 = true then (gemotlaw4_ListBack.j0 k l0 a2 t1002 (decide ((a2.size : Int) > 3000)) a1_0 a1_1 a1_2 a1_3 a1_4 a1_5 l1_6 l1_7) else (gemotlaw4_ListBack.j0 k l0 a2 t1002 true a1_0 a1_1 a1_2 a1_3 a1_4 a1_5 l1_6 l1_7)) else (gemotlaw4_ListBack.j0 k l0 a2 t1002 true a1_0 a1_1 a1_2 a1_3 a1_4 a1_5 l1_6 l1_7)))
def gemotlaw4_ListBack.T14 : Bool × List (List Nat × List Nat) := (true, [([], []), ([], []), ([0, 1], [0, 1]), ([2], [2]), ([], []), ([], []), ([4, 5], [4, 5]), ([6], [6]), ([3, 7], [3, 7])])
def gemotlaw4_ListBack.B14 : List Nat := [0, 0, 3, 7, 0, 0, 48, 112, 255]
theorem gemotlaw4_ListBack.tab14 : rtab .any (opsOf Try.f30 14) = gemotlaw4_ListBack.T14 := by kernel_rfl
theorem gemotlaw4_ListBack.bits14 : waitsOk gemotlaw4_ListBack.T14.2 gemotlaw4_ListBack.B14 = true := by kernel_rfl
def gemotlaw4_ListBack.T20 : Bool × List (List Nat × List Nat) := (true, [([], []), ([0], [0]), ([1], [1]), ([2], [2]), ([2], [2]), ([4, 2, 2], [2, 4]), ([3, 5, 5, 2], [2, 3, 5]), ([6, 2], [2, 6]), ([2, 7], [2, 7])])
def gemotlaw4_ListBack.B20 : List Nat := [0, 1, 3, 7, 7, 23, 63, 127, 255]
theorem gemotlaw4_ListBack.tab20 : rtab .any (opsOf Try.f30 20) = gemotlaw4_ListBack.T20 := by kernel_rfl
theorem gemotlaw4_ListBack.bits20 : waitsOk gemotlaw4_ListBack.T20.2 gemotlaw4_ListBack.B20 = true := by kernel_rfl
set_option maxHeartbeats 8000000 in
set_option maxRecDepth 100000 in
theorem gemotlaw4_ListBack.calls (k : Nat) (A0 : Option Addr) (c0 : Nat) (l0 : List (S170)) (a1_0 : Int) (a1_1 : Int) (a1_2 : Int) (a1_3 : Int) (a1_4 : Int) (a1_5 : Int) (A1_6 : Option Addr) (c1_6 : Nat) (l1_6 : List Int) (A1_7 : Option Addr) (c1_7 : Nat) (l1_7 : List ByteArray) (a2 : ByteArray) (r : Bool) (w : World) (hr0 : Kd.C k170 w A0 l0.length l0) (hc0 : l0.length ≤ c0) (hr1_6 : Kd.C (Kd.int .i64) w A1_6 l1_6.length l1_6) (hc1_6 : l1_6.length ≤ c1_6) (hr1_7 : Kd.C Kd.string w A1_7 l1_7.length l1_7) (hc1_7 : l1_7.length ≤ c1_7) (h : gemotlaw4_ListBack.f k l0 a1_0 a1_1 a1_2 a1_3 a1_4 a1_5 l1_6 l1_7 a2 = some r) :
    Calls Try.prog 30 #[.slice A0 l0.length c0, .agg #[.int .i64 a1_0, .int .i64 a1_1, .int .i64 a1_2, .int .i64 a1_3, .int .i64 a1_4, .int .i64 a1_5, .slice A1_6 l1_6.length c1_6, .slice A1_7 l1_7.length c1_7], .string a2] w fun e w' => e = .returned (.bool r) ∧ Below w.heap.size w w' := by
  have hu39 := Try.underlying39; have HR0 := Aside0.mk hr0
  have HC0 := Aside0.mk hc0
  clear hr0 hc0; have HR1_6 := Aside0.mk hr1_6
  have HC1_6 := Aside0.mk hc1_6
  clear hr1_6 hc1_6; have HR1_7 := Aside0.mk hr1_7
  have HC1_7 := Aside0.mk hc1_7
  clear hr1_7 hc1_7; have HB := Aside0.mk (Below.refl w.heap.size w)
  have H : ((gemotlaw4_shown.f).bind fun t1002 => ((gemotlaw4_short.f a1_0 a1_1 a1_2 a1_3 a1_4 a1_5 l1_6 l1_7).bind fun t1003 => (if t1002 = true then (if t1003 = true then (gemotlaw4_ListBack.j0 k l0 a2 t1002 (decide ((a2.size : Int) > 3000)) a1_0 a1_1 a1_2 a1_3 a1_4 a1_5 l1_6 l1_7) else (gemotlaw4_ListBack.j0 k l0 a2 t1002 true a1_0 a1_1 a1_2 a1_3 a1_4 a1_5 l1_6 l1_7)) else (gemotlaw4_ListBack.j0 k l0 a2 t1002 true a1_0 a1_1 a1_2 a1_3 a1_4 a1_5 l1_6 l1_7)))) = some r := h
  clear h; replace H := Option.bind_eq_some_iff.mp H
  obtain ⟨t1002, A40, H⟩ := H; replace H : ((gemotlaw4_short.f a1_0 a1_1 a1_2 a1_3 a1_4 a1_5 l1_6 l1_7).bind fun t1003 => (if t1002 = true then (if t1003 = true then (gemotlaw4_ListBack.j0 k l0 a2 t1002 (decide ((a2.size : Int) > 3000)) a1_0 a1_1 a1_2 a1_3 a1_4 a1_5 l1_6 l1_7) else (gemotlaw4_ListBack.j0 k l0 a2 t1002 true a1_0 a1_1 a1_2 a1_3 a1_4 a1_5 l1_6 l1_7)) else (gemotlaw4_ListBack.j0 k l0 a2 t1002 true a1_0 a1_1 a1_2 a1_3 a1_4 a1_5 l1_6 l1_7))) = some r := H
  have A4 := Aside0.mk A40
  clear A40; replace H := Option.bind_eq_some_iff.mp H
  obtain ⟨t1003, A50, H⟩ := H; replace H : (if t1002 = true then (if t1003 = true then (gemotlaw4_ListBack.j0 k l0 a2 t1002 (decide ((a2.size : Int) > 3000)) a1_0 a1_1 a1_2 a1_3 a1_4 a1_5 l1_6 l1_7) else (gemotlaw4_ListBack.j0 k l0 a2 t1002 true a1_0 a1_1 a1_2 a1_3 a1_4 a1_5 l1_6 l1_7)) else (gemotlaw4_ListBack.j0 k l0 a2 t1002 true a1_0 a1_1 a1_2 a1_3 a1_4 a1_5 l1_6 l1_7)) = some r := H
  have A5 := Aside0.mk A50
  clear A50; have HC6 := Aside0.mk H
  clear H; go_enter Try.func30, Try.ntmps30
  go_upto_region 3 with (first | ((with_reducible refine gate_dst (N := 4) rfl ?_); refine box_event ?hg (N := 4) ?hd (cs := #[.int .i64 a1_0, .int .i64 a1_1, .int .i64 a1_2, .int .i64 a1_3, .int .i64 a1_4, .int .i64 a1_5, .slice A1_6 l1_6.length c1_6, .slice A1_7 l1_7.length c1_7]) (t := 39) ?hr ?_; (case hd => rfl); (case hg => rfl); (case hr => first | (go_simp; done) | (go_simp; rfl)); intro gb1001 hg w7 hbox hb; have n0_ := Aside0.mk (below_step (by repeat with_reducible first | exact HB.out | apply below_alloc | apply pw_below_drewN | apply below_drew1) hb); have n1_ := Aside0.mk (hbox); have n2_ := Aside0.mk ((by rw [hg]; exact (below_size (by repeat with_reducible first | exact HB.out | apply below_alloc | apply pw_below_drewN | apply below_drew1)) : w.heap.size ≤ gb1001)); have n3_ := Aside0.mk ((by rw [hg]; exact (below_size (by repeat with_reducible first | exact HB.out | apply below_alloc | apply pw_below_drewN | apply below_drew1)) : w.heap.size ≤ gb1001)); clear HB; have HB := n0_; have BK1001 := n1_; have GW1001 := n2_; have GE1001 := n3_; clear n0_ n1_ n2_ n3_; clear hb hbox hg) | ((with_reducible refine gate_callee (f := 41) rfl ?_); refine goesL_ (some 23) rfl rfl Try.func41 (by kernel_rfl) rfl #[] rfl (by simp only [List.map_toArray, List.map_cons, List.map_nil] <;> rfl) ?_; (with_reducible refine (gemotlaw4_shown.calls  t1002 _ A4.out).mono ?_); rintro e w8 ⟨rfl, hb⟩; refine ⟨_, rfl, ?_⟩; have n0_ := Aside0.mk (blk_below (g := gb1001) (o := .cells #[.int .i64 a1_0, .int .i64 a1_1, .int .i64 a1_2, .int .i64 a1_3, .int .i64 a1_4, .int .i64 a1_5, .slice A1_6 l1_6.length c1_6, .slice A1_7 l1_7.length c1_7] 39 (0, 0)) (by (with_reducible repeat (first | refine blk_drewN ?_ _ | refine blk_drew ?_ | refine blk_alloc ?_ _)); exact BK1001.out) hb); have n1_ := Aside0.mk (below_step (by repeat (with_reducible first | exact HB.out | apply below_alloc | apply pw_below_drewN | apply below_drew1 | refine below_set ?_ GE1001.out)) hb); clear BK1001; clear HB; have BK1001 := n0_; have HB := n1_; clear n0_ n1_; (try clear hb); have hcz9_0 : w8.cell? ⟨gb1001, 0, none⟩ = some (.int .i64 a1_0) := (blk_cell BK1001.out 0).trans rfl; have hcz9_1 : w8.cell? ⟨gb1001, 1, none⟩ = some (.int .i64 a1_1) := (blk_cell BK1001.out 1).trans rfl; have hcz9_2 : w8.cell? ⟨gb1001, 2, none⟩ = some (.int .i64 a1_2) := (blk_cell BK1001.out 2).trans rfl; have hcz9_3 : w8.cell? ⟨gb1001, 3, none⟩ = some (.int .i64 a1_3) := (blk_cell BK1001.out 3).trans rfl; have hcz9_4 : w8.cell? ⟨gb1001, 4, none⟩ = some (.int .i64 a1_4) := (blk_cell BK1001.out 4).trans rfl; have hcz9_5 : w8.cell? ⟨gb1001, 5, none⟩ = some (.int .i64 a1_5) := (blk_cell BK1001.out 5).trans rfl; have hcz9_6 : w8.cell? ⟨gb1001, 6, none⟩ = some (.slice A1_6 l1_6.length c1_6) := (blk_cell BK1001.out 6).trans rfl; have hcz9_7 : w8.cell? ⟨gb1001, 7, none⟩ = some (.slice A1_7 l1_7.length c1_7) := (blk_cell BK1001.out 7).trans rfl; have hfz9_0 := blk_frozen BK1001.out 0; have hfz9_1 := blk_frozen BK1001.out 1; have hfz9_2 := blk_frozen BK1001.out 2; have hfz9_3 := blk_frozen BK1001.out 3; have hfz9_4 := blk_frozen BK1001.out 4; have hfz9_5 := blk_frozen BK1001.out 5; have hfz9_6 := blk_frozen BK1001.out 6; have hfz9_7 := blk_frozen BK1001.out 7) | ((with_reducible refine gate_callee (f := 42) rfl ?_); refine goesL_ (some 25) rfl rfl Try.func42 (by kernel_rfl) rfl #[.agg #[.int .i64 a1_0, .int .i64 a1_1, .int .i64 a1_2, .int .i64 a1_3, .int .i64 a1_4, .int .i64 a1_5, .slice A1_6 l1_6.length c1_6, .slice A1_7 l1_7.length c1_7]] rfl (by (try simp only [List.map_toArray, List.map_cons, List.map_nil]); first | done | rfl | (simp only [List.length_drop, List.length_take]; rfl)) ?_; (with_reducible refine (gemotlaw4_short.calls a1_0 a1_1 a1_2 a1_3 a1_4 a1_5 _ _ l1_6 _ _ l1_7 t1003 _ ?side1 ?side2 ?side3 ?side4 A5.out).mono ?_); (case side1 => repeat (first | exact (Kd.C_below HR1_6.out HB.out) | (with_reducible refine Kd.C_alloc ?_ _) | (with_reducible refine Kd.C_drewN ?_ _) | (with_reducible refine Kd.C_drew ?_))); (case side2 => exact HC1_6.out); (case side3 => repeat (first | exact (Kd.C_below HR1_7.out HB.out) | (with_reducible refine Kd.C_alloc ?_ _) | (with_reducible refine Kd.C_drewN ?_ _) | (with_reducible refine Kd.C_drew ?_))); (case side4 => exact HC1_7.out); rintro e w10 ⟨rfl, hb⟩; refine ⟨_, rfl, ?_⟩; have n0_ := Aside0.mk (blk_below (g := gb1001) (o := .cells #[.int .i64 a1_0, .int .i64 a1_1, .int .i64 a1_2, .int .i64 a1_3, .int .i64 a1_4, .int .i64 a1_5, .slice A1_6 l1_6.length c1_6, .slice A1_7 l1_7.length c1_7] 39 (0, 0)) (by (with_reducible repeat (first | refine blk_drewN ?_ _ | refine blk_drew ?_ | refine blk_alloc ?_ _)); exact BK1001.out) hb); have n1_ := Aside0.mk (below_step (by repeat (with_reducible first | exact HB.out | apply below_alloc | apply pw_below_drewN | apply below_drew1 | refine below_set ?_ GE1001.out)) hb); clear BK1001; clear HB; have BK1001 := n0_; have HB := n1_; clear n0_ n1_; (try clear hb)))
  (try simp only [Act.put, List.setIfInBounds_toArray, List.set_cons_zero, List.set_cons_succ]); go_cut [36] (fun v36 wc => ∃ (kq : Nat) (x36_5 : Bool), v36 = .bool x36_5 ∧ Aside0 (gemotlaw4_ListBack.j0 kq l0 a2 t1002 x36_5 a1_0 a1_1 a1_2 a1_3 a1_4 a1_5 l1_6 l1_7 = some r) ∧ Aside0 (kq ≤ k) ∧ Aside0 (wc.heap[gb1001]? = some (.cells #[.int .i64 a1_0, .int .i64 a1_1, .int .i64 a1_2, .int .i64 a1_3, .int .i64 a1_4, .int .i64 a1_5, (.slice A1_6 l1_6.length c1_6), (.slice A1_7 l1_7.length c1_7)] 39 (0, 0))) ∧ Aside0 (Below w.heap.size w wc))
  case first =>
    have H := HC6.out; clear HC6; by_cases c11 : t1002 = true
    · subst c11; have H1 : (if t1003 = true then (gemotlaw4_ListBack.j0 k l0 a2 true (decide ((a2.size : Int) > 3000)) a1_0 a1_1 a1_2 a1_3 a1_4 a1_5 l1_6 l1_7) else (gemotlaw4_ListBack.j0 k l0 a2 true true a1_0 a1_1 a1_2 a1_3 a1_4 a1_5 l1_6 l1_7)) = some r := by rw [if_pos rfl] at H; exact H
      clear H; have H := H1; clear H1; by_cases c12 : t1003 = true
      · subst c12; have H1 : (gemotlaw4_ListBack.j0 k l0 a2 true (decide ((a2.size : Int) > 3000)) a1_0 a1_1 a1_2 a1_3 a1_4 a1_5 l1_6 l1_7) = some r := by rw [if_pos rfl] at H; exact H
        clear H; have H := H1; clear H1; have H' := Aside0.mk H
        clear H; go_wp2; go_meet
        case rel => exact ⟨_, (decide ((a2.size : Int) > 3000)), (by first | rfl | (simp; done) | (simp [*]; done)), H', ⟨by first | omega | exact Nat.le_refl _⟩, ⟨by (with_reducible repeat (first | refine blk_drewN ?_ _ | refine blk_drew ?_ | refine blk_alloc ?_ _)); exact BK1001.out⟩, ⟨by repeat (first | (with_reducible first | exact HB.out | apply below_alloc | apply pw_below_drewN | apply below_drew1 | refine below_set ?_ GE1001.out) | exact HB.out)⟩⟩
      · replace c12 := Bool.eq_false_iff.mpr c12
        subst c12; have H1 : (gemotlaw4_ListBack.j0 k l0 a2 true true a1_0 a1_1 a1_2 a1_3 a1_4 a1_5 l1_6 l1_7) = some r := by rw [if_neg (show ¬ (false = true) by decide)] at H; exact H
        clear H; have H := H1; clear H1; have H' := Aside0.mk H
        clear H; go_wp2; go_meet
        case rel => exact ⟨_, (true), (by first | rfl | (simp; done) | (simp [*]; done)), H', ⟨by first | omega | exact Nat.le_refl _⟩, ⟨by (with_reducible repeat (first | refine blk_drewN ?_ _ | refine blk_drew ?_ | refine blk_alloc ?_ _)); exact BK1001.out⟩, ⟨by repeat (first | (with_reducible first | exact HB.out | apply below_alloc | apply pw_below_drewN | apply below_drew1 | refine below_set ?_ GE1001.out) | exact HB.out)⟩⟩
    · replace c11 := Bool.eq_false_iff.mpr c11
      subst c11; have H1 : (gemotlaw4_ListBack.j0 k l0 a2 false true a1_0 a1_1 a1_2 a1_3 a1_4 a1_5 l1_6 l1_7) = some r := by rw [if_neg (show ¬ (false = true) by decide)] at H; exact H
      clear H; have H := H1; clear H1; have H' := Aside0.mk H
      clear H; go_wp2; go_meet
      case rel => exact ⟨_, (true), (by first | rfl | (simp; done) | (simp [*]; done)), H', ⟨by first | omega | exact Nat.le_refl _⟩, ⟨by (with_reducible repeat (first | refine blk_drewN ?_ _ | refine blk_drew ?_ | refine blk_alloc ?_ _)); exact BK1001.out⟩, ⟨by repeat (first | (with_reducible first | exact HB.out | apply below_alloc | apply pw_below_drewN | apply below_drew1 | refine below_set ?_ GE1001.out) | exact HB.out)⟩⟩
  case rest =>
    clear HC6; try clear c1
    try clear p2
    try clear c3
    try clear c4
    try clear c11
    try clear c12
    try clear hcz9_0
    try clear hcz9_1
    try clear hcz9_2
    try clear hcz9_3
    try clear hcz9_4
    try clear hcz9_5
    try clear hcz9_6
    try clear hcz9_7
    try clear hfz9_0
    try clear hfz9_1
    try clear hfz9_2
    try clear hfz9_3
    try clear hfz9_4
    try clear hfz9_5
    try clear hfz9_6
    try clear hfz9_7
    obtain ⟨kq, x36_5, rfl, HA, HJ5, BK1001, HB⟩ := hcut; cases kq with
    | zero => exact absurd HA.out (by simp [gemotlaw4_ListBack.j0])
    | succ kj5 =>
      have H := HA.out; clear HA; simp only [gemotlaw4_ListBack.j0] at H; by_cases c13 : x36_5 = true
      · subst c13; have H1 : (some t1002) = some r := by rw [if_pos rfl] at H; exact H
        clear H; have H := H1; clear H1; obtain rfl := Option.some.inj H
        go_wp2; go_ret
        exact ⟨by first | rfl | (simp [errW_none, errW_some] <;> rfl) | (simp [*, errW_none, errW_some] <;> rfl), by repeat (first | (with_reducible first | exact HB.out | apply below_alloc | apply pw_below_drewN | apply below_drew1 | refine below_set ?_ GE1001.out) | exact HB.out)⟩
      · replace c13 := Bool.eq_false_iff.mpr c13
        subst c13; have H1 : ((gemotlaw4_made.f l0).bind fun t1004 => ((list_Put.f t1004).bind fun bt1007 => (if bt1007.2 = 0 then ((list_Take.f bt1007.1).bind fun bt1009 => (if bt1009.2 = 0 then (gemotlaw4_ListBack.j1 kj5 a2 t1004 bt1009.1 ((bt1009.1.length : Int) != (t1004.length : Int)) a1_0 a1_1 a1_2 a1_3 a1_4 a1_5 l1_6 l1_7) else (gemotlaw4_ListBack.j1 kj5 a2 t1004 bt1009.1 true a1_0 a1_1 a1_2 a1_3 a1_4 a1_5 l1_6 l1_7))) else (gemotlaw4_ListBack.j3 kj5 a2 t1004 a1_0 a1_1 a1_2 a1_3 a1_4 a1_5 l1_6 l1_7)))) = some r := by rw [if_neg (show ¬ (false = true) by decide)] at H; exact H
        clear H; have H := H1; clear H1; replace H := Option.bind_eq_some_iff.mp H
        obtain ⟨t1004, A140, H⟩ := H; replace H : ((list_Put.f t1004).bind fun bt1007 => (if bt1007.2 = 0 then ((list_Take.f bt1007.1).bind fun bt1009 => (if bt1009.2 = 0 then (gemotlaw4_ListBack.j1 kj5 a2 t1004 bt1009.1 ((bt1009.1.length : Int) != (t1004.length : Int)) a1_0 a1_1 a1_2 a1_3 a1_4 a1_5 l1_6 l1_7) else (gemotlaw4_ListBack.j1 kj5 a2 t1004 bt1009.1 true a1_0 a1_1 a1_2 a1_3 a1_4 a1_5 l1_6 l1_7))) else (gemotlaw4_ListBack.j3 kj5 a2 t1004 a1_0 a1_1 a1_2 a1_3 a1_4 a1_5 l1_6 l1_7))) = some r := H
        have A14 := Aside0.mk A140
        clear A140; replace H := Option.bind_eq_some_iff.mp H
        obtain ⟨⟨t1007, t1008⟩, A150, H⟩ := H
        replace H : (if t1008 = 0 then ((list_Take.f t1007).bind fun bt1009 => (if bt1009.2 = 0 then (gemotlaw4_ListBack.j1 kj5 a2 t1004 bt1009.1 ((bt1009.1.length : Int) != (t1004.length : Int)) a1_0 a1_1 a1_2 a1_3 a1_4 a1_5 l1_6 l1_7) else (gemotlaw4_ListBack.j1 kj5 a2 t1004 bt1009.1 true a1_0 a1_1 a1_2 a1_3 a1_4 a1_5 l1_6 l1_7))) else (gemotlaw4_ListBack.j3 kj5 a2 t1004 a1_0 a1_1 a1_2 a1_3 a1_4 a1_5 l1_6 l1_7)) = some r := H
        have A15 := Aside0.mk A150
        clear A150; have HC16 := Aside0.mk H
        clear H; go_upto_if 46 with (first | ((with_reducible refine gate_callee (f := 100) rfl ?_); refine goesL_ (some 39) rfl rfl Try.func100 (by kernel_rfl) rfl #[.slice A0 l0.length c0] rfl (by simp only [List.map_toArray, List.map_cons, List.map_nil] <;> rfl) ?_; (with_reducible refine (gemotlaw4_made.calls _ _ l0 t1004 _ ?side1 ?side2 A14.out).mono ?_); (case side1 => repeat (first | exact (Kd.C_below HR0.out HB.out) | (with_reducible refine Kd.C_alloc ?_ _) | (with_reducible refine Kd.C_drewN ?_ _) | (with_reducible refine Kd.C_drew ?_))); (case side2 => exact HC0.out); rintro e w17 ⟨v1005, rfl, ho0, hb⟩; refine ⟨_, rfl, ?_⟩; have n0_ := Aside0.mk (Kd.R_lower ho0 (below_size (by repeat (with_reducible first | exact HB.out | apply below_alloc | apply pw_below_drewN | apply below_drew1 | refine below_set ?_ GE1001.out)))); have n1_ := Aside0.mk (blk_below (g := gb1001) (o := .cells #[.int .i64 a1_0, .int .i64 a1_1, .int .i64 a1_2, .int .i64 a1_3, .int .i64 a1_4, .int .i64 a1_5, .slice A1_6 l1_6.length c1_6, .slice A1_7 l1_7.length c1_7] 39 (0, 0)) (by (with_reducible repeat (first | refine blk_drewN ?_ _ | refine blk_drew ?_ | refine blk_alloc ?_ _)); exact BK1001.out) hb); have n2_ := Aside0.mk (below_step (by repeat (with_reducible first | exact HB.out | apply below_alloc | apply pw_below_drewN | apply below_drew1 | refine below_set ?_ GE1001.out)) hb); clear BK1001; clear HB; have HO1006 := n0_; have BK1001 := n1_; have HB := n2_; clear n0_ n1_ n2_; (try clear hb); (try clear ho0); obtain ⟨Ao18, co18, eo18⟩ := Kd.R_slice HO1006.out; subst eo18) | ((with_reducible refine gate_callee (f := 46) rfl ?_); refine goesL_ (some 42) rfl rfl Try.func46 (by kernel_rfl) rfl #[.slice Ao18 t1004.length co18] rfl (by simp only [List.map_toArray, List.map_cons, List.map_nil] <;> rfl) ?_; (with_reducible refine (list_Put.calls _ _ t1004 t1007 t1008 _ ?side1 ?side2 A15.out).mono ?_); (case side1 => repeat (first | exact (Kd.R_reads' HO1006.out).2.2 | (with_reducible refine Kd.C_alloc ?_ _) | (with_reducible refine Kd.C_drewN ?_ _) | (with_reducible refine Kd.C_drew ?_))); (case side2 => exact (Kd.R_reads' HO1006.out).2.1); rintro e w19 ⟨rfl, hb⟩; refine ⟨_, rfl, ?_⟩; have n0_ := Aside0.mk (Kd.R_below (by (with_reducible repeat (first | apply Kd.R_alloc | apply Kd.R_drewN | apply Kd.R_drew)); exact HO1006.out) hb); have n1_ := Aside0.mk (blk_below (g := gb1001) (o := .cells #[.int .i64 a1_0, .int .i64 a1_1, .int .i64 a1_2, .int .i64 a1_3, .int .i64 a1_4, .int .i64 a1_5, .slice A1_6 l1_6.length c1_6, .slice A1_7 l1_7.length c1_7] 39 (0, 0)) (by (with_reducible repeat (first | refine blk_drewN ?_ _ | refine blk_drew ?_ | refine blk_alloc ?_ _)); exact BK1001.out) hb); have n2_ := Aside0.mk (below_step (by repeat (with_reducible first | exact HB.out | apply below_alloc | apply pw_below_drewN | apply below_drew1 | refine below_set ?_ GE1001.out)) hb); clear HO1006; clear BK1001; clear HB; have HO1006 := n0_; have BK1001 := n1_; have HB := n2_; clear n0_ n1_ n2_; (try clear hb)))
        (try simp only [Act.put, List.setIfInBounds_toArray, List.set_cons_zero, List.set_cons_succ]); go_cut [] (fun wc => ∃ (kq : Nat), Aside0 (gemotlaw4_ListBack.j3 kq a2 t1004 a1_0 a1_1 a1_2 a1_3 a1_4 a1_5 l1_6 l1_7 = some r) ∧ Aside0 (kq ≤ kj5) ∧ Aside0 (Kd.R Kd.string 23 wc w.heap.size (fun _ => True) (.slice Ao18 t1004.length co18) t1004) ∧ Aside0 (wc.heap[gb1001]? = some (.cells #[.int .i64 a1_0, .int .i64 a1_1, .int .i64 a1_2, .int .i64 a1_3, .int .i64 a1_4, .int .i64 a1_5, (.slice A1_6 l1_6.length c1_6), (.slice A1_7 l1_7.length c1_7)] 39 (0, 0))) ∧ Aside0 (Below w.heap.size w wc))
        case first =>
          have H := HC16.out; clear HC16; by_cases c20 : t1008 = 0
          · rw [if_pos c20] at H
            have c20b0 : (t1008 == 0) = true := beq_iff_eq.mpr c20
            have c20b1 : (t1008 != 0) = false := bne_eq_false_iff_eq.mpr c20
            clear c20; (first | rw [c20b0] | (simp only [i64_w, i32_w]; rw [c20b0]) | skip); replace H := Option.bind_eq_some_iff.mp H
            obtain ⟨⟨t1009, t1012⟩, A210, H⟩ := H
            replace H : (if t1012 = 0 then (gemotlaw4_ListBack.j1 kj5 a2 t1004 t1009 ((t1009.length : Int) != (t1004.length : Int)) a1_0 a1_1 a1_2 a1_3 a1_4 a1_5 l1_6 l1_7) else (gemotlaw4_ListBack.j1 kj5 a2 t1004 t1009 true a1_0 a1_1 a1_2 a1_3 a1_4 a1_5 l1_6 l1_7)) = some r := H
            have A21 := Aside0.mk A210
            clear A210; have HC22 := Aside0.mk H
            clear H; go_upto_region 9 with (first | ((with_reducible refine gate_callee (f := 48) rfl ?_); refine goesL_ (some 49) rfl rfl Try.func48 (by kernel_rfl) rfl #[.string t1007] rfl (by simp only [List.map_toArray, List.map_cons, List.map_nil] <;> rfl) ?_; (with_reducible refine (list_Take.calls t1007 t1009 t1012 _ A21.out).mono ?_); rintro e w23 ⟨v1010, rfl, ho0, hb⟩; refine ⟨_, rfl, ?_⟩; have n0_ := Aside0.mk (Kd.R_elder' (by (with_reducible repeat (first | apply Kd.R_alloc | apply Kd.R_drewN | apply Kd.R_drew)); exact HO1006.out) (Kd.R_base ho0) hb); have n1_ := Aside0.mk (Kd.R_lower (Kd.R_new' (Kd.R_mono (ok' := fun k_ => True) ho0 (fun _ hk_ => trivial)) (Kd.R_lt (by (with_reducible repeat (first | apply Kd.R_alloc | apply Kd.R_drewN | apply Kd.R_drew)); exact HO1006.out))) (below_size (by repeat (with_reducible first | exact HB.out | apply below_alloc | apply pw_below_drewN | apply below_drew1 | refine below_set ?_ GE1001.out)))); have n2_ := Aside0.mk (blk_below (g := gb1001) (o := .cells #[.int .i64 a1_0, .int .i64 a1_1, .int .i64 a1_2, .int .i64 a1_3, .int .i64 a1_4, .int .i64 a1_5, .slice A1_6 l1_6.length c1_6, .slice A1_7 l1_7.length c1_7] 39 (0, 0)) (by (with_reducible repeat (first | refine blk_drewN ?_ _ | refine blk_drew ?_ | refine blk_alloc ?_ _)); exact BK1001.out) hb); have n3_ := Aside0.mk (below_step (by repeat (with_reducible first | exact HB.out | apply below_alloc | apply pw_below_drewN | apply below_drew1 | refine below_set ?_ GE1001.out)) hb); clear HO1006; clear BK1001; clear HB; have HO1006 := n0_; have HO1011 := n1_; have BK1001 := n2_; have HB := n3_; clear n0_ n1_ n2_ n3_; (try clear hb); (try clear ho0)))
            (try simp only [Act.put, List.setIfInBounds_toArray, List.set_cons_zero, List.set_cons_succ]); go_cut [60] (fun v60 wc => ∃ (kq : Nat) (x60_21 : Bool), v60 = .bool x60_21 ∧ Aside0 (gemotlaw4_ListBack.j1 kq a2 t1004 t1009 x60_21 a1_0 a1_1 a1_2 a1_3 a1_4 a1_5 l1_6 l1_7 = some r) ∧ Aside0 (kq ≤ kj5) ∧ Aside0 (Kd.R Kd.string 23 wc w.heap.size (fun k_ => some k_ ≠ (v1010 : Value).ownBlock) (.slice Ao18 t1004.length co18) t1004) ∧ Aside0 (Kd.R Kd.string 23 wc w.heap.size (fun k_ => some k_ ≠ ((.slice Ao18 t1004.length co18) : Value).ownBlock) v1010 t1009) ∧ Aside0 (wc.heap[gb1001]? = some (.cells #[.int .i64 a1_0, .int .i64 a1_1, .int .i64 a1_2, .int .i64 a1_3, .int .i64 a1_4, .int .i64 a1_5, (.slice A1_6 l1_6.length c1_6), (.slice A1_7 l1_7.length c1_7)] 39 (0, 0))) ∧ Aside0 (Below w.heap.size w wc))
            case first =>
              have H := HC22.out; clear HC22; by_cases c24 : t1012 = 0
              · rw [if_pos c24] at H
                have c24b0 : (t1012 == 0) = true := beq_iff_eq.mpr c24
                have c24b1 : (t1012 != 0) = false := bne_eq_false_iff_eq.mpr c24
                clear c24; (first | rw [c24b0] | (simp only [i64_w, i32_w]; rw [c24b0]) | skip); have H' := Aside0.mk H
                clear H; obtain ⟨Ao25, co25, eo25⟩ := Kd.R_slice HO1011.out; subst eo25; go_wp2; go_meet
                case rel => exact ⟨_, (((t1009.length : Int) != (t1004.length : Int))), (by first | rfl | (simp; done) | (simp [*]; done)), H', ⟨by have := HJ5.out; first | omega | exact Nat.le_refl _⟩, ⟨by (with_reducible repeat (first | apply Kd.R_alloc | apply Kd.R_drewN | apply Kd.R_drew)); exact Kd.R_mono HO1006.out (fun _ hk => hk.2)⟩, ⟨by (with_reducible repeat (first | apply Kd.R_alloc | apply Kd.R_drewN | apply Kd.R_drew)); exact Kd.R_mono HO1011.out (fun _ hk => hk.2)⟩, ⟨by (with_reducible repeat (first | refine blk_drewN ?_ _ | refine blk_drew ?_ | refine blk_alloc ?_ _)); exact BK1001.out⟩, ⟨by repeat (first | (with_reducible first | exact HB.out | apply below_alloc | apply pw_below_drewN | apply below_drew1 | refine below_set ?_ GE1001.out) | exact HB.out)⟩⟩
              · rw [if_neg c24] at H
                have c24b0 : (t1012 == 0) = false := beq_eq_false_iff_ne.mpr c24
                have c24b1 : (t1012 != 0) = true := bne_iff_ne.mpr c24
                (first | rw [c24b0] | (simp only [i64_w, i32_w]; rw [c24b0]) | skip); have H' := Aside0.mk H
                clear H; go_wp2; go_meet
                case rel => exact ⟨_, (true), (by first | rfl | (simp; done) | (simp [*]; done)), H', ⟨by have := HJ5.out; first | omega | exact Nat.le_refl _⟩, ⟨by (with_reducible repeat (first | apply Kd.R_alloc | apply Kd.R_drewN | apply Kd.R_drew)); exact Kd.R_mono HO1006.out (fun _ hk => hk.2)⟩, ⟨by (with_reducible repeat (first | apply Kd.R_alloc | apply Kd.R_drewN | apply Kd.R_drew)); exact Kd.R_mono HO1011.out (fun _ hk => hk.2)⟩, ⟨by (with_reducible repeat (first | refine blk_drewN ?_ _ | refine blk_drew ?_ | refine blk_alloc ?_ _)); exact BK1001.out⟩, ⟨by repeat (first | (with_reducible first | exact HB.out | apply below_alloc | apply pw_below_drewN | apply below_drew1 | refine below_set ?_ GE1001.out) | exact HB.out)⟩⟩
            case rest =>
              clear HC22; try clear c1
              try clear c2
              try clear p2
              try clear c3
              try clear c4
              try clear c10
              try clear c11
              try clear c12
              try clear c13
              try clear c20
              try clear c20b0
              try clear c20b1
              try clear c24
              try clear c24b0
              try clear c24b1
              try clear hcz9_0
              try clear hcz9_1
              try clear hcz9_2
              try clear hcz9_3
              try clear hcz9_4
              try clear hcz9_5
              try clear hcz9_6
              try clear hcz9_7
              try clear hfz9_0
              try clear hfz9_1
              try clear hfz9_2
              try clear hfz9_3
              try clear hfz9_4
              try clear hfz9_5
              try clear hfz9_6
              try clear hfz9_7
              try clear p2
              obtain ⟨kq, x60_21, rfl, HA, HJ21, HO_9, HO_12, BK1001, HB⟩ := hcut; cases kq with
              | zero => exact absurd HA.out (by simp [gemotlaw4_ListBack.j1])
              | succ kj21 =>
                have H := HA.out; clear HA; simp only [gemotlaw4_ListBack.j1] at H; by_cases c26 : x60_21 = true
                · subst c26; have H1 : (none) = some r := by rw [if_pos rfl] at H; exact H
                  exact absurd H1 (by simp)
                · replace c26 := Bool.eq_false_iff.mpr c26
                  subst c26; have H1 : (gemotlaw4_ListBack.l0 kj21 a2 t1004 t1009 0 a1_0 a1_1 a1_2 a1_3 a1_4 a1_5 l1_6 l1_7) = some r := by rw [if_neg (show ¬ (false = true) by decide)] at H; exact H
                  clear H; have H := H1; clear H1; have H' := Aside0.mk H
                  clear H; go_wp2; go_loopg [14] kj21 (fun kq v14 w' => ∃ (x14_3 : Int), v14 = .int .i64 x14_3 ∧ Aside0 (gemotlaw4_ListBack.l0 kq a2 t1004 t1009 x14_3 a1_0 a1_1 a1_2 a1_3 a1_4 a1_5 l1_6 l1_7 = some r) ∧ Aside0 (kq ≤ kj21) ∧ Aside0 (Kd.R Kd.string 23 w' w.heap.size (fun k_ => some k_ ≠ (v1010 : Value).ownBlock) (.slice Ao18 t1004.length co18) t1004) ∧ Aside0 (Kd.R Kd.string 23 w' w.heap.size (fun k_ => some k_ ≠ ((.slice Ao18 t1004.length co18) : Value).ownBlock) v1010 t1009) ∧ Aside0 (w'.heap[gb1001]? = some (.cells #[.int .i64 a1_0, .int .i64 a1_1, .int .i64 a1_2, .int .i64 a1_3, .int .i64 a1_4, .int .i64 a1_5, (.slice A1_6 l1_6.length c1_6), (.slice A1_7 l1_7.length c1_7)] 39 (0, 0))) ∧ Aside0 (Below w.heap.size w w'))
                  case atStart => exact ⟨(0), (by first | rfl | (simp; done) | (simp [*]; done)), H', ⟨Nat.le_refl _⟩, ⟨by (with_reducible repeat (first | apply Kd.R_alloc | apply Kd.R_drewN | apply Kd.R_drew)); exact HO_9.out⟩, ⟨by (with_reducible repeat (first | apply Kd.R_alloc | apply Kd.R_drewN | apply Kd.R_drew)); exact HO_12.out⟩, ⟨by (with_reducible repeat (first | refine blk_drewN ?_ _ | refine blk_drew ?_ | refine blk_alloc ?_ _)); exact BK1001.out⟩, ⟨by repeat (first | (with_reducible first | exact HB.out | apply below_alloc | apply pw_below_drewN | apply below_drew1 | refine below_set ?_ GE1001.out) | exact HB.out)⟩⟩
                  case round =>
                    clear H'; try clear c1
                    try clear c2
                    try clear p2
                    try clear c3
                    try clear c4
                    try clear c10
                    try clear c11
                    try clear c12
                    try clear c13
                    try clear c20
                    try clear c20b0
                    try clear c20b1
                    try clear c24
                    try clear c24b0
                    try clear c24b1
                    try clear c26
                    try clear hcz9_0
                    try clear hcz9_1
                    try clear hcz9_2
                    try clear hcz9_3
                    try clear hcz9_4
                    try clear hcz9_5
                    try clear hcz9_6
                    try clear hcz9_7
                    try clear hfz9_0
                    try clear hfz9_1
                    try clear hfz9_2
                    try clear hfz9_3
                    try clear hfz9_4
                    try clear hfz9_5
                    try clear hfz9_6
                    try clear hfz9_7
                    try clear p2
                    obtain ⟨x14_3, rfl, HA, HK3, HO_9, HO_12, BK1001, HB⟩ := hrel; cases gk with
                    | zero => exact absurd HA.out (by simp [gemotlaw4_ListBack.l0])
                    | succ k3 =>
                      have H := HA.out; clear HA; simp only [gemotlaw4_ListBack.l0] at H; by_cases c27 : x14_3 < (t1004.length : Int)
                      · rw [if_pos c27] at H
                        have c27b0 : decide (x14_3 < (t1004.length : Int)) = true := decide_eq_true c27
                        clear c27; by_cases c28 : 0 ≤ x14_3
                        · rw [if_pos c28] at H
                          have c28b0 : decide (0 ≤ x14_3) = true := decide_eq_true c28
                          clear c28; by_cases c29 : x14_3 < (t1009.length : Int)
                          · rw [if_pos c29] at H
                            have c29b0 : decide (x14_3 < (t1009.length : Int)) = true := decide_eq_true c29
                            clear c29; by_cases c30 : (rdOf ByteArray.empty t1009 x14_3).toList = (rdOf ByteArray.empty t1004 x14_3).toList
                            · rw [if_pos c30] at H
                              have c30b0 : ((rdOf ByteArray.empty t1009 x14_3).toList == (rdOf ByteArray.empty t1004 x14_3).toList) = true := beq_iff_eq.mpr c30
                              have c30b1 : ((rdOf ByteArray.empty t1009 x14_3).toList != (rdOf ByteArray.empty t1004 x14_3).toList) = false := bne_eq_false_iff_eq.mpr c30
                              clear c30; have H' := Aside0.mk H
                              clear H; try go_wp2
                              have n0_ := Aside0.mk (Kd.R_drew HO_9.out)
                              have n1_ := Aside0.mk (Kd.R_drew HO_12.out)
                              have n2_ := Aside0.mk (blk_drew BK1001.out)
                              have n3_ := Aside0.mk (below_drew1 HB.out)
                              clear HO_9; clear HO_12; clear BK1001; clear HB; have HO_9 := n0_; have HO_12 := n1_; have BK1001 := n2_; have HB := n3_; clear n0_ n1_ n2_ n3_; obtain ⟨Ao32, co32, eo32⟩ := Kd.R_slice HO_12.out; (first | subst eo32 | (injection eo32 with f1_ f2_ f3_; have f4_ := f1_.symm; have f5_ := f3_.symm; clear f1_ f2_ f3_; subst f4_; subst f5_)); have p1013 : 0 ≤ (x14_3 : Int) := of_decide_eq_true (by first | (with_reducible assumption) | assumption)
                              have q1013 : x14_3 < (t1009.length : Int) := of_decide_eq_true (by first | (with_reducible assumption) | assumption)
                              obtain ⟨ad1013, e1013, hx1013_0⟩ := Kd.at_string (Kd.R_reads' HO_12.out).2.2 x14_3 p1013 q1013
                              cases e1013
                              replace p1013 := eq_true p1013
                              replace q1013 := eq_true q1013
                              have p1014 : 0 ≤ (x14_3 : Int) := of_decide_eq_true (by first | (with_reducible assumption) | assumption)
                              have q1014 : x14_3 < (t1004.length : Int) := of_decide_eq_true (by first | (with_reducible assumption) | assumption)
                              obtain ⟨ad1014, e1014, hx1014_0⟩ := Kd.at_string (Kd.R_reads' HO_9.out).2.2 x14_3 p1014 q1014
                              cases e1014
                              replace p1014 := eq_true p1014
                              replace q1014 := eq_true q1014
                              refine start_ (n := 9) (S := fun w' => w'.cell? (ad1013.add (x14_3).toNat) = some (.string (rdOf ByteArray.empty t1009 x14_3)) ∧ w'.cell? (ad1014.add (x14_3).toNat) = some (.string (rdOf ByteArray.empty t1004 x14_3))) (ds := []) #[false, false, false, false, false, false, false, false, false] (by kernel_rfl) rfl rfl ⟨hx1013_0, hx1014_0⟩ (fun hHeld => ?_); refine with_tabW gemotlaw4_ListBack.tab14 gemotlaw4_ListBack.bits14 (fun HT_ HW_ => ?_)
                              generalize wr.drew = w31 at HO_9 HO_12 BK1001 HB hx1013_0 hx1014_0 hHeld ⊢
                              refine pure_ (i := 0) (N := some 67) (v := ?_) (a' := ?_) #[true, false, false, false, false, false, false, false, false] rfl rfl (any_of HT_.out (by kernel_rfl)) (fun _ _ _ h => h) (Or.inl ⟨by rfl, ?_⟩) ?_ ?_
                              rotate_left
                              · intro w'; go_simp; with_reducible rfl
                              rotate_left; · (simp only [Act.put, List.setIfInBounds_toArray, List.set_cons_zero, List.set_cons_succ, i64_w, i32_w]; rfl)
                              refine pure_ (i := 1) (N := some 68) (v := ?_) (a' := ?_) #[true, true, false, false, false, false, false, false, false] rfl rfl (any_of HT_.out (by kernel_rfl)) (fun _ _ _ h => h) (Or.inl ⟨by rfl, ?_⟩) ?_ ?_
                              rotate_left
                              · intro w'; go_simp; with_reducible rfl
                              rotate_left; · (simp only [Act.put, List.setIfInBounds_toArray, List.set_cons_zero, List.set_cons_succ, i64_w, i32_w]; rfl)
                              refine pure_ (i := 2) (N := some 69) (v := ?_) (a' := ?_) #[true, true, true, false, false, false, false, false, false] rfl rfl (any_of HT_.out (by kernel_rfl)) (fun _ _ _ h => h) (Or.inl ⟨by rfl, ?_⟩) ?_ ?_
                              rotate_left
                              · intro w'; go_simp; with_reducible rfl
                              rotate_left; · (simp only [Act.put, List.setIfInBounds_toArray, List.set_cons_zero, List.set_cons_succ, i64_w, i32_w]; rfl)
                              refine pure_ (i := 4) (N := some 71) (v := ?_) (a' := ?_) #[true, true, true, false, true, false, false, false, false] rfl rfl (any_of HT_.out (by kernel_rfl)) (fun _ _ _ h => h) (Or.inl ⟨by rfl, ?_⟩) ?_ ?_
                              rotate_left
                              · intro w'; go_simp; with_reducible rfl
                              rotate_left; · (simp only [Act.put, List.setIfInBounds_toArray, List.set_cons_zero, List.set_cons_succ, i64_w, i32_w]; rfl)
                              refine pure_ (i := 5) (N := some 72) (v := ?_) (a' := ?_) #[true, true, true, false, true, true, false, false, false] rfl rfl (any_of HT_.out (by kernel_rfl)) (fun _ _ _ h => h) (Or.inl ⟨by rfl, ?_⟩) ?_ ?_
                              rotate_left
                              · intro w'; go_simp; with_reducible rfl
                              rotate_left; · (simp only [Act.put, List.setIfInBounds_toArray, List.set_cons_zero, List.set_cons_succ, i64_w, i32_w]; rfl)
                              refine pure_ (i := 6) (N := some 73) (v := ?_) (a' := ?_) #[true, true, true, false, true, true, true, false, false] rfl rfl (any_of HT_.out (by kernel_rfl)) (fun _ _ _ h => h) (Or.inl ⟨by rfl, ?_⟩) ?_ ?_
                              rotate_left
                              · intro w'; go_simp; with_reducible rfl
                              rotate_left; · (simp only [Act.put, List.setIfInBounds_toArray, List.set_cons_zero, List.set_cons_succ, i64_w, i32_w]; rfl)
                              refine take_ (i := 3) (N := some 70) (v := ?_) (a' := ?_) #[true, true, true, true, true, true, true, false, false] rfl rfl (take_ofW HT_.out HW_.out (by kernel_rfl)) (fun _ _ _ h => h) (Or.inl ⟨by rfl, ?_⟩) hHeld ?_ ?_
                              rotate_left
                              · rintro w' ⟨s0, s1⟩; go_simp; with_reducible rfl
                              rotate_left; · (simp only [Act.put, List.setIfInBounds_toArray, List.set_cons_zero, List.set_cons_succ, i64_w, i32_w]; rfl)
                              refine take_ (i := 7) (N := some 74) (v := ?_) (a' := ?_) #[true, true, true, true, true, true, true, true, false] rfl rfl (take_ofW HT_.out HW_.out (by kernel_rfl)) (fun _ _ _ h => h) (Or.inl ⟨by rfl, ?_⟩) hHeld ?_ ?_
                              rotate_left
                              · rintro w' ⟨s0, s1⟩; go_simp; with_reducible rfl
                              rotate_left; · (simp only [Act.put, List.setIfInBounds_toArray, List.set_cons_zero, List.set_cons_succ, i64_w, i32_w]; rfl)
                              refine pure_ (i := 8) (N := some 75) (v := ?_) (a' := ?_) #[true, true, true, true, true, true, true, true, true] rfl rfl (any_of HT_.out (by kernel_rfl)) (fun _ _ _ h => h) (Or.inl ⟨by rfl, ?_⟩) ?_ ?_
                              rotate_left
                              · intro w'; go_simp; with_reducible rfl
                              rotate_left; · (simp only [Act.put, List.setIfInBounds_toArray, List.set_cons_zero, List.set_cons_succ, i64_w, i32_w]; rfl)
                              refine done_ (done_of HT_.out (by kernel_rfl)) ?_
                              try go_wp2
                              go_roundg k3
                              case measure => have := HJ5.out; have := HJ21.out; have := HK3.out; omega
                              case rel => exact ⟨(wrap64 (x14_3 + 1)), (by first | rfl | (simp; done) | (simp [*]; done)), H', ⟨by have := HJ5.out; have := HJ21.out; have := HK3.out; omega⟩, ⟨by (with_reducible repeat (first | apply Kd.R_alloc | apply Kd.R_drewN | apply Kd.R_drew)); exact HO_9.out⟩, ⟨by (with_reducible repeat (first | apply Kd.R_alloc | apply Kd.R_drewN | apply Kd.R_drew)); exact HO_12.out⟩, ⟨by (with_reducible repeat (first | refine blk_drewN ?_ _ | refine blk_drew ?_ | refine blk_alloc ?_ _)); exact BK1001.out⟩, ⟨by repeat (first | (with_reducible first | exact HB.out | apply below_alloc | apply pw_below_drewN | apply below_drew1 | refine below_set ?_ GE1001.out) | exact HB.out)⟩⟩
                            · rw [if_neg c30] at H
                              exact absurd H (by simp)
                          · rw [if_neg c29] at H
                            exact absurd H (by simp)
                        · rw [if_neg c28] at H
                          exact absurd H (by simp)
                      · rw [if_neg c27] at H
                        have c27b0 : decide (x14_3 < (t1004.length : Int)) = false := decide_eq_false c27
                        clear c27; have H' := Aside0.mk H
                        clear H; go_wp2; go_meet
                        case rel => exact ⟨_, H', ⟨by have := HJ5.out; have := HJ21.out; have := HK3.out; first | omega | exact Nat.le_refl _⟩, ⟨by (with_reducible repeat (first | apply Kd.R_alloc | apply Kd.R_drewN | apply Kd.R_drew)); exact Kd.R_mono HO_9.out (fun _ hk => trivial)⟩, ⟨by (with_reducible repeat (first | refine blk_drewN ?_ _ | refine blk_drew ?_ | refine blk_alloc ?_ _)); exact BK1001.out⟩, ⟨by repeat (first | (with_reducible first | exact HB.out | apply below_alloc | apply pw_below_drewN | apply below_drew1 | refine below_set ?_ GE1001.out) | exact HB.out)⟩⟩
          · rw [if_neg c20] at H
            have c20b0 : (t1008 == 0) = false := beq_eq_false_iff_ne.mpr c20
            have c20b1 : (t1008 != 0) = true := bne_iff_ne.mpr c20
            (first | rw [c20b0] | (simp only [i64_w, i32_w]; rw [c20b0]) | skip); have H' := Aside0.mk H
            clear H; go_wp2; go_meet
            case rel => exact ⟨_, H', ⟨by have := HJ5.out; first | omega | exact Nat.le_refl _⟩, ⟨by (with_reducible repeat (first | apply Kd.R_alloc | apply Kd.R_drewN | apply Kd.R_drew)); exact HO1006.out⟩, ⟨by (with_reducible repeat (first | refine blk_drewN ?_ _ | refine blk_drew ?_ | refine blk_alloc ?_ _)); exact BK1001.out⟩, ⟨by repeat (first | (with_reducible first | exact HB.out | apply below_alloc | apply pw_below_drewN | apply below_drew1 | refine below_set ?_ GE1001.out) | exact HB.out)⟩⟩
        case rest =>
          clear HC16; try clear c1
          try clear p1
          try clear q1
          try clear hx1
          try clear c2
          try clear p2
          try clear c3
          try clear c4
          try clear p6
          try clear c10
          try clear p10
          try clear q10
          try clear hx10
          try clear c11
          try clear c12
          try clear c13
          try clear c20
          try clear c20b0
          try clear c20b1
          try clear c24
          try clear c24b0
          try clear c24b1
          try clear c26
          try clear c27
          try clear c27b0
          try clear c28
          try clear c28b0
          try clear c29
          try clear c29b0
          try clear c30
          try clear c30b0
          try clear c30b1
          try clear hcz9_0
          try clear hcz9_1
          try clear hcz9_2
          try clear hcz9_3
          try clear hcz9_4
          try clear hcz9_5
          try clear hcz9_6
          try clear hcz9_7
          try clear hfz9_0
          try clear hfz9_1
          try clear hfz9_2
          try clear hfz9_3
          try clear hfz9_4
          try clear hfz9_5
          try clear hfz9_6
          try clear hfz9_7
          try clear hx1013_0
          try clear hx1014_0
          try clear p1013
          try clear p1014
          try clear p2
          try clear q1013
          try clear q1014
          obtain ⟨kq, HA, HJ15, HO_9, BK1001, HB⟩ := hcut; cases kq with
          | zero => exact absurd HA.out (by simp [gemotlaw4_ListBack.j3])
          | succ kj15 =>
            have H := HA.out; clear HA; simp only [gemotlaw4_ListBack.j3] at H; replace H := Option.bind_eq_some_iff.mp H
            obtain ⟨⟨t1015, t1016⟩, A350, H⟩ := H
            replace H : (if t1016 = 0 then ((list_Unpack.f t1015).bind fun bt1017 => (if bt1017.2.2.2.2.2.2.2.2 = 0 then ((gemotlaw4_asMsg.f a1_0 a1_1 a1_2 a1_3 a1_4 a1_5 l1_6 t1004).bind fun bt1031 => ((gemotlaw4_sameMsg.f bt1017.1 bt1017.2.1 bt1017.2.2.1 bt1017.2.2.2.1 bt1017.2.2.2.2.1 bt1017.2.2.2.2.2.1 bt1017.2.2.2.2.2.2.1 bt1017.2.2.2.2.2.2.2.1 bt1031.1 bt1031.2.1 bt1031.2.2.1 bt1031.2.2.2.1 bt1031.2.2.2.2.1 bt1031.2.2.2.2.2.1 bt1031.2.2.2.2.2.2.1 bt1031.2.2.2.2.2.2.2).bind fun t1043 => (if t1043 = true then (gemotlaw4_ListBack.j4 kj15 a2) else (none)))) else (none))) else (gemotlaw4_ListBack.j4 kj15 a2)) = some r := H
            have A35 := Aside0.mk A350
            clear A350; have HC36 := Aside0.mk H
            clear H; have hcz37_0 : wc.cell? ⟨gb1001, 0, none⟩ = some (.int .i64 a1_0) := (blk_cell BK1001.out 0).trans rfl
            have hcz37_1 : wc.cell? ⟨gb1001, 1, none⟩ = some (.int .i64 a1_1) := (blk_cell BK1001.out 1).trans rfl
            have hcz37_2 : wc.cell? ⟨gb1001, 2, none⟩ = some (.int .i64 a1_2) := (blk_cell BK1001.out 2).trans rfl
            have hcz37_3 : wc.cell? ⟨gb1001, 3, none⟩ = some (.int .i64 a1_3) := (blk_cell BK1001.out 3).trans rfl
            have hcz37_4 : wc.cell? ⟨gb1001, 4, none⟩ = some (.int .i64 a1_4) := (blk_cell BK1001.out 4).trans rfl
            have hcz37_5 : wc.cell? ⟨gb1001, 5, none⟩ = some (.int .i64 a1_5) := (blk_cell BK1001.out 5).trans rfl
            have hcz37_6 : wc.cell? ⟨gb1001, 6, none⟩ = some (.slice A1_6 l1_6.length c1_6) := (blk_cell BK1001.out 6).trans rfl
            have hcz37_7 : wc.cell? ⟨gb1001, 7, none⟩ = some (.slice A1_7 l1_7.length c1_7) := (blk_cell BK1001.out 7).trans rfl
            have hfz37_0 := blk_frozen BK1001.out 0; have hfz37_1 := blk_frozen BK1001.out 1; have hfz37_2 := blk_frozen BK1001.out 2; have hfz37_3 := blk_frozen BK1001.out 3; have hfz37_4 := blk_frozen BK1001.out 4; have hfz37_5 := blk_frozen BK1001.out 5; have hfz37_6 := blk_frozen BK1001.out 6; have hfz37_7 := blk_frozen BK1001.out 7; go_upto_if 84 with (first | ((with_reducible refine gate_callee (f := 43) rfl ?_); refine goesL_ (some 80) rfl rfl Try.func43 (by kernel_rfl) rfl #[.agg #[.int .i64 a1_0, .int .i64 a1_1, .int .i64 a1_2, .int .i64 a1_3, .int .i64 a1_4, .int .i64 a1_5, .slice A1_6 l1_6.length c1_6, .slice Ao18 t1004.length co18]] rfl (by (try simp only [List.map_toArray, List.map_cons, List.map_nil]); first | done | rfl | (simp only [List.length_drop, List.length_take]; rfl)) ?_; (with_reducible refine (list_Pack.calls a1_0 a1_1 a1_2 a1_3 a1_4 a1_5 _ _ l1_6 _ _ t1004 t1015 t1016 _ ?side1 ?side2 ?side3 ?side4 A35.out).mono ?_); (case side1 => exact Kd.C_below HR1_6.out (by repeat (with_reducible first | exact HB.out | apply below_alloc | apply pw_below_drewN | apply below_drew1 | refine below_set ?_ GE1001.out))); (case side2 => exact HC1_6.out); (case side3 => refine (Kd.R_reads' (e := 23) (base := w.heap.size) (ok := fun k_ => True) (n := t1004.length) (c := co18) ?_).2.2; exact (by (with_reducible repeat (first | apply Kd.R_alloc | apply Kd.R_drewN | apply Kd.R_drew)); exact (Kd.R_mono (Kd.R_far (p := ⟨gb1001, 7, none⟩) (Kd.R_types HO_9.out BK1001.out (by decide)) (fun _ hk => hk.2) (.slice Ao18 t1004.length co18)) (fun _ h_ => h_.1)))); (case side4 => exact (Kd.R_reads' HO_9.out).2.1); rintro e w38 ⟨rfl, hb⟩; refine ⟨_, rfl, ?_⟩; have n0_ := Aside0.mk (Kd.R_below (by (with_reducible repeat (first | apply Kd.R_alloc | apply Kd.R_drewN | apply Kd.R_drew)); exact (Kd.R_mono (Kd.R_far (p := ⟨gb1001, 7, none⟩) (Kd.R_types HO_9.out BK1001.out (by decide)) (fun _ hk => hk.2) (.slice Ao18 t1004.length co18)) (fun _ h_ => h_.1))) hb); have n1_ := Aside0.mk (blk_below (g := gb1001) (o := .cells #[.int .i64 a1_0, .int .i64 a1_1, .int .i64 a1_2, .int .i64 a1_3, .int .i64 a1_4, .int .i64 a1_5, .slice A1_6 l1_6.length c1_6, .slice Ao18 t1004.length co18] 39 (0, 0)) (by (with_reducible repeat (first | refine blk_drewN ?_ _ | refine blk_drew ?_ | refine blk_alloc ?_ _)); refine blk_put (cs := #[.int .i64 a1_0, .int .i64 a1_1, .int .i64 a1_2, .int .i64 a1_3, .int .i64 a1_4, .int .i64 a1_5, .slice A1_6 l1_6.length c1_6, .slice A1_7 l1_7.length c1_7]) ?_ 7 _ rfl; (with_reducible repeat (first | refine blk_drewN ?_ _ | refine blk_drew ?_ | refine blk_alloc ?_ _)); exact BK1001.out) hb); have n2_ := Aside0.mk (below_step (by repeat (with_reducible first | exact HB.out | apply below_alloc | apply pw_below_drewN | apply below_drew1 | refine below_set ?_ GE1001.out)) hb); clear HO_9; clear BK1001; clear HB; have HO_9 := n0_; have BK1001 := n1_; have HB := n2_; clear n0_ n1_ n2_; (try clear hb)))
            (try simp only [Act.put, List.setIfInBounds_toArray, List.set_cons_zero, List.set_cons_succ]); go_cut [] (fun wc => ∃ (kq : Nat), Aside0 (gemotlaw4_ListBack.j4 kq a2 = some r) ∧ Aside0 (kq ≤ kj15) ∧ Aside0 (Kd.R Kd.string 23 wc w.heap.size (fun _ => True) (.slice Ao18 t1004.length co18) t1004) ∧ Aside0 (wc.heap[gb1001]? = some (.cells #[.int .i64 a1_0, .int .i64 a1_1, .int .i64 a1_2, .int .i64 a1_3, .int .i64 a1_4, .int .i64 a1_5, (.slice A1_6 l1_6.length c1_6), (.slice Ao18 t1004.length co18)] 39 (0, 0))) ∧ Aside0 (Below w.heap.size w wc))
            case first =>
              have H := HC36.out; clear HC36; by_cases c39 : t1016 = 0
              · rw [if_pos c39] at H
                have c39b0 : (t1016 == 0) = true := beq_iff_eq.mpr c39
                have c39b1 : (t1016 != 0) = false := bne_eq_false_iff_eq.mpr c39
                clear c39; (first | rw [c39b0] | (simp only [i64_w, i32_w]; rw [c39b0]) | skip); replace H := Option.bind_eq_some_iff.mp H
                obtain ⟨⟨t1017, t1018, t1019, t1020, t1021, t1022, t1023, t1026, t1029⟩, A400, H⟩ := H
                replace H : (if t1029 = 0 then ((gemotlaw4_asMsg.f a1_0 a1_1 a1_2 a1_3 a1_4 a1_5 l1_6 t1004).bind fun bt1031 => ((gemotlaw4_sameMsg.f t1017 t1018 t1019 t1020 t1021 t1022 t1023 t1026 bt1031.1 bt1031.2.1 bt1031.2.2.1 bt1031.2.2.2.1 bt1031.2.2.2.2.1 bt1031.2.2.2.2.2.1 bt1031.2.2.2.2.2.2.1 bt1031.2.2.2.2.2.2.2).bind fun t1043 => (if t1043 = true then (gemotlaw4_ListBack.j4 kj15 a2) else (none)))) else (none)) = some r := H
                have A40 := Aside0.mk A400
                clear A400; by_cases c41 : t1029 = 0
                · rw [if_pos c41] at H
                  have c41b0 : (t1029 == 0) = true := beq_iff_eq.mpr c41
                  have c41b1 : (t1029 != 0) = false := bne_eq_false_iff_eq.mpr c41
                  clear c41; replace H := Option.bind_eq_some_iff.mp H
                  obtain ⟨⟨t1031, t1032, t1033, t1034, t1035, t1036, t1037, t1040⟩, A420, H⟩ := H
                  replace H : ((gemotlaw4_sameMsg.f t1017 t1018 t1019 t1020 t1021 t1022 t1023 t1026 t1031 t1032 t1033 t1034 t1035 t1036 t1037 t1040).bind fun t1043 => (if t1043 = true then (gemotlaw4_ListBack.j4 kj15 a2) else (none))) = some r := H
                  have A42 := Aside0.mk A420
                  clear A420; replace H := Option.bind_eq_some_iff.mp H
                  obtain ⟨t1043, A430, H⟩ := H; replace H : (if t1043 = true then (gemotlaw4_ListBack.j4 kj15 a2) else (none)) = some r := H
                  have A43 := Aside0.mk A430
                  clear A430; by_cases c44 : t1043 = true
                  · subst c44; have H1 : (gemotlaw4_ListBack.j4 kj15 a2) = some r := by rw [if_pos rfl] at H; exact H
                    clear H; have H := H1; clear H1; have H' := Aside0.mk H
                    clear H; try go_wp2_with (first | ((with_reducible refine gate_callee (f := 51) rfl ?_); refine goesL_ (some 87) rfl rfl Try.func51 (by kernel_rfl) rfl #[.string t1015] rfl (by simp only [List.map_toArray, List.map_cons, List.map_nil] <;> rfl) ?_; (with_reducible refine (list_Unpack.calls t1015 t1017 t1018 t1019 t1020 t1021 t1022 t1023 t1026 t1029 _ A40.out).mono ?_); rintro e w45 ⟨v1024, v1027, rfl, ho0, ho1, hb⟩; refine ⟨_, rfl, ?_⟩; have n0_ := Aside0.mk (Kd.R_below (by (with_reducible repeat (first | apply Kd.R_alloc | apply Kd.R_drewN | apply Kd.R_drew)); exact HO_9.out) hb); have n1_ := Aside0.mk (Kd.V_lower (Kd.V_mono (ok' := fun k_ => some k_ ≠ (.slice Ao18 t1004.length co18 : Value).ownBlock ∧ k_ ≠ gb1001) ho0 (fun k_ hk_ => ⟨(Kd.fresh' (Kd.R_lt (by (with_reducible repeat (first | apply Kd.R_alloc | apply Kd.R_drewN | apply Kd.R_drew)); exact HO_9.out)) k_ hk_), (Kd.freshB (g := gb1001) (o := .cells #[.int .i64 a1_0, .int .i64 a1_1, .int .i64 a1_2, .int .i64 a1_3, .int .i64 a1_4, .int .i64 a1_5, .slice A1_6 l1_6.length c1_6, .slice Ao18 t1004.length co18] 39 (0, 0)) (by (with_reducible repeat (first | refine blk_drewN ?_ _ | refine blk_drew ?_ | refine blk_alloc ?_ _)); exact BK1001.out) k_ hk_)⟩)) (below_size (by repeat (with_reducible first | exact HB.out | apply below_alloc | apply pw_below_drewN | apply below_drew1 | refine below_set ?_ GE1001.out)))); have n2_ := Aside0.mk (Kd.V_lower (Kd.V_mono (ok' := fun k_ => some k_ ≠ (.slice Ao18 t1004.length co18 : Value).ownBlock ∧ k_ ≠ gb1001) ho1 (fun k_ hk_ => ⟨(Kd.fresh' (Kd.R_lt (by (with_reducible repeat (first | apply Kd.R_alloc | apply Kd.R_drewN | apply Kd.R_drew)); exact HO_9.out)) k_ hk_), (Kd.freshB (g := gb1001) (o := .cells #[.int .i64 a1_0, .int .i64 a1_1, .int .i64 a1_2, .int .i64 a1_3, .int .i64 a1_4, .int .i64 a1_5, .slice A1_6 l1_6.length c1_6, .slice Ao18 t1004.length co18] 39 (0, 0)) (by (with_reducible repeat (first | refine blk_drewN ?_ _ | refine blk_drew ?_ | refine blk_alloc ?_ _)); exact BK1001.out) k_ hk_)⟩)) (below_size (by repeat (with_reducible first | exact HB.out | apply below_alloc | apply pw_below_drewN | apply below_drew1 | refine below_set ?_ GE1001.out)))); have n3_ := Aside0.mk (blk_below (g := gb1001) (o := .cells #[.int .i64 a1_0, .int .i64 a1_1, .int .i64 a1_2, .int .i64 a1_3, .int .i64 a1_4, .int .i64 a1_5, .slice A1_6 l1_6.length c1_6, .slice Ao18 t1004.length co18] 39 (0, 0)) (by (with_reducible repeat (first | refine blk_drewN ?_ _ | refine blk_drew ?_ | refine blk_alloc ?_ _)); exact BK1001.out) hb); have n4_ := Aside0.mk (below_step (by repeat (with_reducible first | exact HB.out | apply below_alloc | apply pw_below_drewN | apply below_drew1 | refine below_set ?_ GE1001.out)) hb); clear HO_9; clear BK1001; clear HB; have HO_9 := n0_; have HO1025 := n1_; have HO1028 := n2_; have BK1001 := n3_; have HB := n4_; clear n0_ n1_ n2_ n3_ n4_; (try clear hb); (try clear ho0); (try clear ho1)) | ((with_reducible refine gate_dst (N := 17) rfl ?_); refine box_event ?hg (N := 17) ?hd (cs := #[.int .i64 0, .int .i64 0, .int .i64 0, .int .i64 0, .int .i64 0, .int .i64 0, .slice none 0 0, .slice none 0 0]) (t := 39) ?hr ?_; (case hd => rfl); (case hg => rfl); (case hr => first | (go_simp; done) | (go_simp; rfl)); intro gb1030 hg w46 hbox hb; have n0_ := Aside0.mk (Kd.R_below (by (with_reducible repeat (first | apply Kd.R_alloc | apply Kd.R_drewN | apply Kd.R_drew)); exact HO_9.out) hb); have n1_ := Aside0.mk (Kd.V_below (Kd.V_elderB (by (with_reducible repeat (first | apply Kd.V_alloc | apply Kd.V_drewN | apply Kd.V_drew)); exact HO1025.out) gb1030 (Nat.le_of_eq hg.symm)) hb); have n2_ := Aside0.mk (Kd.V_below (Kd.V_elderB (by (with_reducible repeat (first | apply Kd.V_alloc | apply Kd.V_drewN | apply Kd.V_drew)); exact HO1028.out) gb1030 (Nat.le_of_eq hg.symm)) hb); have n3_ := Aside0.mk (blk_below (g := gb1001) (o := .cells #[.int .i64 a1_0, .int .i64 a1_1, .int .i64 a1_2, .int .i64 a1_3, .int .i64 a1_4, .int .i64 a1_5, .slice A1_6 l1_6.length c1_6, .slice Ao18 t1004.length co18] 39 (0, 0)) (by (with_reducible repeat (first | refine blk_drewN ?_ _ | refine blk_drew ?_ | refine blk_alloc ?_ _)); exact BK1001.out) hb); have n4_ := Aside0.mk (below_step (by repeat (with_reducible first | exact HB.out | apply below_alloc | apply pw_below_drewN | apply below_drew1 | refine below_set ?_ GE1001.out)) hb); have n5_ := Aside0.mk (hbox); have n6_ := Aside0.mk ((by rw [hg]; exact (below_size (by repeat (with_reducible first | exact HB.out | apply below_alloc | apply pw_below_drewN | apply below_drew1 | refine below_set ?_ GE1001.out))) : w.heap.size ≤ gb1030)); have n7_ := Aside0.mk ((by rw [hg]; exact (below_size (by repeat (with_reducible first | exact HB.out | apply below_alloc | apply pw_below_drewN | apply below_drew1 | refine below_set ?_ GE1001.out))) : w.heap.size ≤ gb1030)); have n8_ := Aside0.mk ((by rw [hg]; exact Nat.ne_of_lt (blk_lt (g := gb1001) (o := .cells #[.int .i64 a1_0, .int .i64 a1_1, .int .i64 a1_2, .int .i64 a1_3, .int .i64 a1_4, .int .i64 a1_5, .slice A1_6 l1_6.length c1_6, .slice Ao18 t1004.length co18] 39 (0, 0)) (by (with_reducible repeat (first | refine blk_drewN ?_ _ | refine blk_drew ?_ | refine blk_alloc ?_ _)); exact BK1001.out)) : gb1001 ≠ gb1030)); have n9_ := Aside0.mk ((by rw [hg]; exact Nat.ne_of_gt (blk_lt (g := gb1001) (o := .cells #[.int .i64 a1_0, .int .i64 a1_1, .int .i64 a1_2, .int .i64 a1_3, .int .i64 a1_4, .int .i64 a1_5, .slice A1_6 l1_6.length c1_6, .slice Ao18 t1004.length co18] 39 (0, 0)) (by (with_reducible repeat (first | refine blk_drewN ?_ _ | refine blk_drew ?_ | refine blk_alloc ?_ _)); exact BK1001.out)) : gb1030 ≠ gb1001)); clear HO_9; clear HO1025; clear HO1028; clear BK1001; clear HB; have HO_9 := n0_; have HO1025 := n1_; have HO1028 := n2_; have BK1001 := n3_; have HB := n4_; have BK1030 := n5_; have GW1030 := n6_; have GE1030 := n7_; have NB1001_1030 := n8_; have NB1030_1001 := n9_; clear n0_ n1_ n2_ n3_ n4_ n5_ n6_ n7_ n8_ n9_; clear hb hbox hg; have hnb47 := NB1030_1001.out; have hnc47 := NB1001_1030.out; have hcz48_0 : w46.cell? ⟨gb1030, 0, none⟩ = some (.int .i64 0) := (blk_cell BK1030.out 0).trans rfl; have hcz48_1 : w46.cell? ⟨gb1030, 1, none⟩ = some (.int .i64 0) := (blk_cell BK1030.out 1).trans rfl; have hcz48_2 : w46.cell? ⟨gb1030, 2, none⟩ = some (.int .i64 0) := (blk_cell BK1030.out 2).trans rfl; have hcz48_3 : w46.cell? ⟨gb1030, 3, none⟩ = some (.int .i64 0) := (blk_cell BK1030.out 3).trans rfl; have hcz48_4 : w46.cell? ⟨gb1030, 4, none⟩ = some (.int .i64 0) := (blk_cell BK1030.out 4).trans rfl; have hcz48_5 : w46.cell? ⟨gb1030, 5, none⟩ = some (.int .i64 0) := (blk_cell BK1030.out 5).trans rfl; have hcz48_6 : w46.cell? ⟨gb1030, 6, none⟩ = some (.slice none 0 0) := (blk_cell BK1030.out 6).trans rfl; have hcz48_7 : w46.cell? ⟨gb1030, 7, none⟩ = some (.slice none 0 0) := (blk_cell BK1030.out 7).trans rfl; have hfz48_0 := blk_frozen BK1030.out 0; have hfz48_1 := blk_frozen BK1030.out 1; have hfz48_2 := blk_frozen BK1030.out 2; have hfz48_3 := blk_frozen BK1030.out 3; have hfz48_4 := blk_frozen BK1030.out 4; have hfz48_5 := blk_frozen BK1030.out 5; have hfz48_6 := blk_frozen BK1030.out 6; have hfz48_7 := blk_frozen BK1030.out 7; obtain ⟨Ao49, co49, eo49⟩ := Kd.V_slice HO1025.out; subst eo49; obtain ⟨Ao50, co50, eo50⟩ := Kd.V_slice HO1028.out; subst eo50))
                    have n0_ : Aside0 (Kd.R Kd.string 23 ((((((((w46.setCell ⟨gb1030, 0, none⟩ (.int .i64 t1017)).setCell ⟨gb1030, 1, none⟩ (.int .i64 t1018)).setCell ⟨gb1030, 2, none⟩ (.int .i64 t1019)).setCell ⟨gb1030, 3, none⟩ (.int .i64 t1020)).setCell ⟨gb1030, 4, none⟩ (.int .i64 t1021)).setCell ⟨gb1030, 5, none⟩ (.int .i64 t1022)).setCell ⟨gb1030, 6, none⟩ (.slice Ao49 t1023.length co49)).setCell ⟨gb1030, 7, none⟩ (.slice Ao50 t1026.length co50)) w.heap.size (fun _ => True) (.slice Ao18 t1004.length co18) t1004) := ⟨by (with_reducible repeat (first | apply Kd.R_alloc | apply Kd.R_drewN | apply Kd.R_drew)); exact Kd.R_mono (Kd.R_far (p := ⟨gb1030, 7, none⟩) (Kd.R_far (p := ⟨gb1030, 6, none⟩) (Kd.R_far (p := ⟨gb1030, 5, none⟩) (Kd.R_far (p := ⟨gb1030, 4, none⟩) (Kd.R_far (p := ⟨gb1030, 3, none⟩) (Kd.R_far (p := ⟨gb1030, 2, none⟩) (Kd.R_far (p := ⟨gb1030, 1, none⟩) (Kd.R_far (p := ⟨gb1030, 0, none⟩) (Kd.R_types HO_9.out BK1030.out (by decide)) (fun _ hk => hk.2) (.int .i64 t1017)) (fun _ hk => hk.2) (.int .i64 t1018)) (fun _ hk => hk.2) (.int .i64 t1019)) (fun _ hk => hk.2) (.int .i64 t1020)) (fun _ hk => hk.2) (.int .i64 t1021)) (fun _ hk => hk.2) (.int .i64 t1022)) (fun _ hk => hk.2) (.slice Ao49 t1023.length co49)) (fun _ hk => hk.2) (.slice Ao50 t1026.length co50)) (fun _ hk => trivial)⟩
                    have n1_ : Aside0 (Kd.V (Kd.int .i64) 3 ((((((((w46.setCell ⟨gb1030, 0, none⟩ (.int .i64 t1017)).setCell ⟨gb1030, 1, none⟩ (.int .i64 t1018)).setCell ⟨gb1030, 2, none⟩ (.int .i64 t1019)).setCell ⟨gb1030, 3, none⟩ (.int .i64 t1020)).setCell ⟨gb1030, 4, none⟩ (.int .i64 t1021)).setCell ⟨gb1030, 5, none⟩ (.int .i64 t1022)).setCell ⟨gb1030, 6, none⟩ (.slice Ao49 t1023.length co49)).setCell ⟨gb1030, 7, none⟩ (.slice Ao50 t1026.length co50)) w.heap.size (fun k_ => some k_ ≠ (.slice Ao18 t1004.length co18 : Value).ownBlock ∧ k_ ≠ gb1001 ∧ k_ ≠ gb1030) (.slice Ao49 t1023.length co49) t1023) := ⟨by (with_reducible repeat (first | apply Kd.V_alloc | apply Kd.V_drewN | apply Kd.V_drew)); exact Kd.V_mono (Kd.V_far (p := ⟨gb1030, 7, none⟩) (Kd.V_far (p := ⟨gb1030, 6, none⟩) (Kd.V_far (p := ⟨gb1030, 5, none⟩) (Kd.V_far (p := ⟨gb1030, 4, none⟩) (Kd.V_far (p := ⟨gb1030, 3, none⟩) (Kd.V_far (p := ⟨gb1030, 2, none⟩) (Kd.V_far (p := ⟨gb1030, 1, none⟩) (Kd.V_far (p := ⟨gb1030, 0, none⟩) (Kd.V_mono HO1025.out (fun k_ hk => (⟨hk, hk.2⟩ : _ ∧ k_ ≠ gb1030))) (fun _ hk => hk.2) (.int .i64 t1017)) (fun _ hk => hk.2) (.int .i64 t1018)) (fun _ hk => hk.2) (.int .i64 t1019)) (fun _ hk => hk.2) (.int .i64 t1020)) (fun _ hk => hk.2) (.int .i64 t1021)) (fun _ hk => hk.2) (.int .i64 t1022)) (fun _ hk => hk.2) (.slice Ao49 t1023.length co49)) (fun _ hk => hk.2) (.slice Ao50 t1026.length co50)) (fun _ hk => ⟨hk.1.1.1, ⟨hk.1.1.2, hk.1.2⟩⟩)⟩
                    have n2_ : Aside0 (Kd.V Kd.string 23 ((((((((w46.setCell ⟨gb1030, 0, none⟩ (.int .i64 t1017)).setCell ⟨gb1030, 1, none⟩ (.int .i64 t1018)).setCell ⟨gb1030, 2, none⟩ (.int .i64 t1019)).setCell ⟨gb1030, 3, none⟩ (.int .i64 t1020)).setCell ⟨gb1030, 4, none⟩ (.int .i64 t1021)).setCell ⟨gb1030, 5, none⟩ (.int .i64 t1022)).setCell ⟨gb1030, 6, none⟩ (.slice Ao49 t1023.length co49)).setCell ⟨gb1030, 7, none⟩ (.slice Ao50 t1026.length co50)) w.heap.size (fun k_ => some k_ ≠ (.slice Ao18 t1004.length co18 : Value).ownBlock ∧ k_ ≠ gb1001 ∧ k_ ≠ gb1030) (.slice Ao50 t1026.length co50) t1026) := ⟨by (with_reducible repeat (first | apply Kd.V_alloc | apply Kd.V_drewN | apply Kd.V_drew)); exact Kd.V_mono (Kd.V_far (p := ⟨gb1030, 7, none⟩) (Kd.V_far (p := ⟨gb1030, 6, none⟩) (Kd.V_far (p := ⟨gb1030, 5, none⟩) (Kd.V_far (p := ⟨gb1030, 4, none⟩) (Kd.V_far (p := ⟨gb1030, 3, none⟩) (Kd.V_far (p := ⟨gb1030, 2, none⟩) (Kd.V_far (p := ⟨gb1030, 1, none⟩) (Kd.V_far (p := ⟨gb1030, 0, none⟩) (Kd.V_mono HO1028.out (fun k_ hk => (⟨hk, hk.2⟩ : _ ∧ k_ ≠ gb1030))) (fun _ hk => hk.2) (.int .i64 t1017)) (fun _ hk => hk.2) (.int .i64 t1018)) (fun _ hk => hk.2) (.int .i64 t1019)) (fun _ hk => hk.2) (.int .i64 t1020)) (fun _ hk => hk.2) (.int .i64 t1021)) (fun _ hk => hk.2) (.int .i64 t1022)) (fun _ hk => hk.2) (.slice Ao49 t1023.length co49)) (fun _ hk => hk.2) (.slice Ao50 t1026.length co50)) (fun _ hk => ⟨hk.1.1.1, ⟨hk.1.1.2, hk.1.2⟩⟩)⟩
                    have n3_ : Aside0 (((((((((w46.setCell ⟨gb1030, 0, none⟩ (.int .i64 t1017)).setCell ⟨gb1030, 1, none⟩ (.int .i64 t1018)).setCell ⟨gb1030, 2, none⟩ (.int .i64 t1019)).setCell ⟨gb1030, 3, none⟩ (.int .i64 t1020)).setCell ⟨gb1030, 4, none⟩ (.int .i64 t1021)).setCell ⟨gb1030, 5, none⟩ (.int .i64 t1022)).setCell ⟨gb1030, 6, none⟩ (.slice Ao49 t1023.length co49)).setCell ⟨gb1030, 7, none⟩ (.slice Ao50 t1026.length co50)).heap[gb1001]? = some (.cells #[.int .i64 a1_0, .int .i64 a1_1, .int .i64 a1_2, .int .i64 a1_3, .int .i64 a1_4, .int .i64 a1_5, .slice A1_6 l1_6.length c1_6, .slice Ao18 t1004.length co18] 39 (0, 0))) := ⟨by (with_reducible repeat (first | refine blk_drewN ?_ _ | refine blk_drew ?_ | refine blk_alloc ?_ _)); refine blk_far ?_ NB1001_1030.out _; (with_reducible repeat (first | refine blk_drewN ?_ _ | refine blk_drew ?_ | refine blk_alloc ?_ _)); refine blk_far ?_ NB1001_1030.out _; (with_reducible repeat (first | refine blk_drewN ?_ _ | refine blk_drew ?_ | refine blk_alloc ?_ _)); refine blk_far ?_ NB1001_1030.out _; (with_reducible repeat (first | refine blk_drewN ?_ _ | refine blk_drew ?_ | refine blk_alloc ?_ _)); refine blk_far ?_ NB1001_1030.out _; (with_reducible repeat (first | refine blk_drewN ?_ _ | refine blk_drew ?_ | refine blk_alloc ?_ _)); refine blk_far ?_ NB1001_1030.out _; (with_reducible repeat (first | refine blk_drewN ?_ _ | refine blk_drew ?_ | refine blk_alloc ?_ _)); refine blk_far ?_ NB1001_1030.out _; (with_reducible repeat (first | refine blk_drewN ?_ _ | refine blk_drew ?_ | refine blk_alloc ?_ _)); refine blk_far ?_ NB1001_1030.out _; (with_reducible repeat (first | refine blk_drewN ?_ _ | refine blk_drew ?_ | refine blk_alloc ?_ _)); refine blk_far ?_ NB1001_1030.out _; (with_reducible repeat (first | refine blk_drewN ?_ _ | refine blk_drew ?_ | refine blk_alloc ?_ _)); exact BK1001.out⟩
                    have n4_ : Aside0 (((((((((w46.setCell ⟨gb1030, 0, none⟩ (.int .i64 t1017)).setCell ⟨gb1030, 1, none⟩ (.int .i64 t1018)).setCell ⟨gb1030, 2, none⟩ (.int .i64 t1019)).setCell ⟨gb1030, 3, none⟩ (.int .i64 t1020)).setCell ⟨gb1030, 4, none⟩ (.int .i64 t1021)).setCell ⟨gb1030, 5, none⟩ (.int .i64 t1022)).setCell ⟨gb1030, 6, none⟩ (.slice Ao49 t1023.length co49)).setCell ⟨gb1030, 7, none⟩ (.slice Ao50 t1026.length co50)).heap[gb1030]? = some (.cells #[.int .i64 t1017, .int .i64 t1018, .int .i64 t1019, .int .i64 t1020, .int .i64 t1021, .int .i64 t1022, .slice Ao49 t1023.length co49, .slice Ao50 t1026.length co50] 39 (0, 0))) := ⟨by (with_reducible repeat (first | refine blk_drewN ?_ _ | refine blk_drew ?_ | refine blk_alloc ?_ _)); refine blk_put (cs := #[.int .i64 t1017, .int .i64 t1018, .int .i64 t1019, .int .i64 t1020, .int .i64 t1021, .int .i64 t1022, .slice Ao49 t1023.length co49, .slice none 0 0]) ?_ 7 _ rfl; (with_reducible repeat (first | refine blk_drewN ?_ _ | refine blk_drew ?_ | refine blk_alloc ?_ _)); refine blk_put (cs := #[.int .i64 t1017, .int .i64 t1018, .int .i64 t1019, .int .i64 t1020, .int .i64 t1021, .int .i64 t1022, .slice none 0 0, .slice none 0 0]) ?_ 6 _ rfl; (with_reducible repeat (first | refine blk_drewN ?_ _ | refine blk_drew ?_ | refine blk_alloc ?_ _)); refine blk_put (cs := #[.int .i64 t1017, .int .i64 t1018, .int .i64 t1019, .int .i64 t1020, .int .i64 t1021, .int .i64 0, .slice none 0 0, .slice none 0 0]) ?_ 5 _ rfl; (with_reducible repeat (first | refine blk_drewN ?_ _ | refine blk_drew ?_ | refine blk_alloc ?_ _)); refine blk_put (cs := #[.int .i64 t1017, .int .i64 t1018, .int .i64 t1019, .int .i64 t1020, .int .i64 0, .int .i64 0, .slice none 0 0, .slice none 0 0]) ?_ 4 _ rfl; (with_reducible repeat (first | refine blk_drewN ?_ _ | refine blk_drew ?_ | refine blk_alloc ?_ _)); refine blk_put (cs := #[.int .i64 t1017, .int .i64 t1018, .int .i64 t1019, .int .i64 0, .int .i64 0, .int .i64 0, .slice none 0 0, .slice none 0 0]) ?_ 3 _ rfl; (with_reducible repeat (first | refine blk_drewN ?_ _ | refine blk_drew ?_ | refine blk_alloc ?_ _)); refine blk_put (cs := #[.int .i64 t1017, .int .i64 t1018, .int .i64 0, .int .i64 0, .int .i64 0, .int .i64 0, .slice none 0 0, .slice none 0 0]) ?_ 2 _ rfl; (with_reducible repeat (first | refine blk_drewN ?_ _ | refine blk_drew ?_ | refine blk_alloc ?_ _)); refine blk_put (cs := #[.int .i64 t1017, .int .i64 0, .int .i64 0, .int .i64 0, .int .i64 0, .int .i64 0, .slice none 0 0, .slice none 0 0]) ?_ 1 _ rfl; (with_reducible repeat (first | refine blk_drewN ?_ _ | refine blk_drew ?_ | refine blk_alloc ?_ _)); refine blk_put (cs := #[.int .i64 0, .int .i64 0, .int .i64 0, .int .i64 0, .int .i64 0, .int .i64 0, .slice none 0 0, .slice none 0 0]) ?_ 0 _ rfl; (with_reducible repeat (first | refine blk_drewN ?_ _ | refine blk_drew ?_ | refine blk_alloc ?_ _)); exact BK1030.out⟩
                    have n5_ : Aside0 (Below w.heap.size w ((((((((w46.setCell ⟨gb1030, 0, none⟩ (.int .i64 t1017)).setCell ⟨gb1030, 1, none⟩ (.int .i64 t1018)).setCell ⟨gb1030, 2, none⟩ (.int .i64 t1019)).setCell ⟨gb1030, 3, none⟩ (.int .i64 t1020)).setCell ⟨gb1030, 4, none⟩ (.int .i64 t1021)).setCell ⟨gb1030, 5, none⟩ (.int .i64 t1022)).setCell ⟨gb1030, 6, none⟩ (.slice Ao49 t1023.length co49)).setCell ⟨gb1030, 7, none⟩ (.slice Ao50 t1026.length co50))) := ⟨by repeat (first | (with_reducible first | exact HB.out | apply below_alloc | apply pw_below_drewN | apply below_drew1 | refine below_set ?_ GE1001.out | refine below_set ?_ GE1030.out) | exact HB.out)⟩
                    (try clear HO_9); (try clear HO1025); (try clear HO1028); (try clear BK1001); (try clear BK1030); (try clear HB); generalize ((((((((w46.setCell ⟨gb1030, 0, none⟩ (.int .i64 t1017)).setCell ⟨gb1030, 1, none⟩ (.int .i64 t1018)).setCell ⟨gb1030, 2, none⟩ (.int .i64 t1019)).setCell ⟨gb1030, 3, none⟩ (.int .i64 t1020)).setCell ⟨gb1030, 4, none⟩ (.int .i64 t1021)).setCell ⟨gb1030, 5, none⟩ (.int .i64 t1022)).setCell ⟨gb1030, 6, none⟩ (.slice Ao49 t1023.length co49)).setCell ⟨gb1030, 7, none⟩ (.slice Ao50 t1026.length co50)) = w51 at n0_ n1_ n2_ n3_ n4_ n5_ ⊢
                    have HO_9 := n0_; have HO1025 := n1_; have HO1028 := n2_; have BK1001 := n3_; have BK1030 := n4_; have HB := n5_; clear n0_ n1_ n2_ n3_ n4_ n5_; have n0_ := Aside0.mk (Kd.R_drew HO_9.out)
                    have n1_ := Aside0.mk (Kd.V_drew HO1025.out)
                    have n2_ := Aside0.mk (Kd.V_drew HO1028.out)
                    have n3_ := Aside0.mk (blk_drew BK1001.out)
                    have n4_ := Aside0.mk (blk_drew BK1030.out)
                    have n5_ := Aside0.mk (below_drew1 HB.out)
                    clear HO_9; clear HO1025; clear HO1028; clear BK1001; clear BK1030; clear HB; have HO_9 := n0_; have HO1025 := n1_; have HO1028 := n2_; have BK1001 := n3_; have BK1030 := n4_; have HB := n5_; clear n0_ n1_ n2_ n3_ n4_ n5_; refine start_ (n := 9) (S := fun w' => w'.cell? ⟨gb1030, 0, none⟩ = some (.int .i64 t1017) ∧ w'.cell? ⟨gb1030, 1, none⟩ = some (.int .i64 t1018) ∧ w'.cell? ⟨gb1030, 2, none⟩ = some (.int .i64 t1019) ∧ w'.cell? ⟨gb1030, 3, none⟩ = some (.int .i64 t1020) ∧ w'.cell? ⟨gb1030, 4, none⟩ = some (.int .i64 t1021) ∧ w'.cell? ⟨gb1030, 5, none⟩ = some (.int .i64 t1022) ∧ w'.cell? ⟨gb1030, 6, none⟩ = some (.slice Ao49 t1023.length co49) ∧ w'.cell? ⟨gb1030, 7, none⟩ = some (.slice Ao50 t1026.length co50) ∧ w'.cell? ⟨gb1001, 0, none⟩ = some (.int .i64 a1_0) ∧ w'.cell? ⟨gb1001, 1, none⟩ = some (.int .i64 a1_1) ∧ w'.cell? ⟨gb1001, 2, none⟩ = some (.int .i64 a1_2) ∧ w'.cell? ⟨gb1001, 3, none⟩ = some (.int .i64 a1_3) ∧ w'.cell? ⟨gb1001, 4, none⟩ = some (.int .i64 a1_4) ∧ w'.cell? ⟨gb1001, 5, none⟩ = some (.int .i64 a1_5) ∧ w'.cell? ⟨gb1001, 6, none⟩ = some (.slice A1_6 l1_6.length c1_6) ∧ w'.cell? ⟨gb1001, 7, none⟩ = some (.slice Ao18 t1004.length co18)) (ds := []) #[false, false, false, false, false, false, false, false, false] (by kernel_rfl) rfl rfl ⟨(blk_cell BK1030.out 0).trans rfl, (blk_cell BK1030.out 1).trans rfl, (blk_cell BK1030.out 2).trans rfl, (blk_cell BK1030.out 3).trans rfl, (blk_cell BK1030.out 4).trans rfl, (blk_cell BK1030.out 5).trans rfl, (blk_cell BK1030.out 6).trans rfl, (blk_cell BK1030.out 7).trans rfl, (blk_cell BK1001.out 0).trans rfl, (blk_cell BK1001.out 1).trans rfl, (blk_cell BK1001.out 2).trans rfl, (blk_cell BK1001.out 3).trans rfl, (blk_cell BK1001.out 4).trans rfl, (blk_cell BK1001.out 5).trans rfl, (blk_cell BK1001.out 6).trans rfl, (blk_cell BK1001.out 7).trans rfl⟩ (fun hHeld => ?_); refine with_tabW gemotlaw4_ListBack.tab20 gemotlaw4_ListBack.bits20 (fun HT_ HW_ => ?_)
                    generalize w51.drew = w52 at HO_9 HO1025 HO1028 BK1001 BK1030 HB hHeld ⊢
                    refine pure_ (i := 0) (N := some 90) (v := ?_) (a' := ?_) #[true, false, false, false, false, false, false, false, false] rfl rfl (any_of HT_.out (by kernel_rfl)) (fun _ _ _ h => h) (Or.inl ⟨by rfl, ?_⟩) ?_ ?_
                    rotate_left
                    · intro w'; go_simp; with_reducible rfl
                    rotate_left; · (simp only [Act.put, List.setIfInBounds_toArray, List.set_cons_zero, List.set_cons_succ, i64_w, i32_w]; rfl)
                    refine pure_ (i := 1) (N := some 91) (v := ?_) (a' := ?_) #[true, true, false, false, false, false, false, false, false] rfl rfl (any_of HT_.out (by kernel_rfl)) (fun _ _ _ h => h) (Or.inl ⟨by rfl, ?_⟩) ?_ ?_
                    rotate_left
                    · intro w'; go_simp; with_reducible rfl
                    rotate_left; · (simp only [Act.put, List.setIfInBounds_toArray, List.set_cons_zero, List.set_cons_succ, i64_w, i32_w]; rfl)
                    refine pure_ (i := 2) (N := some 92) (v := ?_) (a' := ?_) #[true, true, true, false, false, false, false, false, false] rfl rfl (any_of HT_.out (by kernel_rfl)) (fun _ _ _ h => h) (Or.inl ⟨by rfl, ?_⟩) ?_ ?_
                    rotate_left
                    · intro w'; go_simp; with_reducible rfl
                    rotate_left; · (simp only [Act.put, List.setIfInBounds_toArray, List.set_cons_zero, List.set_cons_succ, i64_w, i32_w]; rfl)
                    refine take_ (i := 3) (N := some 93) (v := ?_) (a' := ?_) #[true, true, true, true, false, false, false, false, false] rfl rfl (take_ofW HT_.out HW_.out (by kernel_rfl)) (fun _ _ _ h => h) (Or.inl ⟨by rfl, ?_⟩) hHeld ?_ ?_
                    rotate_left
                    · rintro w' ⟨s0, s1, s2, s3, s4, s5, s6, s7, s8, s9, s10, s11, s12, s13, s14, s15⟩; go_simp; with_reducible rfl
                    rotate_left; · (simp only [Act.put, List.setIfInBounds_toArray, List.set_cons_zero, List.set_cons_succ, i64_w, i32_w]; rfl)
                    refine take_ (i := 4) (N := some 94) (v := ?_) (a' := ?_) #[true, true, true, true, true, false, false, false, false] rfl rfl (take_ofW HT_.out HW_.out (by kernel_rfl)) (fun _ _ _ h => h) (Or.inl ⟨by rfl, ?_⟩) hHeld ?_ ?_
                    rotate_left
                    · rintro w' ⟨s0, s1, s2, s3, s4, s5, s6, s7, s8, s9, s10, s11, s12, s13, s14, s15⟩; go_simp; with_reducible rfl
                    rotate_left; · (simp only [Act.put, List.setIfInBounds_toArray, List.set_cons_zero, List.set_cons_succ, i64_w, i32_w]; rfl)
                    refine one_ (i := 5) (N := some 95) #[true, true, true, true, true, true, false, false, false] rfl rfl (one_of HT_.out (by kernel_rfl)) (by decide) (fun K hK => ?_)
                    refine goes_ Try.func45 (by kernel_rfl) rfl #[.agg #[.int .i64 a1_0, .int .i64 a1_1, .int .i64 a1_2, .int .i64 a1_3, .int .i64 a1_4, .int .i64 a1_5, .slice A1_6 l1_6.length c1_6, .slice Ao18 t1004.length co18]] (by rfl) rfl rfl (by (try simp only [List.map_toArray, List.map_cons, List.map_nil]); first | done | rfl | (simp only [List.length_drop, List.length_take]; rfl)) ?_
                    with_reducible refine (gemotlaw4_asMsg.calls w.heap.size a1_0 a1_1 a1_2 a1_3 a1_4 a1_5 _ _ l1_6 _ _ t1004 t1031 t1032 t1033 t1034 t1035 t1036 t1037 t1040 _ ?side1 ?side3 ?side4 A42.out).mono ?_
                    (case side1 => (with_reducible repeat (first | apply Kd.V_alloc | apply Kd.V_drewN | apply Kd.V_drew)); exact V_came HR1_6.out HC1_6.out HB.out _ _); skip; (case side3 => repeat (first | exact (Kd.R_reads' HO_9.out).2.2 | (with_reducible refine Kd.C_alloc ?_ _) | (with_reducible refine Kd.C_drewN ?_ _) | (with_reducible refine Kd.C_drew ?_))); (case side4 => exact (Kd.R_reads' HO_9.out).2.1); rintro e w53 ⟨v1038, v1041, rfl, ho0, ho1, hb⟩; refine ⟨_, rfl, ?_⟩
                    have n0_ := Aside0.mk (Kd.R_below (by (with_reducible repeat (first | apply Kd.R_alloc | apply Kd.R_drewN | apply Kd.R_drew)); exact HO_9.out) hb)
                    have n1_ := Aside0.mk (Kd.V_below (by (with_reducible repeat (first | apply Kd.V_alloc | apply Kd.V_drewN | apply Kd.V_drew)); exact HO1025.out) hb)
                    have n2_ := Aside0.mk (Kd.V_below (by (with_reducible repeat (first | apply Kd.V_alloc | apply Kd.V_drewN | apply Kd.V_drew)); exact HO1028.out) hb)
                    have n3_ := Aside0.mk (Kd.V_lower (Kd.V_mono (ok' := fun k_ => some k_ ≠ (.slice Ao18 t1004.length co18 : Value).ownBlock ∧ k_ ≠ gb1001 ∧ k_ ≠ gb1030) ho0 (fun k_ hk_ => ⟨(Or.elim hk_ (fun h_ he_ => absurd (Kd.R_base HO_9.out k_ he_.symm) (Nat.not_le_of_lt h_)) (fun h_ => (Kd.fresh' (Kd.R_lt (by (with_reducible repeat (first | apply Kd.R_alloc | apply Kd.R_drewN | apply Kd.R_drew)); exact HO_9.out)) k_ h_))), (Or.elim hk_ (fun h_ => Nat.ne_of_lt (Nat.lt_of_lt_of_le h_ GE1001.out)) (fun h_ => (Kd.freshB (g := gb1001) (o := .cells #[.int .i64 a1_0, .int .i64 a1_1, .int .i64 a1_2, .int .i64 a1_3, .int .i64 a1_4, .int .i64 a1_5, .slice A1_6 l1_6.length c1_6, .slice Ao18 t1004.length co18] 39 (0, 0)) (by (with_reducible repeat (first | refine blk_drewN ?_ _ | refine blk_drew ?_ | refine blk_alloc ?_ _)); exact BK1001.out) k_ h_))), (Or.elim hk_ (fun h_ => Nat.ne_of_lt (Nat.lt_of_lt_of_le h_ GE1030.out)) (fun h_ => (Kd.freshB (g := gb1030) (o := .cells #[.int .i64 t1017, .int .i64 t1018, .int .i64 t1019, .int .i64 t1020, .int .i64 t1021, .int .i64 t1022, .slice Ao49 t1023.length co49, .slice Ao50 t1026.length co50] 39 (0, 0)) (by (with_reducible repeat (first | refine blk_drewN ?_ _ | refine blk_drew ?_ | refine blk_alloc ?_ _)); exact BK1030.out) k_ h_)))⟩)) (below_size (by repeat (with_reducible first | exact HB.out | apply below_alloc | apply pw_below_drewN | apply below_drew1 | refine below_set ?_ GE1001.out | refine below_set ?_ GE1030.out))))
                    have n4_ := Aside0.mk (Kd.V_lower (Kd.V_mono (ok' := fun k_ => some k_ ≠ (.slice Ao18 t1004.length co18 : Value).ownBlock ∧ k_ ≠ gb1001 ∧ k_ ≠ gb1030) ho1 (fun k_ hk_ => ⟨(Kd.fresh' (Kd.R_lt (by (with_reducible repeat (first | apply Kd.R_alloc | apply Kd.R_drewN | apply Kd.R_drew)); exact HO_9.out)) k_ hk_), (Kd.freshB (g := gb1001) (o := .cells #[.int .i64 a1_0, .int .i64 a1_1, .int .i64 a1_2, .int .i64 a1_3, .int .i64 a1_4, .int .i64 a1_5, .slice A1_6 l1_6.length c1_6, .slice Ao18 t1004.length co18] 39 (0, 0)) (by (with_reducible repeat (first | refine blk_drewN ?_ _ | refine blk_drew ?_ | refine blk_alloc ?_ _)); exact BK1001.out) k_ hk_), (Kd.freshB (g := gb1030) (o := .cells #[.int .i64 t1017, .int .i64 t1018, .int .i64 t1019, .int .i64 t1020, .int .i64 t1021, .int .i64 t1022, .slice Ao49 t1023.length co49, .slice Ao50 t1026.length co50] 39 (0, 0)) (by (with_reducible repeat (first | refine blk_drewN ?_ _ | refine blk_drew ?_ | refine blk_alloc ?_ _)); exact BK1030.out) k_ hk_)⟩)) (below_size (by repeat (with_reducible first | exact HB.out | apply below_alloc | apply pw_below_drewN | apply below_drew1 | refine below_set ?_ GE1001.out | refine below_set ?_ GE1030.out))))
                    have n5_ := Aside0.mk (blk_below (g := gb1001) (o := .cells #[.int .i64 a1_0, .int .i64 a1_1, .int .i64 a1_2, .int .i64 a1_3, .int .i64 a1_4, .int .i64 a1_5, .slice A1_6 l1_6.length c1_6, .slice Ao18 t1004.length co18] 39 (0, 0)) (by (with_reducible repeat (first | refine blk_drewN ?_ _ | refine blk_drew ?_ | refine blk_alloc ?_ _)); exact BK1001.out) hb)
                    have n6_ := Aside0.mk (blk_below (g := gb1030) (o := .cells #[.int .i64 t1017, .int .i64 t1018, .int .i64 t1019, .int .i64 t1020, .int .i64 t1021, .int .i64 t1022, .slice Ao49 t1023.length co49, .slice Ao50 t1026.length co50] 39 (0, 0)) (by (with_reducible repeat (first | refine blk_drewN ?_ _ | refine blk_drew ?_ | refine blk_alloc ?_ _)); exact BK1030.out) hb)
                    have n7_ := Aside0.mk (below_step (by repeat (first | (with_reducible first | exact HB.out | apply below_alloc | apply pw_below_drewN | apply below_drew1 | refine below_set ?_ GE1001.out | refine below_set ?_ GE1030.out) | exact HB.out)) hb)
                    clear HO_9; clear HO1025; clear HO1028; clear BK1001; clear BK1030; clear HB; have HO_9 := n0_; have HO1025 := n1_; have HO1028 := n2_; have HO1039 := n3_; have HO1042 := n4_; have BK1001 := n5_; have BK1030 := n6_; have HB := n7_; clear n0_ n1_ n2_ n3_ n4_ n5_ n6_ n7_; (try clear hb); (try clear hb2); (try clear hk); (try clear hi); (try clear ho0); (try clear ho1); obtain ⟨Ao54, co54, eo54⟩ := Kd.V_slice HO1039.out; (first | subst eo54 | (injection eo54 with f1_ f2_ f3_; have f4_ := f1_.symm; have f5_ := f3_.symm; clear f1_ f2_ f3_; subst f4_; subst f5_)); obtain ⟨Ao55, co55, eo55⟩ := Kd.V_slice HO1042.out; (first | subst eo55 | (injection eo55 with f1_ f2_ f3_; have f4_ := f1_.symm; have f5_ := f3_.symm; clear f1_ f2_ f3_; subst f4_; subst f5_)); refine hK.out _ _ ⟨(blk_cell BK1030.out 0).trans rfl, (blk_cell BK1030.out 1).trans rfl, (blk_cell BK1030.out 2).trans rfl, (blk_cell BK1030.out 3).trans rfl, (blk_cell BK1030.out 4).trans rfl, (blk_cell BK1030.out 5).trans rfl, (blk_cell BK1030.out 6).trans rfl, (blk_cell BK1030.out 7).trans rfl, (blk_cell BK1001.out 0).trans rfl, (blk_cell BK1001.out 1).trans rfl, (blk_cell BK1001.out 2).trans rfl, (blk_cell BK1001.out 3).trans rfl, (blk_cell BK1001.out 4).trans rfl, (blk_cell BK1001.out 5).trans rfl, (blk_cell BK1001.out 6).trans rfl, (blk_cell BK1001.out 7).trans rfl⟩ (fun hHeld => ?_)
                    clear hK K; refine norm_ (a' := ?_) ?_ ?_
                    rotate_left
                    · show Act.put _ (some 95) _ = _
                      simp only [Act.put, List.setIfInBounds_toArray, List.set_cons_zero, List.set_cons_succ, i64_w, i32_w]; rfl
                    refine one_ (i := 6) (N := some 96) #[true, true, true, true, true, true, true, false, false] rfl rfl (one_of HT_.out (by kernel_rfl)) (by decide) (fun K hK => ?_)
                    refine goes_ Try.func44 (by kernel_rfl) rfl #[.agg #[.int .i64 t1017, .int .i64 t1018, .int .i64 t1019, .int .i64 t1020, .int .i64 t1021, .int .i64 t1022, .slice Ao49 t1023.length co49, .slice Ao50 t1026.length co50], .agg #[.int .i64 t1031, .int .i64 t1032, .int .i64 t1033, .int .i64 t1034, .int .i64 t1035, .int .i64 t1036, .slice Ao54 t1037.length co54, .slice Ao55 t1040.length co55]] (by rfl) rfl rfl (by (try simp only [List.map_toArray, List.map_cons, List.map_nil]); first | done | rfl | (simp only [List.length_drop, List.length_take]; rfl)) ?_
                    with_reducible refine (gemotlaw4_sameMsg.calls t1017 t1018 t1019 t1020 t1021 t1022 _ _ t1023 _ _ t1026 t1031 t1032 t1033 t1034 t1035 t1036 _ _ t1037 _ _ t1040 true _ ?side1 ?side2 ?side3 ?side4 ?side5 ?side6 ?side7 ?side8 A43.out).mono ?_
                    (case side1 => repeat (first | exact (Kd.V_reads' HO1025.out).2.2 | (with_reducible refine Kd.C_alloc ?_ _) | (with_reducible refine Kd.C_drewN ?_ _) | (with_reducible refine Kd.C_drew ?_))); (case side2 => exact (Kd.V_reads' HO1025.out).2.1); (case side3 => repeat (first | exact (Kd.V_reads' HO1028.out).2.2 | (with_reducible refine Kd.C_alloc ?_ _) | (with_reducible refine Kd.C_drewN ?_ _) | (with_reducible refine Kd.C_drew ?_))); (case side4 => exact (Kd.V_reads' HO1028.out).2.1); (case side5 => repeat (first | exact (Kd.V_reads' HO1039.out).2.2 | (with_reducible refine Kd.C_alloc ?_ _) | (with_reducible refine Kd.C_drewN ?_ _) | (with_reducible refine Kd.C_drew ?_))); (case side6 => exact (Kd.V_reads' HO1039.out).2.1); (case side7 => repeat (first | exact (Kd.V_reads' HO1042.out).2.2 | (with_reducible refine Kd.C_alloc ?_ _) | (with_reducible refine Kd.C_drewN ?_ _) | (with_reducible refine Kd.C_drew ?_))); (case side8 => exact (Kd.V_reads' HO1042.out).2.1); rintro e w56 ⟨rfl, hb⟩; refine ⟨_, rfl, ?_⟩
                    have n0_ := Aside0.mk (Kd.R_below (by (with_reducible repeat (first | apply Kd.R_alloc | apply Kd.R_drewN | apply Kd.R_drew)); exact HO_9.out) hb)
                    have n1_ := Aside0.mk (Kd.V_below (by (with_reducible repeat (first | apply Kd.V_alloc | apply Kd.V_drewN | apply Kd.V_drew)); exact HO1025.out) hb)
                    have n2_ := Aside0.mk (Kd.V_below (by (with_reducible repeat (first | apply Kd.V_alloc | apply Kd.V_drewN | apply Kd.V_drew)); exact HO1028.out) hb)
                    have n3_ := Aside0.mk (Kd.V_below (by (with_reducible repeat (first | apply Kd.V_alloc | apply Kd.V_drewN | apply Kd.V_drew)); exact HO1039.out) hb)
                    have n4_ := Aside0.mk (Kd.V_below (by (with_reducible repeat (first | apply Kd.V_alloc | apply Kd.V_drewN | apply Kd.V_drew)); exact HO1042.out) hb)
                    have n5_ := Aside0.mk (blk_below (g := gb1001) (o := .cells #[.int .i64 a1_0, .int .i64 a1_1, .int .i64 a1_2, .int .i64 a1_3, .int .i64 a1_4, .int .i64 a1_5, .slice A1_6 l1_6.length c1_6, .slice Ao18 t1004.length co18] 39 (0, 0)) (by (with_reducible repeat (first | refine blk_drewN ?_ _ | refine blk_drew ?_ | refine blk_alloc ?_ _)); exact BK1001.out) hb)
                    have n6_ := Aside0.mk (blk_below (g := gb1030) (o := .cells #[.int .i64 t1017, .int .i64 t1018, .int .i64 t1019, .int .i64 t1020, .int .i64 t1021, .int .i64 t1022, .slice Ao49 t1023.length co49, .slice Ao50 t1026.length co50] 39 (0, 0)) (by (with_reducible repeat (first | refine blk_drewN ?_ _ | refine blk_drew ?_ | refine blk_alloc ?_ _)); exact BK1030.out) hb)
                    have n7_ := Aside0.mk (below_step (by repeat (first | (with_reducible first | exact HB.out | apply below_alloc | apply pw_below_drewN | apply below_drew1 | refine below_set ?_ GE1001.out | refine below_set ?_ GE1030.out) | exact HB.out)) hb)
                    clear HO_9; clear HO1025; clear HO1028; clear HO1039; clear HO1042; clear BK1001; clear BK1030; clear HB; have HO_9 := n0_; have HO1025 := n1_; have HO1028 := n2_; have HO1039 := n3_; have HO1042 := n4_; have BK1001 := n5_; have BK1030 := n6_; have HB := n7_; clear n0_ n1_ n2_ n3_ n4_ n5_ n6_ n7_; (try clear hb); (try clear hb2); (try clear hk); (try clear hi); refine hK.out _ _ ⟨(blk_cell BK1030.out 0).trans rfl, (blk_cell BK1030.out 1).trans rfl, (blk_cell BK1030.out 2).trans rfl, (blk_cell BK1030.out 3).trans rfl, (blk_cell BK1030.out 4).trans rfl, (blk_cell BK1030.out 5).trans rfl, (blk_cell BK1030.out 6).trans rfl, (blk_cell BK1030.out 7).trans rfl, (blk_cell BK1001.out 0).trans rfl, (blk_cell BK1001.out 1).trans rfl, (blk_cell BK1001.out 2).trans rfl, (blk_cell BK1001.out 3).trans rfl, (blk_cell BK1001.out 4).trans rfl, (blk_cell BK1001.out 5).trans rfl, (blk_cell BK1001.out 6).trans rfl, (blk_cell BK1001.out 7).trans rfl⟩ (fun hHeld => ?_)
                    clear hK K; refine norm_ (a' := ?_) ?_ ?_
                    rotate_left
                    · show Act.put _ (some 96) _ = _
                      simp only [Act.put, List.setIfInBounds_toArray, List.set_cons_zero, List.set_cons_succ, i64_w, i32_w]; rfl
                    refine pure_ (i := 7) (N := some 97) (v := ?_) (a' := ?_) #[true, true, true, true, true, true, true, true, false] rfl rfl (any_of HT_.out (by kernel_rfl)) (fun _ _ _ h => h) (Or.inl ⟨by rfl, ?_⟩) ?_ ?_
                    rotate_left
                    · intro w'; go_simp; with_reducible rfl
                    rotate_left; · (simp only [Act.put, List.setIfInBounds_toArray, List.set_cons_zero, List.set_cons_succ, i64_w, i32_w]; rfl)
                    refine pure_ (i := 8) (N := some 98) (v := ?_) (a' := ?_) #[true, true, true, true, true, true, true, true, true] rfl rfl (any_of HT_.out (by kernel_rfl)) (fun _ _ _ h => h) (Or.inl ⟨by rfl, ?_⟩) ?_ ?_
                    rotate_left
                    · intro w'; go_simp; with_reducible rfl
                    rotate_left; · (simp only [Act.put, List.setIfInBounds_toArray, List.set_cons_zero, List.set_cons_succ, i64_w, i32_w]; rfl)
                    refine done_ (done_of HT_.out (by kernel_rfl)) ?_
                    try go_wp2
                    go_meet
                    case rel => exact ⟨_, H', ⟨by have := HJ5.out; have := HJ15.out; first | omega | exact Nat.le_refl _⟩, ⟨by (with_reducible repeat (first | apply Kd.R_alloc | apply Kd.R_drewN | apply Kd.R_drew)); exact HO_9.out⟩, ⟨by (with_reducible repeat (first | refine blk_drewN ?_ _ | refine blk_drew ?_ | refine blk_alloc ?_ _)); exact BK1001.out⟩, ⟨by repeat (first | (with_reducible first | exact HB.out | apply below_alloc | apply pw_below_drewN | apply below_drew1 | refine below_set ?_ GE1001.out | refine below_set ?_ GE1030.out) | exact HB.out)⟩⟩
                  · replace c44 := Bool.eq_false_iff.mpr c44
                    subst c44; have H1 : (none) = some r := by rw [if_neg (show ¬ (false = true) by decide)] at H; exact H
                    exact absurd H1 (by simp)
                · rw [if_neg c41] at H
                  exact absurd H (by simp)
              · rw [if_neg c39] at H
                have c39b0 : (t1016 == 0) = false := beq_eq_false_iff_ne.mpr c39
                have c39b1 : (t1016 != 0) = true := bne_iff_ne.mpr c39
                (first | rw [c39b0] | (simp only [i64_w, i32_w]; rw [c39b0]) | skip); have H' := Aside0.mk H
                clear H; go_wp2; go_meet
                case rel => exact ⟨_, H', ⟨by have := HJ5.out; have := HJ15.out; first | omega | exact Nat.le_refl _⟩, ⟨by (with_reducible repeat (first | apply Kd.R_alloc | apply Kd.R_drewN | apply Kd.R_drew)); exact HO_9.out⟩, ⟨by (with_reducible repeat (first | refine blk_drewN ?_ _ | refine blk_drew ?_ | refine blk_alloc ?_ _)); exact BK1001.out⟩, ⟨by repeat (first | (with_reducible first | exact HB.out | apply below_alloc | apply pw_below_drewN | apply below_drew1 | refine below_set ?_ GE1001.out) | exact HB.out)⟩⟩
            case rest =>
              clear HC36; try clear c1
              try clear p1
              try clear q1
              try clear hx1
              try clear p2
              try clear c3
              try clear c4
              try clear c5
              try clear c7
              try clear p10
              try clear q10
              try clear hx10
              try clear c39
              try clear c39b0
              try clear c39b1
              try clear c41
              try clear c41b0
              try clear c41b1
              try clear c43
              try clear c44
              try clear c45
              try clear c47
              try clear c51
              try clear c59
              try clear c71
              try clear hcz37_0
              try clear hcz37_1
              try clear hcz37_2
              try clear hcz37_3
              try clear hcz37_4
              try clear hcz37_5
              try clear hcz37_6
              try clear hcz37_7
              try clear hcz48_0
              try clear hcz48_1
              try clear hcz48_2
              try clear hcz48_3
              try clear hcz48_4
              try clear hcz48_5
              try clear hcz48_6
              try clear hcz48_7
              try clear hcz60_0
              try clear hcz60_1
              try clear hcz60_2
              try clear hcz60_3
              try clear hcz60_4
              try clear hcz60_5
              try clear hcz60_6
              try clear hcz60_7
              try clear hcz72_0
              try clear hcz72_1
              try clear hcz72_2
              try clear hcz72_3
              try clear hcz72_4
              try clear hcz72_5
              try clear hcz72_6
              try clear hcz72_7
              try clear hfz37_0
              try clear hfz37_1
              try clear hfz37_2
              try clear hfz37_3
              try clear hfz37_4
              try clear hfz37_5
              try clear hfz37_6
              try clear hfz37_7
              try clear hfz48_0
              try clear hfz48_1
              try clear hfz48_2
              try clear hfz48_3
              try clear hfz48_4
              try clear hfz48_5
              try clear hfz48_6
              try clear hfz48_7
              try clear hfz60_0
              try clear hfz60_1
              try clear hfz60_2
              try clear hfz60_3
              try clear hfz60_4
              try clear hfz60_5
              try clear hfz60_6
              try clear hfz60_7
              try clear hfz72_0
              try clear hfz72_1
              try clear hfz72_2
              try clear hfz72_3
              try clear hfz72_4
              try clear hfz72_5
              try clear hfz72_6
              try clear hfz72_7
              try clear hfz9_5
              try clear hfz9_6
              try clear hfz9_7
              try clear hx1013_0
              try clear hx1014_0
              try clear p1013
              try clear p1014
              try clear p2
              try clear q1013
              try clear q1014
              obtain ⟨kq, HA, HJ35, HO_1002007, BK1001, HB⟩ := hcut; cases kq with
              | zero => exact absurd HA.out (by simp [gemotlaw4_ListBack.j4])
              | succ kj35 =>
                have H := HA.out; clear HA; simp only [gemotlaw4_ListBack.j4] at H; replace H := Option.bind_eq_some_iff.mp H
                obtain ⟨⟨t1044, t1045, t1046, t1047, t1048, t1049, t1050, t1053, t1056⟩, A770, H⟩ := H
                replace H : (if t1056 = 0 then ((list_Pack.f t1044 t1045 t1046 t1047 t1048 t1049 t1050 t1053).bind fun bt1058 => (if bt1058.2 = 0 then (if bt1058.1.toList = a2.toList then ((list_Right.f t1044 t1045 t1046 t1047 t1048 t1049 t1050 t1053).bind fun t1060 => (some t1060)) else (none)) else (none))) else (if t1044 = 0 then (if (t1050.length : Int) = 0 then (some ((t1053.length : Int) == 0)) else (none)) else (none))) = some r := H
                have A77 := Aside0.mk A770
                clear A770; by_cases c78 : t1056 = 0
                · rw [if_pos c78] at H
                  have c78b0 : (t1056 == 0) = true := beq_iff_eq.mpr c78
                  have c78b1 : (t1056 != 0) = false := bne_eq_false_iff_eq.mpr c78
                  clear c78; replace H := Option.bind_eq_some_iff.mp H
                  obtain ⟨⟨t1058, t1059⟩, A790, H⟩ := H
                  replace H : (if t1059 = 0 then (if t1058.toList = a2.toList then ((list_Right.f t1044 t1045 t1046 t1047 t1048 t1049 t1050 t1053).bind fun t1060 => (some t1060)) else (none)) else (none)) = some r := H
                  have A79 := Aside0.mk A790
                  clear A790; by_cases c80 : t1059 = 0
                  · rw [if_pos c80] at H
                    have c80b0 : (t1059 == 0) = true := beq_iff_eq.mpr c80
                    have c80b1 : (t1059 != 0) = false := bne_eq_false_iff_eq.mpr c80
                    clear c80; by_cases c81 : t1058.toList = a2.toList
                    · rw [if_pos c81] at H
                      have c81b0 : (t1058.toList == a2.toList) = true := beq_iff_eq.mpr c81
                      have c81b1 : (t1058.toList != a2.toList) = false := bne_eq_false_iff_eq.mpr c81
                      clear c81; replace H := Option.bind_eq_some_iff.mp H
                      obtain ⟨t1060, A820, H⟩ := H; replace H : (some t1060) = some r := H
                      have A82 := Aside0.mk A820
                      clear A820; obtain rfl := Option.some.inj H
                      go_wp2_with (first | ((with_reducible refine gate_callee (f := 51) rfl ?_); refine goesL_ (some 101) rfl rfl Try.func51 (by kernel_rfl) rfl #[.string a2] rfl (by simp only [List.map_toArray, List.map_cons, List.map_nil] <;> rfl) ?_; (with_reducible refine (list_Unpack.calls a2 t1044 t1045 t1046 t1047 t1048 t1049 t1050 t1053 t1056 _ A77.out).mono ?_); rintro e w83 ⟨v1051, v1054, rfl, ho0, ho1, hb⟩; refine ⟨_, rfl, ?_⟩; have n0_ := Aside0.mk (Kd.R_below (by (with_reducible repeat (first | apply Kd.R_alloc | apply Kd.R_drewN | apply Kd.R_drew)); exact HO_1002007.out) hb); have n1_ := Aside0.mk (Kd.V_lower (Kd.V_mono (ok' := fun k_ => some k_ ≠ (.slice Ao18 t1004.length co18 : Value).ownBlock ∧ k_ ≠ gb1001) ho0 (fun k_ hk_ => ⟨(Kd.fresh' (Kd.R_lt (by (with_reducible repeat (first | apply Kd.R_alloc | apply Kd.R_drewN | apply Kd.R_drew)); exact HO_1002007.out)) k_ hk_), (Kd.freshB (g := gb1001) (o := .cells #[.int .i64 a1_0, .int .i64 a1_1, .int .i64 a1_2, .int .i64 a1_3, .int .i64 a1_4, .int .i64 a1_5, .slice A1_6 l1_6.length c1_6, .slice Ao18 t1004.length co18] 39 (0, 0)) (by (with_reducible repeat (first | refine blk_drewN ?_ _ | refine blk_drew ?_ | refine blk_alloc ?_ _)); exact BK1001.out) k_ hk_)⟩)) (below_size (by repeat (with_reducible first | exact HB.out | apply below_alloc | apply pw_below_drewN | apply below_drew1 | refine below_set ?_ GE1001.out)))); have n2_ := Aside0.mk (Kd.V_lower (Kd.V_mono (ok' := fun k_ => some k_ ≠ (.slice Ao18 t1004.length co18 : Value).ownBlock ∧ k_ ≠ gb1001) ho1 (fun k_ hk_ => ⟨(Kd.fresh' (Kd.R_lt (by (with_reducible repeat (first | apply Kd.R_alloc | apply Kd.R_drewN | apply Kd.R_drew)); exact HO_1002007.out)) k_ hk_), (Kd.freshB (g := gb1001) (o := .cells #[.int .i64 a1_0, .int .i64 a1_1, .int .i64 a1_2, .int .i64 a1_3, .int .i64 a1_4, .int .i64 a1_5, .slice A1_6 l1_6.length c1_6, .slice Ao18 t1004.length co18] 39 (0, 0)) (by (with_reducible repeat (first | refine blk_drewN ?_ _ | refine blk_drew ?_ | refine blk_alloc ?_ _)); exact BK1001.out) k_ hk_)⟩)) (below_size (by repeat (with_reducible first | exact HB.out | apply below_alloc | apply pw_below_drewN | apply below_drew1 | refine below_set ?_ GE1001.out)))); have n3_ := Aside0.mk (blk_below (g := gb1001) (o := .cells #[.int .i64 a1_0, .int .i64 a1_1, .int .i64 a1_2, .int .i64 a1_3, .int .i64 a1_4, .int .i64 a1_5, .slice A1_6 l1_6.length c1_6, .slice Ao18 t1004.length co18] 39 (0, 0)) (by (with_reducible repeat (first | refine blk_drewN ?_ _ | refine blk_drew ?_ | refine blk_alloc ?_ _)); exact BK1001.out) hb); have n4_ := Aside0.mk (below_step (by repeat (with_reducible first | exact HB.out | apply below_alloc | apply pw_below_drewN | apply below_drew1 | refine below_set ?_ GE1001.out)) hb); clear HO_1002007; clear BK1001; clear HB; have HO_1002007 := n0_; have HO1052 := n1_; have HO1055 := n2_; have BK1001 := n3_; have HB := n4_; clear n0_ n1_ n2_ n3_ n4_; (try clear hb); (try clear ho0); (try clear ho1)) | ((with_reducible refine gate_dst (N := 19) rfl ?_); refine box_event ?hg (N := 19) ?hd (cs := #[.int .i64 0, .int .i64 0, .int .i64 0, .int .i64 0, .int .i64 0, .int .i64 0, .slice none 0 0, .slice none 0 0]) (t := 39) ?hr ?_; (case hd => rfl); (case hg => rfl); (case hr => first | (go_simp; done) | (go_simp; rfl)); intro gb1057 hg w84 hbox hb; have n0_ := Aside0.mk (Kd.R_below (by (with_reducible repeat (first | apply Kd.R_alloc | apply Kd.R_drewN | apply Kd.R_drew)); exact HO_1002007.out) hb); have n1_ := Aside0.mk (Kd.V_below (Kd.V_elderB (by (with_reducible repeat (first | apply Kd.V_alloc | apply Kd.V_drewN | apply Kd.V_drew)); exact HO1052.out) gb1057 (Nat.le_of_eq hg.symm)) hb); have n2_ := Aside0.mk (Kd.V_below (Kd.V_elderB (by (with_reducible repeat (first | apply Kd.V_alloc | apply Kd.V_drewN | apply Kd.V_drew)); exact HO1055.out) gb1057 (Nat.le_of_eq hg.symm)) hb); have n3_ := Aside0.mk (blk_below (g := gb1001) (o := .cells #[.int .i64 a1_0, .int .i64 a1_1, .int .i64 a1_2, .int .i64 a1_3, .int .i64 a1_4, .int .i64 a1_5, .slice A1_6 l1_6.length c1_6, .slice Ao18 t1004.length co18] 39 (0, 0)) (by (with_reducible repeat (first | refine blk_drewN ?_ _ | refine blk_drew ?_ | refine blk_alloc ?_ _)); exact BK1001.out) hb); have n4_ := Aside0.mk (below_step (by repeat (with_reducible first | exact HB.out | apply below_alloc | apply pw_below_drewN | apply below_drew1 | refine below_set ?_ GE1001.out)) hb); have n5_ := Aside0.mk (hbox); have n6_ := Aside0.mk ((by rw [hg]; exact (below_size (by repeat (with_reducible first | exact HB.out | apply below_alloc | apply pw_below_drewN | apply below_drew1 | refine below_set ?_ GE1001.out))) : w.heap.size ≤ gb1057)); have n7_ := Aside0.mk ((by rw [hg]; exact (below_size (by repeat (with_reducible first | exact HB.out | apply below_alloc | apply pw_below_drewN | apply below_drew1 | refine below_set ?_ GE1001.out))) : w.heap.size ≤ gb1057)); have n8_ := Aside0.mk ((by rw [hg]; exact Nat.ne_of_lt (blk_lt (g := gb1001) (o := .cells #[.int .i64 a1_0, .int .i64 a1_1, .int .i64 a1_2, .int .i64 a1_3, .int .i64 a1_4, .int .i64 a1_5, .slice A1_6 l1_6.length c1_6, .slice Ao18 t1004.length co18] 39 (0, 0)) (by (with_reducible repeat (first | refine blk_drewN ?_ _ | refine blk_drew ?_ | refine blk_alloc ?_ _)); exact BK1001.out)) : gb1001 ≠ gb1057)); have n9_ := Aside0.mk ((by rw [hg]; exact Nat.ne_of_gt (blk_lt (g := gb1001) (o := .cells #[.int .i64 a1_0, .int .i64 a1_1, .int .i64 a1_2, .int .i64 a1_3, .int .i64 a1_4, .int .i64 a1_5, .slice A1_6 l1_6.length c1_6, .slice Ao18 t1004.length co18] 39 (0, 0)) (by (with_reducible repeat (first | refine blk_drewN ?_ _ | refine blk_drew ?_ | refine blk_alloc ?_ _)); exact BK1001.out)) : gb1057 ≠ gb1001)); clear HO_1002007; clear HO1052; clear HO1055; clear BK1001; clear HB; have HO_1002007 := n0_; have HO1052 := n1_; have HO1055 := n2_; have BK1001 := n3_; have HB := n4_; have BK1057 := n5_; have GW1057 := n6_; have GE1057 := n7_; have NB1001_1057 := n8_; have NB1057_1001 := n9_; clear n0_ n1_ n2_ n3_ n4_ n5_ n6_ n7_ n8_ n9_; clear hb hbox hg; have hnb85 := NB1057_1001.out; have hnc85 := NB1001_1057.out; have hcz86_0 : w84.cell? ⟨gb1057, 0, none⟩ = some (.int .i64 0) := (blk_cell BK1057.out 0).trans rfl; have hcz86_1 : w84.cell? ⟨gb1057, 1, none⟩ = some (.int .i64 0) := (blk_cell BK1057.out 1).trans rfl; have hcz86_2 : w84.cell? ⟨gb1057, 2, none⟩ = some (.int .i64 0) := (blk_cell BK1057.out 2).trans rfl; have hcz86_3 : w84.cell? ⟨gb1057, 3, none⟩ = some (.int .i64 0) := (blk_cell BK1057.out 3).trans rfl; have hcz86_4 : w84.cell? ⟨gb1057, 4, none⟩ = some (.int .i64 0) := (blk_cell BK1057.out 4).trans rfl; have hcz86_5 : w84.cell? ⟨gb1057, 5, none⟩ = some (.int .i64 0) := (blk_cell BK1057.out 5).trans rfl; have hcz86_6 : w84.cell? ⟨gb1057, 6, none⟩ = some (.slice none 0 0) := (blk_cell BK1057.out 6).trans rfl; have hcz86_7 : w84.cell? ⟨gb1057, 7, none⟩ = some (.slice none 0 0) := (blk_cell BK1057.out 7).trans rfl; have hfz86_0 := blk_frozen BK1057.out 0; have hfz86_1 := blk_frozen BK1057.out 1; have hfz86_2 := blk_frozen BK1057.out 2; have hfz86_3 := blk_frozen BK1057.out 3; have hfz86_4 := blk_frozen BK1057.out 4; have hfz86_5 := blk_frozen BK1057.out 5; have hfz86_6 := blk_frozen BK1057.out 6; have hfz86_7 := blk_frozen BK1057.out 7; obtain ⟨Ao87, co87, eo87⟩ := Kd.V_slice HO1052.out; subst eo87; obtain ⟨Ao88, co88, eo88⟩ := Kd.V_slice HO1055.out; subst eo88) | ((with_reducible refine gate_callee (f := 43) rfl ?_); refine goesL_ (some 123) rfl rfl Try.func43 (by kernel_rfl) rfl #[.agg #[.int .i64 t1044, .int .i64 t1045, .int .i64 t1046, .int .i64 t1047, .int .i64 t1048, .int .i64 t1049, .slice Ao87 t1050.length co87, .slice Ao88 t1053.length co88]] rfl (by (try simp only [List.map_toArray, List.map_cons, List.map_nil]); first | done | rfl | (simp only [List.length_drop, List.length_take]; rfl)) ?_; (with_reducible refine (list_Pack.calls t1044 t1045 t1046 t1047 t1048 t1049 _ _ t1050 _ _ t1053 t1058 t1059 _ ?side1 ?side2 ?side3 ?side4 A79.out).mono ?_); (case side1 => refine (Kd.V_reads' (e := 3) (base := w.heap.size) (ok := fun k_ => ((some k_ ≠ (.slice Ao18 t1004.length co18 : Value).ownBlock ∧ k_ ≠ gb1001) ∧ k_ ≠ gb1057)) (n := t1050.length) (c := co87) ?_).2.2; exact (by (with_reducible repeat (first | apply Kd.V_alloc | apply Kd.V_drewN | apply Kd.V_drew)); exact (Kd.V_mono (Kd.V_far (p := ⟨gb1057, 7, none⟩) (Kd.V_far (p := ⟨gb1057, 6, none⟩) (Kd.V_far (p := ⟨gb1057, 5, none⟩) (Kd.V_far (p := ⟨gb1057, 4, none⟩) (Kd.V_far (p := ⟨gb1057, 3, none⟩) (Kd.V_far (p := ⟨gb1057, 2, none⟩) (Kd.V_far (p := ⟨gb1057, 1, none⟩) (Kd.V_far (p := ⟨gb1057, 0, none⟩) (Kd.V_mono HO1052.out (fun k_ hk => (⟨hk, hk.2⟩ : _ ∧ k_ ≠ gb1057))) (fun _ hk => hk.2) (.int .i64 t1044)) (fun _ hk => hk.2) (.int .i64 t1045)) (fun _ hk => hk.2) (.int .i64 t1046)) (fun _ hk => hk.2) (.int .i64 t1047)) (fun _ hk => hk.2) (.int .i64 t1048)) (fun _ hk => hk.2) (.int .i64 t1049)) (fun _ hk => hk.2) (.slice Ao87 t1050.length co87)) (fun _ hk => hk.2) (.slice Ao88 t1053.length co88)) (fun _ h_ => h_.1)))); (case side2 => exact (Kd.V_reads' HO1052.out).2.1); (case side3 => refine (Kd.V_reads' (e := 23) (base := w.heap.size) (ok := fun k_ => ((some k_ ≠ (.slice Ao18 t1004.length co18 : Value).ownBlock ∧ k_ ≠ gb1001) ∧ k_ ≠ gb1057)) (n := t1053.length) (c := co88) ?_).2.2; exact (by (with_reducible repeat (first | apply Kd.V_alloc | apply Kd.V_drewN | apply Kd.V_drew)); exact (Kd.V_mono (Kd.V_far (p := ⟨gb1057, 7, none⟩) (Kd.V_far (p := ⟨gb1057, 6, none⟩) (Kd.V_far (p := ⟨gb1057, 5, none⟩) (Kd.V_far (p := ⟨gb1057, 4, none⟩) (Kd.V_far (p := ⟨gb1057, 3, none⟩) (Kd.V_far (p := ⟨gb1057, 2, none⟩) (Kd.V_far (p := ⟨gb1057, 1, none⟩) (Kd.V_far (p := ⟨gb1057, 0, none⟩) (Kd.V_mono HO1055.out (fun k_ hk => (⟨hk, hk.2⟩ : _ ∧ k_ ≠ gb1057))) (fun _ hk => hk.2) (.int .i64 t1044)) (fun _ hk => hk.2) (.int .i64 t1045)) (fun _ hk => hk.2) (.int .i64 t1046)) (fun _ hk => hk.2) (.int .i64 t1047)) (fun _ hk => hk.2) (.int .i64 t1048)) (fun _ hk => hk.2) (.int .i64 t1049)) (fun _ hk => hk.2) (.slice Ao87 t1050.length co87)) (fun _ hk => hk.2) (.slice Ao88 t1053.length co88)) (fun _ h_ => h_.1)))); (case side4 => exact (Kd.V_reads' HO1055.out).2.1); rintro e w89 ⟨rfl, hb⟩; refine ⟨_, rfl, ?_⟩; have n0_ := Aside0.mk (Kd.R_below (by (with_reducible repeat (first | apply Kd.R_alloc | apply Kd.R_drewN | apply Kd.R_drew)); exact (Kd.R_mono (Kd.R_far (p := ⟨gb1057, 7, none⟩) (Kd.R_far (p := ⟨gb1057, 6, none⟩) (Kd.R_far (p := ⟨gb1057, 5, none⟩) (Kd.R_far (p := ⟨gb1057, 4, none⟩) (Kd.R_far (p := ⟨gb1057, 3, none⟩) (Kd.R_far (p := ⟨gb1057, 2, none⟩) (Kd.R_far (p := ⟨gb1057, 1, none⟩) (Kd.R_far (p := ⟨gb1057, 0, none⟩) (Kd.R_types HO_1002007.out BK1057.out (by decide)) (fun _ hk => hk.2) (.int .i64 t1044)) (fun _ hk => hk.2) (.int .i64 t1045)) (fun _ hk => hk.2) (.int .i64 t1046)) (fun _ hk => hk.2) (.int .i64 t1047)) (fun _ hk => hk.2) (.int .i64 t1048)) (fun _ hk => hk.2) (.int .i64 t1049)) (fun _ hk => hk.2) (.slice Ao87 t1050.length co87)) (fun _ hk => hk.2) (.slice Ao88 t1053.length co88)) (fun _ h_ => h_.1))) hb); have n1_ := Aside0.mk (Kd.V_below (by (with_reducible repeat (first | apply Kd.V_alloc | apply Kd.V_drewN | apply Kd.V_drew)); exact (Kd.V_mono (Kd.V_far (p := ⟨gb1057, 7, none⟩) (Kd.V_far (p := ⟨gb1057, 6, none⟩) (Kd.V_far (p := ⟨gb1057, 5, none⟩) (Kd.V_far (p := ⟨gb1057, 4, none⟩) (Kd.V_far (p := ⟨gb1057, 3, none⟩) (Kd.V_far (p := ⟨gb1057, 2, none⟩) (Kd.V_far (p := ⟨gb1057, 1, none⟩) (Kd.V_far (p := ⟨gb1057, 0, none⟩) (Kd.V_mono HO1052.out (fun k_ hk => (⟨hk, hk.2⟩ : _ ∧ k_ ≠ gb1057))) (fun _ hk => hk.2) (.int .i64 t1044)) (fun _ hk => hk.2) (.int .i64 t1045)) (fun _ hk => hk.2) (.int .i64 t1046)) (fun _ hk => hk.2) (.int .i64 t1047)) (fun _ hk => hk.2) (.int .i64 t1048)) (fun _ hk => hk.2) (.int .i64 t1049)) (fun _ hk => hk.2) (.slice Ao87 t1050.length co87)) (fun _ hk => hk.2) (.slice Ao88 t1053.length co88)) (fun _ h_ => h_.1))) hb); have n2_ := Aside0.mk (Kd.V_below (by (with_reducible repeat (first | apply Kd.V_alloc | apply Kd.V_drewN | apply Kd.V_drew)); exact (Kd.V_mono (Kd.V_far (p := ⟨gb1057, 7, none⟩) (Kd.V_far (p := ⟨gb1057, 6, none⟩) (Kd.V_far (p := ⟨gb1057, 5, none⟩) (Kd.V_far (p := ⟨gb1057, 4, none⟩) (Kd.V_far (p := ⟨gb1057, 3, none⟩) (Kd.V_far (p := ⟨gb1057, 2, none⟩) (Kd.V_far (p := ⟨gb1057, 1, none⟩) (Kd.V_far (p := ⟨gb1057, 0, none⟩) (Kd.V_mono HO1055.out (fun k_ hk => (⟨hk, hk.2⟩ : _ ∧ k_ ≠ gb1057))) (fun _ hk => hk.2) (.int .i64 t1044)) (fun _ hk => hk.2) (.int .i64 t1045)) (fun _ hk => hk.2) (.int .i64 t1046)) (fun _ hk => hk.2) (.int .i64 t1047)) (fun _ hk => hk.2) (.int .i64 t1048)) (fun _ hk => hk.2) (.int .i64 t1049)) (fun _ hk => hk.2) (.slice Ao87 t1050.length co87)) (fun _ hk => hk.2) (.slice Ao88 t1053.length co88)) (fun _ h_ => h_.1))) hb); have n3_ := Aside0.mk (blk_below (g := gb1001) (o := .cells #[.int .i64 a1_0, .int .i64 a1_1, .int .i64 a1_2, .int .i64 a1_3, .int .i64 a1_4, .int .i64 a1_5, .slice A1_6 l1_6.length c1_6, .slice Ao18 t1004.length co18] 39 (0, 0)) (by (with_reducible repeat (first | refine blk_drewN ?_ _ | refine blk_drew ?_ | refine blk_alloc ?_ _)); refine blk_far ?_ NB1001_1057.out _; (with_reducible repeat (first | refine blk_drewN ?_ _ | refine blk_drew ?_ | refine blk_alloc ?_ _)); refine blk_far ?_ NB1001_1057.out _; (with_reducible repeat (first | refine blk_drewN ?_ _ | refine blk_drew ?_ | refine blk_alloc ?_ _)); refine blk_far ?_ NB1001_1057.out _; (with_reducible repeat (first | refine blk_drewN ?_ _ | refine blk_drew ?_ | refine blk_alloc ?_ _)); refine blk_far ?_ NB1001_1057.out _; (with_reducible repeat (first | refine blk_drewN ?_ _ | refine blk_drew ?_ | refine blk_alloc ?_ _)); refine blk_far ?_ NB1001_1057.out _; (with_reducible repeat (first | refine blk_drewN ?_ _ | refine blk_drew ?_ | refine blk_alloc ?_ _)); refine blk_far ?_ NB1001_1057.out _; (with_reducible repeat (first | refine blk_drewN ?_ _ | refine blk_drew ?_ | refine blk_alloc ?_ _)); refine blk_far ?_ NB1001_1057.out _; (with_reducible repeat (first | refine blk_drewN ?_ _ | refine blk_drew ?_ | refine blk_alloc ?_ _)); refine blk_far ?_ NB1001_1057.out _; (with_reducible repeat (first | refine blk_drewN ?_ _ | refine blk_drew ?_ | refine blk_alloc ?_ _)); exact BK1001.out) hb); have n4_ := Aside0.mk (blk_below (g := gb1057) (o := .cells #[.int .i64 t1044, .int .i64 t1045, .int .i64 t1046, .int .i64 t1047, .int .i64 t1048, .int .i64 t1049, .slice Ao87 t1050.length co87, .slice Ao88 t1053.length co88] 39 (0, 0)) (by (with_reducible repeat (first | refine blk_drewN ?_ _ | refine blk_drew ?_ | refine blk_alloc ?_ _)); refine blk_put (cs := #[.int .i64 t1044, .int .i64 t1045, .int .i64 t1046, .int .i64 t1047, .int .i64 t1048, .int .i64 t1049, .slice Ao87 t1050.length co87, .slice none 0 0]) ?_ 7 _ rfl; (with_reducible repeat (first | refine blk_drewN ?_ _ | refine blk_drew ?_ | refine blk_alloc ?_ _)); refine blk_put (cs := #[.int .i64 t1044, .int .i64 t1045, .int .i64 t1046, .int .i64 t1047, .int .i64 t1048, .int .i64 t1049, .slice none 0 0, .slice none 0 0]) ?_ 6 _ rfl; (with_reducible repeat (first | refine blk_drewN ?_ _ | refine blk_drew ?_ | refine blk_alloc ?_ _)); refine blk_put (cs := #[.int .i64 t1044, .int .i64 t1045, .int .i64 t1046, .int .i64 t1047, .int .i64 t1048, .int .i64 0, .slice none 0 0, .slice none 0 0]) ?_ 5 _ rfl; (with_reducible repeat (first | refine blk_drewN ?_ _ | refine blk_drew ?_ | refine blk_alloc ?_ _)); refine blk_put (cs := #[.int .i64 t1044, .int .i64 t1045, .int .i64 t1046, .int .i64 t1047, .int .i64 0, .int .i64 0, .slice none 0 0, .slice none 0 0]) ?_ 4 _ rfl; (with_reducible repeat (first | refine blk_drewN ?_ _ | refine blk_drew ?_ | refine blk_alloc ?_ _)); refine blk_put (cs := #[.int .i64 t1044, .int .i64 t1045, .int .i64 t1046, .int .i64 0, .int .i64 0, .int .i64 0, .slice none 0 0, .slice none 0 0]) ?_ 3 _ rfl; (with_reducible repeat (first | refine blk_drewN ?_ _ | refine blk_drew ?_ | refine blk_alloc ?_ _)); refine blk_put (cs := #[.int .i64 t1044, .int .i64 t1045, .int .i64 0, .int .i64 0, .int .i64 0, .int .i64 0, .slice none 0 0, .slice none 0 0]) ?_ 2 _ rfl; (with_reducible repeat (first | refine blk_drewN ?_ _ | refine blk_drew ?_ | refine blk_alloc ?_ _)); refine blk_put (cs := #[.int .i64 t1044, .int .i64 0, .int .i64 0, .int .i64 0, .int .i64 0, .int .i64 0, .slice none 0 0, .slice none 0 0]) ?_ 1 _ rfl; (with_reducible repeat (first | refine blk_drewN ?_ _ | refine blk_drew ?_ | refine blk_alloc ?_ _)); refine blk_put (cs := #[.int .i64 0, .int .i64 0, .int .i64 0, .int .i64 0, .int .i64 0, .int .i64 0, .slice none 0 0, .slice none 0 0]) ?_ 0 _ rfl; (with_reducible repeat (first | refine blk_drewN ?_ _ | refine blk_drew ?_ | refine blk_alloc ?_ _)); exact BK1057.out) hb); have n5_ := Aside0.mk (below_step (by repeat (with_reducible first | exact HB.out | apply below_alloc | apply pw_below_drewN | apply below_drew1 | refine below_set ?_ GE1001.out | refine below_set ?_ GE1057.out)) hb); clear HO_1002007; clear HO1052; clear HO1055; clear BK1001; clear BK1057; clear HB; have HO_1002007 := n0_; have HO1052 := n1_; have HO1055 := n2_; have BK1001 := n3_; have BK1057 := n4_; have HB := n5_; clear n0_ n1_ n2_ n3_ n4_ n5_; (try clear hb); have hcz90_0 : w89.cell? ⟨gb1057, 0, none⟩ = some (.int .i64 t1044) := (blk_cell BK1057.out 0).trans rfl; have hcz90_1 : w89.cell? ⟨gb1057, 1, none⟩ = some (.int .i64 t1045) := (blk_cell BK1057.out 1).trans rfl; have hcz90_2 : w89.cell? ⟨gb1057, 2, none⟩ = some (.int .i64 t1046) := (blk_cell BK1057.out 2).trans rfl; have hcz90_3 : w89.cell? ⟨gb1057, 3, none⟩ = some (.int .i64 t1047) := (blk_cell BK1057.out 3).trans rfl; have hcz90_4 : w89.cell? ⟨gb1057, 4, none⟩ = some (.int .i64 t1048) := (blk_cell BK1057.out 4).trans rfl; have hcz90_5 : w89.cell? ⟨gb1057, 5, none⟩ = some (.int .i64 t1049) := (blk_cell BK1057.out 5).trans rfl; have hcz90_6 : w89.cell? ⟨gb1057, 6, none⟩ = some (.slice Ao87 t1050.length co87) := (blk_cell BK1057.out 6).trans rfl; have hcz90_7 : w89.cell? ⟨gb1057, 7, none⟩ = some (.slice Ao88 t1053.length co88) := (blk_cell BK1057.out 7).trans rfl; have hfz90_0 := blk_frozen BK1057.out 0; have hfz90_1 := blk_frozen BK1057.out 1; have hfz90_2 := blk_frozen BK1057.out 2; have hfz90_3 := blk_frozen BK1057.out 3; have hfz90_4 := blk_frozen BK1057.out 4; have hfz90_5 := blk_frozen BK1057.out 5; have hfz90_6 := blk_frozen BK1057.out 6; have hfz90_7 := blk_frozen BK1057.out 7) | (go_at_call 53; (with_reducible refine (list_Right.calls t1044 t1045 t1046 t1047 t1048 t1049 _ _ t1050 _ _ t1053 t1060 _ ?side1 ?side2 ?side3 ?side4 A82.out).mono ?_); (case side1 => repeat (first | exact (Kd.V_reads' HO1052.out).2.2 | (with_reducible refine Kd.C_alloc ?_ _) | (with_reducible refine Kd.C_drewN ?_ _) | (with_reducible refine Kd.C_drew ?_))); (case side2 => exact (Kd.V_reads' HO1052.out).2.1); (case side3 => repeat (first | exact (Kd.V_reads' HO1055.out).2.2 | (with_reducible refine Kd.C_alloc ?_ _) | (with_reducible refine Kd.C_drewN ?_ _) | (with_reducible refine Kd.C_drew ?_))); (case side4 => exact (Kd.V_reads' HO1055.out).2.1); rintro e w91 ⟨rfl, hb⟩; have n0_ := Aside0.mk (Kd.R_below (by (with_reducible repeat (first | apply Kd.R_alloc | apply Kd.R_drewN | apply Kd.R_drew)); exact HO_1002007.out) hb); have n1_ := Aside0.mk (Kd.V_below (by (with_reducible repeat (first | apply Kd.V_alloc | apply Kd.V_drewN | apply Kd.V_drew)); exact HO1052.out) hb); have n2_ := Aside0.mk (Kd.V_below (by (with_reducible repeat (first | apply Kd.V_alloc | apply Kd.V_drewN | apply Kd.V_drew)); exact HO1055.out) hb); have n3_ := Aside0.mk (blk_below (g := gb1001) (o := .cells #[.int .i64 a1_0, .int .i64 a1_1, .int .i64 a1_2, .int .i64 a1_3, .int .i64 a1_4, .int .i64 a1_5, .slice A1_6 l1_6.length c1_6, .slice Ao18 t1004.length co18] 39 (0, 0)) (by (with_reducible repeat (first | refine blk_drewN ?_ _ | refine blk_drew ?_ | refine blk_alloc ?_ _)); exact BK1001.out) hb); have n4_ := Aside0.mk (blk_below (g := gb1057) (o := .cells #[.int .i64 t1044, .int .i64 t1045, .int .i64 t1046, .int .i64 t1047, .int .i64 t1048, .int .i64 t1049, .slice Ao87 t1050.length co87, .slice Ao88 t1053.length co88] 39 (0, 0)) (by (with_reducible repeat (first | refine blk_drewN ?_ _ | refine blk_drew ?_ | refine blk_alloc ?_ _)); exact BK1057.out) hb); have n5_ := Aside0.mk (below_step (by repeat (with_reducible first | exact HB.out | apply below_alloc | apply pw_below_drewN | apply below_drew1 | refine below_set ?_ GE1001.out | refine below_set ?_ GE1057.out)) hb); clear HO_1002007; clear HO1052; clear HO1055; clear BK1001; clear BK1057; clear HB; have HO_1002007 := n0_; have HO1052 := n1_; have HO1055 := n2_; have BK1001 := n3_; have BK1057 := n4_; have HB := n5_; clear n0_ n1_ n2_ n3_ n4_ n5_; (try clear hb)))
                      go_ret
                      exact ⟨by first | rfl | (simp [errW_none, errW_some] <;> rfl) | (simp [*, errW_none, errW_some] <;> rfl), by repeat (first | (with_reducible first | exact HB.out | apply below_alloc | apply pw_below_drewN | apply below_drew1 | refine below_set ?_ GE1001.out | refine below_set ?_ GE1057.out) | exact HB.out)⟩
                    · rw [if_neg c81] at H
                      exact absurd H (by simp)
                  · rw [if_neg c80] at H
                    exact absurd H (by simp)
                · rw [if_neg c78] at H
                  have c78b0 : (t1056 == 0) = false := beq_eq_false_iff_ne.mpr c78
                  have c78b1 : (t1056 != 0) = true := bne_iff_ne.mpr c78
                  by_cases c106 : t1044 = 0
                  · rw [if_pos c106] at H
                    have c106b0 : (t1044 == 0) = true := beq_iff_eq.mpr c106
                    have c106b1 : (t1044 != 0) = false := bne_eq_false_iff_eq.mpr c106
                    clear c106; by_cases c107 : (t1050.length : Int) = 0
                    · rw [if_pos c107] at H
                      have c107b0 : ((t1050.length : Int) == 0) = true := beq_iff_eq.mpr c107
                      have c107b1 : ((t1050.length : Int) != 0) = false := bne_eq_false_iff_eq.mpr c107
                      clear c107; obtain rfl := Option.some.inj H
                      go_wp2_with (first | ((with_reducible refine gate_callee (f := 51) rfl ?_); refine goesL_ (some 101) rfl rfl Try.func51 (by kernel_rfl) rfl #[.string a2] rfl (by simp only [List.map_toArray, List.map_cons, List.map_nil] <;> rfl) ?_; (with_reducible refine (list_Unpack.calls a2 t1044 t1045 t1046 t1047 t1048 t1049 t1050 t1053 t1056 _ A77.out).mono ?_); rintro e w108 ⟨v1051, v1054, rfl, ho0, ho1, hb⟩; refine ⟨_, rfl, ?_⟩; have n0_ := Aside0.mk (Kd.R_below (by (with_reducible repeat (first | apply Kd.R_alloc | apply Kd.R_drewN | apply Kd.R_drew)); exact HO_1002007.out) hb); have n1_ := Aside0.mk (Kd.V_lower (Kd.V_mono (ok' := fun k_ => some k_ ≠ (.slice Ao18 t1004.length co18 : Value).ownBlock ∧ k_ ≠ gb1001) ho0 (fun k_ hk_ => ⟨(Kd.fresh' (Kd.R_lt (by (with_reducible repeat (first | apply Kd.R_alloc | apply Kd.R_drewN | apply Kd.R_drew)); exact HO_1002007.out)) k_ hk_), (Kd.freshB (g := gb1001) (o := .cells #[.int .i64 a1_0, .int .i64 a1_1, .int .i64 a1_2, .int .i64 a1_3, .int .i64 a1_4, .int .i64 a1_5, .slice A1_6 l1_6.length c1_6, .slice Ao18 t1004.length co18] 39 (0, 0)) (by (with_reducible repeat (first | refine blk_drewN ?_ _ | refine blk_drew ?_ | refine blk_alloc ?_ _)); exact BK1001.out) k_ hk_)⟩)) (below_size (by repeat (with_reducible first | exact HB.out | apply below_alloc | apply pw_below_drewN | apply below_drew1 | refine below_set ?_ GE1001.out)))); have n2_ := Aside0.mk (Kd.V_lower (Kd.V_mono (ok' := fun k_ => some k_ ≠ (.slice Ao18 t1004.length co18 : Value).ownBlock ∧ k_ ≠ gb1001) ho1 (fun k_ hk_ => ⟨(Kd.fresh' (Kd.R_lt (by (with_reducible repeat (first | apply Kd.R_alloc | apply Kd.R_drewN | apply Kd.R_drew)); exact HO_1002007.out)) k_ hk_), (Kd.freshB (g := gb1001) (o := .cells #[.int .i64 a1_0, .int .i64 a1_1, .int .i64 a1_2, .int .i64 a1_3, .int .i64 a1_4, .int .i64 a1_5, .slice A1_6 l1_6.length c1_6, .slice Ao18 t1004.length co18] 39 (0, 0)) (by (with_reducible repeat (first | refine blk_drewN ?_ _ | refine blk_drew ?_ | refine blk_alloc ?_ _)); exact BK1001.out) k_ hk_)⟩)) (below_size (by repeat (with_reducible first | exact HB.out | apply below_alloc | apply pw_below_drewN | apply below_drew1 | refine below_set ?_ GE1001.out)))); have n3_ := Aside0.mk (blk_below (g := gb1001) (o := .cells #[.int .i64 a1_0, .int .i64 a1_1, .int .i64 a1_2, .int .i64 a1_3, .int .i64 a1_4, .int .i64 a1_5, .slice A1_6 l1_6.length c1_6, .slice Ao18 t1004.length co18] 39 (0, 0)) (by (with_reducible repeat (first | refine blk_drewN ?_ _ | refine blk_drew ?_ | refine blk_alloc ?_ _)); exact BK1001.out) hb); have n4_ := Aside0.mk (below_step (by repeat (with_reducible first | exact HB.out | apply below_alloc | apply pw_below_drewN | apply below_drew1 | refine below_set ?_ GE1001.out)) hb); clear HO_1002007; clear BK1001; clear HB; have HO_1002007 := n0_; have HO1052 := n1_; have HO1055 := n2_; have BK1001 := n3_; have HB := n4_; clear n0_ n1_ n2_ n3_ n4_; (try clear hb); (try clear ho0); (try clear ho1)) | ((with_reducible refine gate_dst (N := 19) rfl ?_); refine box_event ?hg (N := 19) ?hd (cs := #[.int .i64 0, .int .i64 0, .int .i64 0, .int .i64 0, .int .i64 0, .int .i64 0, .slice none 0 0, .slice none 0 0]) (t := 39) ?hr ?_; (case hd => rfl); (case hg => rfl); (case hr => first | (go_simp; done) | (go_simp; rfl)); intro gb1057 hg w109 hbox hb; have n0_ := Aside0.mk (Kd.R_below (by (with_reducible repeat (first | apply Kd.R_alloc | apply Kd.R_drewN | apply Kd.R_drew)); exact HO_1002007.out) hb); have n1_ := Aside0.mk (Kd.V_below (Kd.V_elderB (by (with_reducible repeat (first | apply Kd.V_alloc | apply Kd.V_drewN | apply Kd.V_drew)); exact HO1052.out) gb1057 (Nat.le_of_eq hg.symm)) hb); have n2_ := Aside0.mk (Kd.V_below (Kd.V_elderB (by (with_reducible repeat (first | apply Kd.V_alloc | apply Kd.V_drewN | apply Kd.V_drew)); exact HO1055.out) gb1057 (Nat.le_of_eq hg.symm)) hb); have n3_ := Aside0.mk (blk_below (g := gb1001) (o := .cells #[.int .i64 a1_0, .int .i64 a1_1, .int .i64 a1_2, .int .i64 a1_3, .int .i64 a1_4, .int .i64 a1_5, .slice A1_6 l1_6.length c1_6, .slice Ao18 t1004.length co18] 39 (0, 0)) (by (with_reducible repeat (first | refine blk_drewN ?_ _ | refine blk_drew ?_ | refine blk_alloc ?_ _)); exact BK1001.out) hb); have n4_ := Aside0.mk (below_step (by repeat (with_reducible first | exact HB.out | apply below_alloc | apply pw_below_drewN | apply below_drew1 | refine below_set ?_ GE1001.out)) hb); have n5_ := Aside0.mk (hbox); have n6_ := Aside0.mk ((by rw [hg]; exact (below_size (by repeat (with_reducible first | exact HB.out | apply below_alloc | apply pw_below_drewN | apply below_drew1 | refine below_set ?_ GE1001.out))) : w.heap.size ≤ gb1057)); have n7_ := Aside0.mk ((by rw [hg]; exact (below_size (by repeat (with_reducible first | exact HB.out | apply below_alloc | apply pw_below_drewN | apply below_drew1 | refine below_set ?_ GE1001.out))) : w.heap.size ≤ gb1057)); have n8_ := Aside0.mk ((by rw [hg]; exact Nat.ne_of_lt (blk_lt (g := gb1001) (o := .cells #[.int .i64 a1_0, .int .i64 a1_1, .int .i64 a1_2, .int .i64 a1_3, .int .i64 a1_4, .int .i64 a1_5, .slice A1_6 l1_6.length c1_6, .slice Ao18 t1004.length co18] 39 (0, 0)) (by (with_reducible repeat (first | refine blk_drewN ?_ _ | refine blk_drew ?_ | refine blk_alloc ?_ _)); exact BK1001.out)) : gb1001 ≠ gb1057)); have n9_ := Aside0.mk ((by rw [hg]; exact Nat.ne_of_gt (blk_lt (g := gb1001) (o := .cells #[.int .i64 a1_0, .int .i64 a1_1, .int .i64 a1_2, .int .i64 a1_3, .int .i64 a1_4, .int .i64 a1_5, .slice A1_6 l1_6.length c1_6, .slice Ao18 t1004.length co18] 39 (0, 0)) (by (with_reducible repeat (first | refine blk_drewN ?_ _ | refine blk_drew ?_ | refine blk_alloc ?_ _)); exact BK1001.out)) : gb1057 ≠ gb1001)); clear HO_1002007; clear HO1052; clear HO1055; clear BK1001; clear HB; have HO_1002007 := n0_; have HO1052 := n1_; have HO1055 := n2_; have BK1001 := n3_; have HB := n4_; have BK1057 := n5_; have GW1057 := n6_; have GE1057 := n7_; have NB1001_1057 := n8_; have NB1057_1001 := n9_; clear n0_ n1_ n2_ n3_ n4_ n5_ n6_ n7_ n8_ n9_; clear hb hbox hg; have hnb110 := NB1057_1001.out; have hnc110 := NB1001_1057.out; have hcz111_0 : w109.cell? ⟨gb1057, 0, none⟩ = some (.int .i64 0) := (blk_cell BK1057.out 0).trans rfl; have hcz111_1 : w109.cell? ⟨gb1057, 1, none⟩ = some (.int .i64 0) := (blk_cell BK1057.out 1).trans rfl; have hcz111_2 : w109.cell? ⟨gb1057, 2, none⟩ = some (.int .i64 0) := (blk_cell BK1057.out 2).trans rfl; have hcz111_3 : w109.cell? ⟨gb1057, 3, none⟩ = some (.int .i64 0) := (blk_cell BK1057.out 3).trans rfl; have hcz111_4 : w109.cell? ⟨gb1057, 4, none⟩ = some (.int .i64 0) := (blk_cell BK1057.out 4).trans rfl; have hcz111_5 : w109.cell? ⟨gb1057, 5, none⟩ = some (.int .i64 0) := (blk_cell BK1057.out 5).trans rfl; have hcz111_6 : w109.cell? ⟨gb1057, 6, none⟩ = some (.slice none 0 0) := (blk_cell BK1057.out 6).trans rfl; have hcz111_7 : w109.cell? ⟨gb1057, 7, none⟩ = some (.slice none 0 0) := (blk_cell BK1057.out 7).trans rfl; have hfz111_0 := blk_frozen BK1057.out 0; have hfz111_1 := blk_frozen BK1057.out 1; have hfz111_2 := blk_frozen BK1057.out 2; have hfz111_3 := blk_frozen BK1057.out 3; have hfz111_4 := blk_frozen BK1057.out 4; have hfz111_5 := blk_frozen BK1057.out 5; have hfz111_6 := blk_frozen BK1057.out 6; have hfz111_7 := blk_frozen BK1057.out 7; obtain ⟨Ao112, co112, eo112⟩ := Kd.V_slice HO1052.out; subst eo112; obtain ⟨Ao113, co113, eo113⟩ := Kd.V_slice HO1055.out; subst eo113))
                      go_ret
                      exact ⟨by first | rfl | (simp [errW_none, errW_some] <;> rfl) | (simp [*, errW_none, errW_some] <;> rfl), by repeat (first | (with_reducible first | exact HB.out | apply below_alloc | apply pw_below_drewN | apply below_drew1 | refine below_set ?_ GE1001.out | refine below_set ?_ GE1057.out) | exact HB.out)⟩
                    · rw [if_neg c107] at H
                      exact absurd H (by simp)
                  · rw [if_neg c106] at H
                    exact absurd H (by simp)
end Go.Proofs.Ytpfpmjdifnoeoaa.F
