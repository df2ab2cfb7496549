import Derived.Test.YtpfpmjdifnoeoaaMListPacksWX
import Derived.Test.YtpfpmjdifnoeoaaMListPacksF0
import Derived.Test.YtpfpmjdifnoeoaaMListPacksF115
import Derived.Test.YtpfpmjdifnoeoaaMListPacksF48
import Derived.Test.YtpfpmjdifnoeoaaMListPacksF53
import Derived.Test.YtpfpmjdifnoeoaaMListPacksB1
import Derived.Test.YtpfpmjdifnoeoaaMListPacksB3
import Derived.RegionTactic
import Derived.BigRegion
namespace Go.Proofs.Ytpfpmjdifnoeoaa.F
open Go.RowKit Go.Proofs.YtpfpmjdifnoeoaaW.PrintWords Go.Proofs.YtpfpmjdifnoeoaaW.PrintLast Go.Proofs.YtpfpmjdifnoeoaaW.PrintMore
attribute [local go_sem] max2_int min2_int max_two min_two max_three min_three max_four min_four
set_option linter.unusedVariables false
set_option linter.unusedSimpArgs false
def zeroM : Msg := ⟨0, 0, 0, 0, 0, 0, [], []⟩
def msgOf (l : List ByteArray) : Msg := ⟨rd (numK (l.take 7)).1 0, rd (numK (l.take 7)).1 1, rd (numK (l.take 7)).1 2, rd (numK (l.take 7)).1 3, rd (numK (l.take 7)).1 4, rd (numK (l.take 7)).1 5, (numK ((l.drop 7).take (rd (numK (l.take 7)).1 6).toNat)).1, l.drop (7 + (rd (numK (l.take 7)).1 6).toNat)⟩
def unpackM (t : ByteArray) : Msg × Int :=
  if (rowN 150 t).2 = 0 ∧ 7 ≤ (rowN 150 t).1.length then
    (if (numK ((rowN 150 t).1.take 7)).2 = true ∧ rd (numK ((rowN 150 t).1.take 7)).1 6 ≤ mn (((rowN 150 t).1.length : Int) - 7) 8 then
      (if (numK (((rowN 150 t).1.drop 7).take (rd (numK ((rowN 150 t).1.take 7)).1 6).toNat)).2 = true ∧ rightM (msgOf (rowN 150 t).1) = true then (msgOf (rowN 150 t).1, 0) else (zeroM, 2)) else (zeroM, 2)) else (zeroM, 2)
def list_Unpack.f (t : ByteArray) : Option (Int × Int × Int × Int × Int × Int × List Int × List ByteArray × Int) := if t.size < 9223372036854775808 then some ((unpackM t).1.kind, (unpackM t).1.ie, (unpackM t).1.ic, (unpackM t).1.oe, (unpackM t).1.oc, (unpackM t).1.num, (unpackM t).1.ms, (unpackM t).1.ts, (unpackM t).2) else none
theorem put8 {W : World} {g t : Nat} {c0 c1 c2 c3 c4 c5 c6 c7 d0 d1 d2 d3 d4 d5 d6 d7 : Value} (h : W.heap[g]? = some (.cells #[c0, c1, c2, c3, c4, c5, c6, c7] t (0, 0))) :
    ((((((((W.setCell ⟨g, 0, none⟩ d0).setCell ⟨g, 1, none⟩ d1).setCell ⟨g, 2, none⟩ d2).setCell ⟨g, 3, none⟩ d3).setCell ⟨g, 4, none⟩ d4).setCell ⟨g, 5, none⟩ d5).setCell ⟨g, 6, none⟩ d6).setCell ⟨g, 7, none⟩ d7).heap[g]? = some (.cells #[d0, d1, d2, d3, d4, d5, d6, d7] t (0, 0)) :=
  blk_put (cs := #[d0, d1, d2, d3, d4, d5, d6, c7]) (blk_put (cs := #[d0, d1, d2, d3, d4, d5, c6, c7]) (blk_put (cs := #[d0, d1, d2, d3, d4, c5, c6, c7]) (blk_put (cs := #[d0, d1, d2, d3, c4, c5, c6, c7]) (blk_put (cs := #[d0, d1, d2, c3, c4, c5, c6, c7]) (blk_put (cs := #[d0, d1, c2, c3, c4, c5, c6, c7]) (blk_put (cs := #[d0, c1, c2, c3, c4, c5, c6, c7]) (blk_put h 0 d0 rfl) 1 d1 rfl) 2 d2 rfl) 3 d3 rfl) 4 d4 rfl) 5 d5 rfl) 6 d6 rfl) 7 d7 rfl
theorem below8 {w W : World} {g : Nat} {d0 d1 d2 d3 d4 d5 d6 d7 : Value} (h : Below w.heap.size w W) (hg : w.heap.size ≤ g) :
    Below w.heap.size w ((((((((W.setCell ⟨g, 0, none⟩ d0).setCell ⟨g, 1, none⟩ d1).setCell ⟨g, 2, none⟩ d2).setCell ⟨g, 3, none⟩ d3).setCell ⟨g, 4, none⟩ d4).setCell ⟨g, 5, none⟩ d5).setCell ⟨g, 6, none⟩ d6).setCell ⟨g, 7, none⟩ d7) :=
  below_set (below_set (below_set (below_set (below_set (below_set (below_set (below_set h hg) hg) hg) hg) hg) hg) hg) hg
theorem far8 {W : World} {g k : Nat} {d0 d1 d2 d3 d4 d5 d6 d7 : Value} (h : k ≠ g) :
    ((((((((W.setCell ⟨g, 0, none⟩ d0).setCell ⟨g, 1, none⟩ d1).setCell ⟨g, 2, none⟩ d2).setCell ⟨g, 3, none⟩ d3).setCell ⟨g, 4, none⟩ d4).setCell ⟨g, 5, none⟩ d5).setCell ⟨g, 6, none⟩ d6).setCell ⟨g, 7, none⟩ d7).heap[k]? = W.heap[k]? := by
  repeat rw [Below.heap_setCell _ _ _ k h]
def list_Unpack.Good (w : World) (m : Msg) (e : Ending) (w' : World) : Prop := ∃ v6_ v7_ : Value, e = .returned (.tuple #[.agg #[.int .i64 m.kind, .int .i64 m.ie, .int .i64 m.ic, .int .i64 m.oe, .int .i64 m.oc, .int .i64 m.num, v6_, v7_], .int .i64 0]) ∧ Kd.V (Kd.int .i64) 3 w' w.heap.size (fun k_ => w.heap.size ≤ k_) v6_ m.ms ∧ Kd.V Kd.string 23 w' w.heap.size (fun k_ => w.heap.size ≤ k_) v7_ m.ts ∧ Below w.heap.size w w'
theorem list_Unpack.right (n0 n1 n2 n3 n4 n5 : Int) (A6 : Option Addr) (c6 : Nat) (ms : List Int) (A7 : Option Addr) (c7 : Nat) (ts : List ByteArray) (r : Bool) (len : Nat) (W : World) (hdl : ts.length = len) (h6 : Kd.C (Kd.int .i64) W A6 ms.length ms) (hc6 : ms.length ≤ c6) (h7 : Kd.C Kd.string W A7 ts.length ts) (hc7 : ts.length ≤ c7) (hm : ms.length < 1099511627776) (hx : ∀ x ∈ ts, x.size < 9223372036854775808) (hR : rightM ⟨n0, n1, n2, n3, n4, n5, ms, ts⟩ = r) :
    Calls Try.prog 53 #[.agg #[.int .i64 n0, .int .i64 n1, .int .i64 n2, .int .i64 n3, .int .i64 n4, .int .i64 n5, .slice A6 ms.length c6, .slice A7 len c7]] W fun e w' => e = .returned (.bool r) ∧ Below W.heap.size W w' := by
  subst hdl; exact list_Right.calls n0 n1 n2 n3 n4 n5 A6 c6 ms A7 c7 ts r W h6 hc6 h7 hc7 (by unfold list_Right.f; rw [if_pos ⟨hm, hx⟩, hR])
def list_Unpack.Bad (w : World) (e : Ending) (w' : World) : Prop := e = .returned (.tuple #[.agg #[.int .i64 0, .int .i64 0, .int .i64 0, .int .i64 0, .int .i64 0, .int .i64 0, .slice none 0 0, .slice none 0 0], .int .i64 2]) ∧ Below w.heap.size w w'
def list_Unpack.T9 : Bool × List (List Nat × List Nat) := (true, [([], []), ([0], [0]), ([1], [1]), ([], []), ([3], [3]), ([4], [4]), ([], []), ([6], [6]), ([7], [7]), ([5, 8], [5, 8]), ([], []), ([10], [10]), ([11], [11]), ([], []), ([13], [13]), ([14], [14]), ([12, 15], [12, 15]), ([], []), ([17], [17]), ([18], [18]), ([], []), ([], []), ([], []), ([21, 22], [21, 22]), ([2, 9, 16, 19, 20, 23], [2, 9, 16, 19, 20, 23]), ([], []), ([25, 24, 0, 1, 2, 3, 4, 5, 6, 7, 8, 9, 10, 11, 12, 13, 14, 15, 16, 17, 18, 19, 20, 21, 22, 23, 24, 25], [24, 25])])
def list_Unpack.B9 : List Nat := [0, 1, 3, 0, 8, 24, 0, 64, 192, 504, 0, 1024, 3072, 0, 8192, 24576, 64512, 0, 131072, 393216, 0, 0, 0, 6291456, 16777215, 0, 67108863]
theorem list_Unpack.tab9 : rtab .any (opsOf Try.f51 9) = list_Unpack.T9 := by kernel_rfl
theorem list_Unpack.bits9 : waitsOk list_Unpack.T9.2 list_Unpack.B9 = true := by kernel_rfl
set_option maxHeartbeats 1000000 in
set_option maxRecDepth 100000 in
theorem list_Unpack.b1 (t : ByteArray) (w : World) (hs : t.size < 9223372036854775808) (l : List ByteArray) (hT : rowN 150 t = (l, 0)) (h : l.length < 7) :
    Calls Try.prog 51 #[.string t] w (list_Unpack.Bad w) := by
  have HT := Aside0.mk (fun W => list_Take.calls t l 0 W (by unfold list_Take.f; rw [if_pos hs, hT]))
  have hu39 := Try.underlying39; have HB := Aside0.mk (Below.refl w.heap.size w)
  have e3 : (l.length : Int) < 7 := by omega
  clear hT hs; go_enter Try.func51, Try.ntmps51
  go_wp2_with (first
    | ((with_reducible refine gate_dst (N := 2) rfl ?_); refine box_event ?hg (N := 2) ?hd (cs := #[.int .i64 0, .int .i64 0, .int .i64 0, .int .i64 0, .int .i64 0, .int .i64 0, .slice none 0 0, .slice none 0 0]) (t := 39) ?hr ?_; (case hd => rfl); (case hg => rfl); (case hr => first | (go_simp; done) | (go_simp; rfl)); intro g0 hg w1 hbox hb; have BK := Aside0.mk hbox; have HB1 := Aside0.mk (below_step HB.out hb); have GE := Aside0.mk (show w.heap.size ≤ g0 by rw [hg]; exact Nat.le_refl _); clear hb hbox hg)
    | (go_at_call 48; go_loud (refine (HT.out _).mono ?_; rintro e w2 ⟨v, rfl, hv, hb2⟩; obtain ⟨A0, cc0, rfl⟩ := Kd.R_slice hv; have BK2 := Aside0.mk (blk_below BK.out hb2); have HB2 := Aside0.mk (below_then HB1.out HB1.out.size hb2); have HV := Aside0.mk hv; clear hb2 hv; have z0 : w2.cell? ⟨g0, 0, none⟩ = some (.int .i64 0) := (blk_cell BK2.out 0).trans rfl; have f0 := blk_frozen BK2.out 0; have z1 : w2.cell? ⟨g0, 1, none⟩ = some (.int .i64 0) := (blk_cell BK2.out 1).trans rfl; have f1 := blk_frozen BK2.out 1; have z2 : w2.cell? ⟨g0, 2, none⟩ = some (.int .i64 0) := (blk_cell BK2.out 2).trans rfl; have f2 := blk_frozen BK2.out 2; have z3 : w2.cell? ⟨g0, 3, none⟩ = some (.int .i64 0) := (blk_cell BK2.out 3).trans rfl; have f3 := blk_frozen BK2.out 3; have z4 : w2.cell? ⟨g0, 4, none⟩ = some (.int .i64 0) := (blk_cell BK2.out 4).trans rfl; have f4 := blk_frozen BK2.out 4; have z5 : w2.cell? ⟨g0, 5, none⟩ = some (.int .i64 0) := (blk_cell BK2.out 5).trans rfl; have f5 := blk_frozen BK2.out 5; have z6 : w2.cell? ⟨g0, 6, none⟩ = some (.slice none 0 0) := (blk_cell BK2.out 6).trans rfl; have f6 := blk_frozen BK2.out 6; have z7 : w2.cell? ⟨g0, 7, none⟩ = some (.slice none 0 0) := (blk_cell BK2.out 7).trans rfl; have f7 := blk_frozen BK2.out 7)))
  refine bodyPost_ret (results_ct rfl _ _ g0 39 #[.int .i64 0, .int .i64 0, .int .i64 0, .int .i64 0, .int .i64 0, .int .i64 0, .slice none 0 0, .slice none 0 0] (0, 0) _ rfl (put8 BK2.out) hu39 rfl (by kernel_rfl)) rfl ?_
  exact ⟨rfl, below8 HB2.out GE.out⟩
set_option maxHeartbeats 1000000 in
set_option maxRecDepth 100000 in
theorem list_Unpack.b2 (t : ByteArray) (w : World) (hs : t.size < 9223372036854775808) (l : List ByteArray) (err : Int) (hT : rowN 150 t = (l, err)) (h : ¬ err = 0) :
    Calls Try.prog 51 #[.string t] w (list_Unpack.Bad w) := by
  have HT := Aside0.mk (fun W => list_Take.calls t l err W (by unfold list_Take.f; rw [if_pos hs, hT]))
  have hu39 := Try.underlying39; have HB := Aside0.mk (Below.refl w.heap.size w)
  have e1 : (err != 0) = true := bne_iff_ne.mpr h
  have e2 : (err == 0) = false := beq_eq_false_iff_ne.mpr h
  clear hT hs h; go_enter Try.func51, Try.ntmps51
  go_wp2_with (first
    | ((with_reducible refine gate_dst (N := 2) rfl ?_); refine box_event ?hg (N := 2) ?hd (cs := #[.int .i64 0, .int .i64 0, .int .i64 0, .int .i64 0, .int .i64 0, .int .i64 0, .slice none 0 0, .slice none 0 0]) (t := 39) ?hr ?_; (case hd => rfl); (case hg => rfl); (case hr => first | (go_simp; done) | (go_simp; rfl)); intro g0 hg w1 hbox hb; have BK := Aside0.mk hbox; have HB1 := Aside0.mk (below_step HB.out hb); have GE := Aside0.mk (show w.heap.size ≤ g0 by rw [hg]; exact Nat.le_refl _); clear hb hbox hg)
    | (go_at_call 48; go_loud (refine (HT.out _).mono ?_; rintro e w2 ⟨v, rfl, hv, hb2⟩; obtain ⟨A0, cc0, rfl⟩ := Kd.R_slice hv; have BK2 := Aside0.mk (blk_below BK.out hb2); have HB2 := Aside0.mk (below_then HB1.out HB1.out.size hb2); have HV := Aside0.mk hv; clear hb2 hv; have z0 : w2.cell? ⟨g0, 0, none⟩ = some (.int .i64 0) := (blk_cell BK2.out 0).trans rfl; have f0 := blk_frozen BK2.out 0; have z1 : w2.cell? ⟨g0, 1, none⟩ = some (.int .i64 0) := (blk_cell BK2.out 1).trans rfl; have f1 := blk_frozen BK2.out 1; have z2 : w2.cell? ⟨g0, 2, none⟩ = some (.int .i64 0) := (blk_cell BK2.out 2).trans rfl; have f2 := blk_frozen BK2.out 2; have z3 : w2.cell? ⟨g0, 3, none⟩ = some (.int .i64 0) := (blk_cell BK2.out 3).trans rfl; have f3 := blk_frozen BK2.out 3; have z4 : w2.cell? ⟨g0, 4, none⟩ = some (.int .i64 0) := (blk_cell BK2.out 4).trans rfl; have f4 := blk_frozen BK2.out 4; have z5 : w2.cell? ⟨g0, 5, none⟩ = some (.int .i64 0) := (blk_cell BK2.out 5).trans rfl; have f5 := blk_frozen BK2.out 5; have z6 : w2.cell? ⟨g0, 6, none⟩ = some (.slice none 0 0) := (blk_cell BK2.out 6).trans rfl; have f6 := blk_frozen BK2.out 6; have z7 : w2.cell? ⟨g0, 7, none⟩ = some (.slice none 0 0) := (blk_cell BK2.out 7).trans rfl; have f7 := blk_frozen BK2.out 7)))
  refine bodyPost_ret (results_ct rfl _ _ g0 39 #[.int .i64 0, .int .i64 0, .int .i64 0, .int .i64 0, .int .i64 0, .int .i64 0, .slice none 0 0, .slice none 0 0] (0, 0) _ rfl (put8 BK2.out) hu39 rfl (by kernel_rfl)) rfl ?_
  exact ⟨rfl, below8 HB2.out GE.out⟩
set_option maxHeartbeats 1000000 in
set_option maxRecDepth 100000 in
theorem list_Unpack.b3 (t : ByteArray) (w : World) (hs : t.size < 9223372036854775808) (l : List ByteArray) (hT : rowN 150 t = (l, 0)) (h7 : 7 ≤ l.length) (hl : l.length ≤ 150) (hlx : ∀ x ∈ l, x.size < 9223372036854775808) (hN : numK (l.take 7) = ([], false)) :
    Calls Try.prog 51 #[.string t] w (list_Unpack.Bad w) := by
  have HT := Aside0.mk (fun W => list_Take.calls t l 0 W (by unfold list_Take.f; rw [if_pos hs, hT]))
  have hu39 := Try.underlying39; have HB := Aside0.mk (Below.refl w.heap.size w)
  have e3 : ¬ (l.length : Int) < 7 := by omega
  have L7 := Aside0.mk h7
  obtain ⟨i0, hi0, _, hsz, _⟩ := info_parts info23; have HC7 := Aside0.mk (fun (A : Option Addr) (c : Nat) (hc : l.length ≤ c) => cut_to (P := Try.prog) 37 23 .i64 Try.underlying37 hi0 A l.length c 7 (by decide) (by omega) hc)
  have h7l : (l.take 7).length = 7 := by rw [List.length_take]; omega
  have HN1 := Aside0.mk (fun (A : Option Addr) (c : Nat) (W : World) (hc : l.length ≤ c) (hr : Kd.C Kd.string W A (l.take 7).length (l.take 7)) => (h7l ▸ list_numbers.calls A c (l.take 7) [] false W hr (by omega) (by unfold list_numbers.f; rw [if_pos ⟨by omega, fun x hx => hlx x (List.mem_of_mem_take hx)⟩, hN]) : Calls Try.prog 115 #[.slice A 7 c] W _))
  clear hT hs hN h7l hlx; go_enter Try.func51, Try.ntmps51
  go_wp2_with (first
    | ((with_reducible refine gate_dst (N := 2) rfl ?_); refine box_event ?hg (N := 2) ?hd (cs := #[.int .i64 0, .int .i64 0, .int .i64 0, .int .i64 0, .int .i64 0, .int .i64 0, .slice none 0 0, .slice none 0 0]) (t := 39) ?hr ?_; (case hd => rfl); (case hg => rfl); (case hr => first | (go_simp; done) | (go_simp; rfl)); intro g0 hg w1 hbox hb; have BK := Aside0.mk hbox; have HB1 := Aside0.mk (below_step HB.out hb); have GE := Aside0.mk (show w.heap.size ≤ g0 by rw [hg]; exact Nat.le_refl _); clear hb hbox hg)
    | (go_at_call 48; go_loud (refine (HT.out _).mono ?_; rintro e w2 ⟨v, rfl, hv, hb2⟩; obtain ⟨A0, cc0, rfl⟩ := Kd.R_slice hv; have BK2 := Aside0.mk (blk_below BK.out hb2); have HB2 := Aside0.mk (below_then HB1.out HB1.out.size hb2); have HV := Aside0.mk hv; clear hb2 hv; have hcut := HC7.out A0 cc0 (Kd.R_reads' HV.out).2.1))
    | (go_at_call 115; go_loud ((with_reducible refine (HN1.out A0 cc0 _ (Kd.R_reads' HV.out).2.1 (Kd.C_take (m := 7) (Kd.R_reads' HV.out).2.2 L7.out)).mono ?_); rintro e w3 ⟨v1, rfl, hv1, hb3⟩; have BK3 := Aside0.mk (blk_below BK2.out hb3); have HB3 := Aside0.mk (below_then HB2.out HB2.out.size hb3); have HV3 := Aside0.mk (Kd.R_below HV.out hb3); clear hb3; obtain ⟨A1, cc1, rfl⟩ := Kd.R_slice hv1; clear hv1; have z0 : w3.cell? ⟨g0, 0, none⟩ = some (.int .i64 0) := (blk_cell BK3.out 0).trans rfl; have f0 := blk_frozen BK3.out 0; have z1 : w3.cell? ⟨g0, 1, none⟩ = some (.int .i64 0) := (blk_cell BK3.out 1).trans rfl; have f1 := blk_frozen BK3.out 1; have z2 : w3.cell? ⟨g0, 2, none⟩ = some (.int .i64 0) := (blk_cell BK3.out 2).trans rfl; have f2 := blk_frozen BK3.out 2; have z3 : w3.cell? ⟨g0, 3, none⟩ = some (.int .i64 0) := (blk_cell BK3.out 3).trans rfl; have f3 := blk_frozen BK3.out 3; have z4 : w3.cell? ⟨g0, 4, none⟩ = some (.int .i64 0) := (blk_cell BK3.out 4).trans rfl; have f4 := blk_frozen BK3.out 4; have z5 : w3.cell? ⟨g0, 5, none⟩ = some (.int .i64 0) := (blk_cell BK3.out 5).trans rfl; have f5 := blk_frozen BK3.out 5; have z6 : w3.cell? ⟨g0, 6, none⟩ = some (.slice none 0 0) := (blk_cell BK3.out 6).trans rfl; have f6 := blk_frozen BK3.out 6; have z7 : w3.cell? ⟨g0, 7, none⟩ = some (.slice none 0 0) := (blk_cell BK3.out 7).trans rfl; have f7 := blk_frozen BK3.out 7)))
  refine bodyPost_ret (results_ct rfl _ _ g0 39 #[.int .i64 0, .int .i64 0, .int .i64 0, .int .i64 0, .int .i64 0, .int .i64 0, .slice none 0 0, .slice none 0 0] (0, 0) _ rfl (put8 BK3.out) hu39 rfl (by kernel_rfl)) rfl ?_
  exact ⟨rfl, below8 HB3.out GE.out⟩
set_option maxHeartbeats 1000000 in
set_option maxRecDepth 100000 in
theorem list_Unpack.b4 (t : ByteArray) (w : World) (hs : t.size < 9223372036854775808) (l : List ByteArray) (hT : rowN 150 t = (l, 0)) (h7 : 7 ≤ l.length) (hl : l.length ≤ 150) (hlx : ∀ x ∈ l, x.size < 9223372036854775808) (ns : List Int) (n0 n1 n2 n3 n4 n5 n6 : Int) (hN : numK (l.take 7) = (ns, true)) (hns : ns = [n0, n1, n2, n3, n4, n5, n6]) (M : Int) (hM : (if 8 < (l.length : Int) - 7 then (8 : Int) else (l.length : Int) - 7) = M) (h : M < n6) :
    Calls Try.prog 51 #[.string t] w (list_Unpack.Bad w) := by
  have HT := Aside0.mk (fun W => list_Take.calls t l 0 W (by unfold list_Take.f; rw [if_pos hs, hT]))
  have hu39 := Try.underlying39; have HB := Aside0.mk (Below.refl w.heap.size w)
  have e3 : ¬ (l.length : Int) < 7 := by omega
  have L7 := Aside0.mk h7
  obtain ⟨i0, hi0, _, hsz, _⟩ := info_parts info23; have HC7 := Aside0.mk (fun (A : Option Addr) (c : Nat) (hc : l.length ≤ c) => cut_to (P := Try.prog) 37 23 .i64 Try.underlying37 hi0 A l.length c 7 (by decide) (by omega) hc)
  have h7l : (l.take 7).length = 7 := by rw [List.length_take]; omega
  have HN1 := Aside0.mk (fun (A : Option Addr) (c : Nat) (W : World) (hc : l.length ≤ c) (hr : Kd.C Kd.string W A (l.take 7).length (l.take 7)) => (h7l ▸ list_numbers.calls A c (l.take 7) ns true W hr (by omega) (by unfold list_numbers.f; rw [if_pos ⟨by omega, fun x hx => hlx x (List.mem_of_mem_take hx)⟩, hN]) : Calls Try.prog 115 #[.slice A 7 c] W _))
  clear hT hs hN h7l hlx; have LN : Aside0 (ns.length = 7) := ⟨by rw [hns]; rfl⟩
  have N0 : Aside0 (rdOf (0 : Int) ns 0 = n0) := ⟨by rw [hns]; rfl⟩
  have N1 : Aside0 (rdOf (0 : Int) ns 1 = n1) := ⟨by rw [hns]; rfl⟩
  have N2 : Aside0 (rdOf (0 : Int) ns 2 = n2) := ⟨by rw [hns]; rfl⟩
  have N3 : Aside0 (rdOf (0 : Int) ns 3 = n3) := ⟨by rw [hns]; rfl⟩
  have N4 : Aside0 (rdOf (0 : Int) ns 4 = n4) := ⟨by rw [hns]; rfl⟩
  have N5 : Aside0 (rdOf (0 : Int) ns 5 = n5) := ⟨by rw [hns]; rfl⟩
  have N6 : Aside0 (rdOf (0 : Int) ns 6 = n6) := ⟨by rw [hns]; rfl⟩
  clear hns; have hw : wrap64 ((l.length : Int) - 7) = (l.length : Int) - 7 := by unfold wrap64; omega
  go_enter Try.func51, Try.ntmps51
  go_wp2_with (first
    | ((with_reducible refine gate_dst (N := 2) rfl ?_); refine box_event ?hg (N := 2) ?hd (cs := #[.int .i64 0, .int .i64 0, .int .i64 0, .int .i64 0, .int .i64 0, .int .i64 0, .slice none 0 0, .slice none 0 0]) (t := 39) ?hr ?_; (case hd => rfl); (case hg => rfl); (case hr => first | (go_simp; done) | (go_simp; rfl)); intro g0 hg w1 hbox hb; have BK := Aside0.mk hbox; have HB1 := Aside0.mk (below_step HB.out hb); have GE := Aside0.mk (show w.heap.size ≤ g0 by rw [hg]; exact Nat.le_refl _); clear hb hbox hg)
    | (go_at_call 48; go_loud (refine (HT.out _).mono ?_; rintro e w2 ⟨v, rfl, hv, hb2⟩; obtain ⟨A0, cc0, rfl⟩ := Kd.R_slice hv; have BK2 := Aside0.mk (blk_below BK.out hb2); have HB2 := Aside0.mk (below_then HB1.out HB1.out.size hb2); have HV := Aside0.mk hv; clear hb2 hv; have hcut := HC7.out A0 cc0 (Kd.R_reads' HV.out).2.1))
    | (go_at_call 115; go_loud ((with_reducible refine (HN1.out A0 cc0 _ (Kd.R_reads' HV.out).2.1 (Kd.C_take (m := 7) (Kd.R_reads' HV.out).2.2 L7.out)).mono ?_); rintro e w3 ⟨v1, rfl, hv1, hb3⟩; have BK3 := Aside0.mk (blk_below BK2.out hb3); have HB3 := Aside0.mk (below_then HB2.out HB2.out.size hb3); have HV3 := Aside0.mk (Kd.R_below HV.out hb3); clear hb3; obtain ⟨g1, cc1, ev, hgb, hgl, _⟩ := Kd.R_form hv1 (by rw [LN.out]; decide); rw [LN.out] at ev; subst ev; have HN := Aside0.mk hv1; have HG := Aside0.mk hgl; clear hv1 hgb hgl; have hn0 : w3.cell? ⟨g1, 0, none⟩ = some (.int .i64 n0) := (Kd.R_celln (0 : Int) HN.out 0 (by decide) (by decide)).1.trans (by rw [N0.out]); have hn1 : w3.cell? ⟨g1, 1, none⟩ = some (.int .i64 n1) := (Kd.R_celln (0 : Int) HN.out 1 (by decide) (by decide)).1.trans (by rw [N1.out]); have hn2 : w3.cell? ⟨g1, 2, none⟩ = some (.int .i64 n2) := (Kd.R_celln (0 : Int) HN.out 2 (by decide) (by decide)).1.trans (by rw [N2.out]); have hn3 : w3.cell? ⟨g1, 3, none⟩ = some (.int .i64 n3) := (Kd.R_celln (0 : Int) HN.out 3 (by decide) (by decide)).1.trans (by rw [N3.out]); have hn4 : w3.cell? ⟨g1, 4, none⟩ = some (.int .i64 n4) := (Kd.R_celln (0 : Int) HN.out 4 (by decide) (by decide)).1.trans (by rw [N4.out]); have hn5 : w3.cell? ⟨g1, 5, none⟩ = some (.int .i64 n5) := (Kd.R_celln (0 : Int) HN.out 5 (by decide) (by decide)).1.trans (by rw [N5.out]); have hn6 : w3.cell? ⟨g1, 6, none⟩ = some (.int .i64 n6) := (Kd.R_celln (0 : Int) HN.out 6 (by decide) (by decide)).1.trans (by rw [N6.out]); have z0 : w3.cell? ⟨g0, 0, none⟩ = some (.int .i64 0) := (blk_cell BK3.out 0).trans rfl; have f0 := blk_frozen BK3.out 0; have z1 : w3.cell? ⟨g0, 1, none⟩ = some (.int .i64 0) := (blk_cell BK3.out 1).trans rfl; have f1 := blk_frozen BK3.out 1; have z2 : w3.cell? ⟨g0, 2, none⟩ = some (.int .i64 0) := (blk_cell BK3.out 2).trans rfl; have f2 := blk_frozen BK3.out 2; have z3 : w3.cell? ⟨g0, 3, none⟩ = some (.int .i64 0) := (blk_cell BK3.out 3).trans rfl; have f3 := blk_frozen BK3.out 3; have z4 : w3.cell? ⟨g0, 4, none⟩ = some (.int .i64 0) := (blk_cell BK3.out 4).trans rfl; have f4 := blk_frozen BK3.out 4; have z5 : w3.cell? ⟨g0, 5, none⟩ = some (.int .i64 0) := (blk_cell BK3.out 5).trans rfl; have f5 := blk_frozen BK3.out 5; have z6 : w3.cell? ⟨g0, 6, none⟩ = some (.slice none 0 0) := (blk_cell BK3.out 6).trans rfl; have f6 := blk_frozen BK3.out 6; have z7 : w3.cell? ⟨g0, 7, none⟩ = some (.slice none 0 0) := (blk_cell BK3.out 7).trans rfl; have f7 := blk_frozen BK3.out 7)))
  refine bodyPost_ret (results_ct rfl _ _ g0 39 #[.int .i64 0, .int .i64 0, .int .i64 0, .int .i64 0, .int .i64 0, .int .i64 0, .slice none 0 0, .slice none 0 0] (0, 0) _ rfl (put8 BK3.out) hu39 rfl (by kernel_rfl)) rfl ?_
  exact ⟨rfl, below8 HB3.out GE.out⟩
set_option maxHeartbeats 1000000 in
set_option maxRecDepth 100000 in
theorem list_Unpack.main (t : ByteArray) (w : World) (hs : t.size < 9223372036854775808) (l : List ByteArray) (hT : rowN 150 t = (l, 0)) (h7 : 7 ≤ l.length) (hl : l.length ≤ 150) (hlx : ∀ x ∈ l, x.size < 9223372036854775808) (ns : List Int) (n0 n1 n2 n3 n4 n5 n6 : Int) (hN : numK (l.take 7) = (ns, true)) (hns : ns = [n0, n1, n2, n3, n4, n5, n6]) (hm : 0 ≤ n6) (hmx : n6 ≤ (l.length : Int) - 7) (M : Int) (hM : (if 8 < (l.length : Int) - 7 then (8 : Int) else (l.length : Int) - 7) = M) (g1n : ¬ M < n6) (m : Nat) (hmn : n6 = (m : Int)) (ms : List Int) (ok : Bool) (hN2 : numK ((l.drop 7).take m) = (ms, ok)) (hmsl : ms.length < 1099511627776) (r : Bool) (hR : rightM ⟨n0, n1, n2, n3, n4, n5, ms, l.drop (7 + m)⟩ = r) (h3 : ok = false ∨ (ok = true ∧ r = false) ∨ (ok = true ∧ r = true)) :
    Calls Try.prog 51 #[.string t] w (fun e w' => (ok = true ∧ r = true → list_Unpack.Good w ⟨n0, n1, n2, n3, n4, n5, ms, l.drop (7 + m)⟩ e w') ∧ (¬ (ok = true ∧ r = true) → list_Unpack.Bad w e w')) := by
  have HT := Aside0.mk (fun W => list_Take.calls t l 0 W (by unfold list_Take.f; rw [if_pos hs, hT]))
  have hu39 := Try.underlying39; have HB := Aside0.mk (Below.refl w.heap.size w)
  have HMS := Aside0.mk hmsl
  clear hmsl; have e3 : ¬ (l.length : Int) < 7 := by omega
  have L7 := Aside0.mk h7
  obtain ⟨i0, hi0, _, hsz, _⟩ := info_parts info23; have HC7 := Aside0.mk (fun (A : Option Addr) (c : Nat) (hc : l.length ≤ c) => cut_to (P := Try.prog) 37 23 .i64 Try.underlying37 hi0 A l.length c 7 (by decide) (by omega) hc)
  have h7l : (l.take 7).length = 7 := by rw [List.length_take]; omega
  have HN1 := Aside0.mk (fun (A : Option Addr) (c : Nat) (W : World) (hc : l.length ≤ c) (hr : Kd.C Kd.string W A (l.take 7).length (l.take 7)) => (h7l ▸ list_numbers.calls A c (l.take 7) ns true W hr (by omega) (by unfold list_numbers.f; rw [if_pos ⟨by omega, fun x hx => hlx x (List.mem_of_mem_take hx)⟩, hN]) : Calls Try.prog 115 #[.slice A 7 c] W _))
  have hlt : 7 + m ≤ l.length := by omega
  have hw2 : wrap64 (7 + (m : Int)) = 7 + (m : Int) := by unfold wrap64; omega
  have ht7 : (7 + (m : Int)).toNat = 7 + m := by omega
  have HLT := Aside0.mk hlt
  have hml : ((l.drop 7).take m).length = m := by rw [List.length_take, List.length_drop]; omega
  have HCM := Aside0.mk (fun (A : Option Addr) (c : Nat) (hc : l.length ≤ c) => (show ∃ A2, (∀ W : World, (Instr.slice 37 (.slice A l.length c) (some (.int .i64 7)) (some (.int .i64 (7 + (m : Int)))) none).run Try.prog W = .ok (.slice A2 m (c - 7)) W) ∧ ∀ W : World, Kd.C Kd.string W A l.length l → Kd.C Kd.string W A2 ((l.drop 7).take m).length ((l.drop 7).take m) from by
    refine ⟨if c = 7 then A else A.map (·.add (7 * 1)), fun W => ?_, fun W h => ?_⟩
    rotate_left
    · have := Kd.C_mid (lo := 7) (hi := 7 + m) (c := c) h (by omega) hlt hc
      rw [List.drop_take, show 7 + m - 7 = m by omega] at this
      exact this
    · have := cut_mid (P := Try.prog) 37 23 .i64 .i64 Try.underlying37 hi0 1 hsz A l.length c 7 (7 + (m : Int)) (by decide) (by omega) (by omega) hc W
      rw [ht7, show 7 + m - (7 : Int).toNat = m by omega] at this
      exact this))
  have HCF := Aside0.mk (fun (A : Option Addr) (c : Nat) (hc : l.length ≤ c) => (show ∃ A3, (∀ W : World, (Instr.slice 37 (.slice A l.length c) (some (.int .i64 (7 + (m : Int)))) none none).run Try.prog W = .ok (.slice A3 (l.length - (7 + m)) (c - (7 + m))) W) ∧ ∀ (W : World) (ok : Nat → Prop), Kd.F Kd.string W ok A l.length l → Kd.F Kd.string W ok A3 (l.drop (7 + m)).length (l.drop (7 + m)) from by
    refine ⟨if c = 7 + m then A else A.map (·.add ((7 + m) * 1)), fun W => ?_, fun W ok h => ?_⟩
    rotate_left
    · exact Kd.F_cut (m := 7 + m) (c := c) h hlt hc
    · have := cut_from (P := Try.prog) 37 23 .i64 Try.underlying37 hi0 1 hsz A l.length c (7 + (m : Int)) (by omega) (by omega) W
      rw [ht7] at this
      exact this))
  have HN2 := Aside0.mk (fun (A : Option Addr) (c : Nat) (W : World) (hc : m ≤ c) (hr : Kd.C Kd.string W A ((l.drop 7).take m).length ((l.drop 7).take m)) => (hml ▸ list_numbers.calls A c ((l.drop 7).take m) ms ok W hr (by omega) (by unfold list_numbers.f; rw [if_pos ⟨by omega, fun x hx => hlx x (List.mem_of_mem_drop (List.mem_of_mem_take hx))⟩, hN2]) : Calls Try.prog 115 #[.slice A m c] W _))
  clear hlt ht7; have HRT := Aside0.mk (fun (W : World) (A6 : Option Addr) (c6 : Nat) (A7 : Option Addr) (c7 : Nat) (h6 : Kd.C (Kd.int .i64) W A6 ms.length ms) (hc6 : ms.length ≤ c6) (h7' : Kd.C Kd.string W A7 (l.drop (7 + m)).length (l.drop (7 + m))) (hc7 : (l.drop (7 + m)).length ≤ c7) => list_Unpack.right n0 n1 n2 n3 n4 n5 A6 c6 ms A7 c7 (l.drop (7 + m)) r (l.length - (7 + m)) W List.length_drop h6 hc6 h7' hc7 HMS.out (fun x hx => hlx x (List.mem_of_mem_drop hx)) hR)
  clear hR; clear hT hs hN h7l hlx hN2 hml hi0 hsz; have LN : Aside0 (ns.length = 7) := ⟨by rw [hns]; rfl⟩
  have N0 : Aside0 (rdOf (0 : Int) ns 0 = n0) := ⟨by rw [hns]; rfl⟩
  have N1 : Aside0 (rdOf (0 : Int) ns 1 = n1) := ⟨by rw [hns]; rfl⟩
  have N2 : Aside0 (rdOf (0 : Int) ns 2 = n2) := ⟨by rw [hns]; rfl⟩
  have N3 : Aside0 (rdOf (0 : Int) ns 3 = n3) := ⟨by rw [hns]; rfl⟩
  have N4 : Aside0 (rdOf (0 : Int) ns 4 = n4) := ⟨by rw [hns]; rfl⟩
  have N5 : Aside0 (rdOf (0 : Int) ns 5 = n5) := ⟨by rw [hns]; rfl⟩
  have N6 : Aside0 (rdOf (0 : Int) ns 6 = n6) := ⟨by rw [hns]; rfl⟩
  clear hns; have hw : wrap64 ((l.length : Int) - 7) = (l.length : Int) - 7 := by unfold wrap64; omega
  rcases h3 with rfl | ⟨rfl, rfl⟩ | ⟨rfl, rfl⟩
  all_goals
    go_enter Try.func51, Try.ntmps51
    go_wp2_with (first
      | ((with_reducible refine gate_dst (N := 2) rfl ?_); refine box_event ?hg (N := 2) ?hd (cs := #[.int .i64 0, .int .i64 0, .int .i64 0, .int .i64 0, .int .i64 0, .int .i64 0, .slice none 0 0, .slice none 0 0]) (t := 39) ?hr ?_; (case hd => rfl); (case hg => rfl); (case hr => first | (go_simp; done) | (go_simp; rfl)); intro g0 hg w1 hbox hb; have BK := Aside0.mk hbox; have HB1 := Aside0.mk (below_step HB.out hb); have GE := Aside0.mk (show w.heap.size ≤ g0 by rw [hg]; exact Nat.le_refl _); clear hb hbox hg)
      | (go_at_call 48; go_loud (refine (HT.out _).mono ?_; rintro e w2 ⟨v, rfl, hv, hb2⟩; obtain ⟨A0, cc0, rfl⟩ := Kd.R_slice hv; have BK2 := Aside0.mk (blk_below BK.out hb2); have HB2 := Aside0.mk (below_then HB1.out HB1.out.size hb2); have HV := Aside0.mk hv; clear hb2 hv; have hcut := HC7.out A0 cc0 (Kd.R_reads' HV.out).2.1))
      | (go_at_call 115; go_loud ((with_reducible refine (HN1.out A0 cc0 _ (Kd.R_reads' HV.out).2.1 (Kd.C_take (m := 7) (Kd.R_reads' HV.out).2.2 L7.out)).mono ?_); rintro e w3 ⟨v1, rfl, hv1, hb3⟩; have BK3 := Aside0.mk (blk_below BK2.out hb3); have HB3 := Aside0.mk (below_then HB2.out HB2.out.size hb3); have HV3 := Aside0.mk (Kd.R_below HV.out hb3); clear hb3; obtain ⟨g1, cc1, ev, hgb, hgl, _⟩ := Kd.R_form hv1 (by rw [LN.out]; decide); rw [LN.out] at ev; subst ev; have HN := Aside0.mk hv1; have HG := Aside0.mk hgl; clear hv1 hgb hgl; have hn0 : w3.cell? ⟨g1, 0, none⟩ = some (.int .i64 n0) := (Kd.R_celln (0 : Int) HN.out 0 (by decide) (by decide)).1.trans (by rw [N0.out]); have hn1 : w3.cell? ⟨g1, 1, none⟩ = some (.int .i64 n1) := (Kd.R_celln (0 : Int) HN.out 1 (by decide) (by decide)).1.trans (by rw [N1.out]); have hn2 : w3.cell? ⟨g1, 2, none⟩ = some (.int .i64 n2) := (Kd.R_celln (0 : Int) HN.out 2 (by decide) (by decide)).1.trans (by rw [N2.out]); have hn3 : w3.cell? ⟨g1, 3, none⟩ = some (.int .i64 n3) := (Kd.R_celln (0 : Int) HN.out 3 (by decide) (by decide)).1.trans (by rw [N3.out]); have hn4 : w3.cell? ⟨g1, 4, none⟩ = some (.int .i64 n4) := (Kd.R_celln (0 : Int) HN.out 4 (by decide) (by decide)).1.trans (by rw [N4.out]); have hn5 : w3.cell? ⟨g1, 5, none⟩ = some (.int .i64 n5) := (Kd.R_celln (0 : Int) HN.out 5 (by decide) (by decide)).1.trans (by rw [N5.out]); have hn6 : w3.cell? ⟨g1, 6, none⟩ = some (.int .i64 n6) := (Kd.R_celln (0 : Int) HN.out 6 (by decide) (by decide)).1.trans (by rw [N6.out]); obtain ⟨A2, hcm, hC2⟩ := HCM.out A0 cc0 (Kd.R_reads' HV.out).2.1; have HC2 := Aside0.mk hC2; clear hC2))
      | (go_at_call 115; go_loud ((with_reducible refine (HN2.out A2 (cc0 - 7) _ (by have := (Kd.R_reads' HV.out).2.1; have := HLT.out; omega) (HC2.out _ (Kd.R_reads' HV3.out).2.2)).mono ?_); rintro e w4 ⟨v2, rfl, hv2, hb4⟩; obtain ⟨A4, cc4, rfl⟩ := Kd.R_slice hv2; have BK4 := Aside0.mk (blk_below BK3.out hb4); have HB4 := Aside0.mk (below_then HB3.out HB3.out.size hb4); have HV4 := Aside0.mk (Kd.R_below HV3.out hb4); have HN4 := Aside0.mk (Kd.R_below HN.out hb4); have HM4 := Aside0.mk hv2; have hs34 := hb4.size; clear hb4 hv2; clear hn0 hn1 hn2 hn3 hn4 hn5 hn6; have hn0 : w4.cell? ⟨g1, 0, none⟩ = some (.int .i64 n0) := (Kd.R_celln (0 : Int) HN4.out 0 (by decide) (by decide)).1.trans (by rw [N0.out]); have hn1 : w4.cell? ⟨g1, 1, none⟩ = some (.int .i64 n1) := (Kd.R_celln (0 : Int) HN4.out 1 (by decide) (by decide)).1.trans (by rw [N1.out]); have hn2 : w4.cell? ⟨g1, 2, none⟩ = some (.int .i64 n2) := (Kd.R_celln (0 : Int) HN4.out 2 (by decide) (by decide)).1.trans (by rw [N2.out]); have hn3 : w4.cell? ⟨g1, 3, none⟩ = some (.int .i64 n3) := (Kd.R_celln (0 : Int) HN4.out 3 (by decide) (by decide)).1.trans (by rw [N3.out]); have hn4 : w4.cell? ⟨g1, 4, none⟩ = some (.int .i64 n4) := (Kd.R_celln (0 : Int) HN4.out 4 (by decide) (by decide)).1.trans (by rw [N4.out]); have hn5 : w4.cell? ⟨g1, 5, none⟩ = some (.int .i64 n5) := (Kd.R_celln (0 : Int) HN4.out 5 (by decide) (by decide)).1.trans (by rw [N5.out]); have hn6 : w4.cell? ⟨g1, 6, none⟩ = some (.int .i64 n6) := (Kd.R_celln (0 : Int) HN4.out 6 (by decide) (by decide)).1.trans (by rw [N6.out]); obtain ⟨A3, hcf, hF3⟩ := HCF.out A0 cc0 (Kd.R_reads' HV.out).2.1; have HF3 := Aside0.mk hF3; clear hF3; have hg4 : g1 < w4.heap.size := Nat.lt_of_lt_of_le HG.out hs34; have ha0 : ∀ o : Obj, (w4.alloc o).cell? ⟨g1, 0, none⟩ = some (.int .i64 n0) := fun o => (World.cell?_alloc_past o g1 0 hg4).trans hn0; have ha1 : ∀ o : Obj, (w4.alloc o).cell? ⟨g1, 1, none⟩ = some (.int .i64 n1) := fun o => (World.cell?_alloc_past o g1 1 hg4).trans hn1; have ha2 : ∀ o : Obj, (w4.alloc o).cell? ⟨g1, 2, none⟩ = some (.int .i64 n2) := fun o => (World.cell?_alloc_past o g1 2 hg4).trans hn2; have ha3 : ∀ o : Obj, (w4.alloc o).cell? ⟨g1, 3, none⟩ = some (.int .i64 n3) := fun o => (World.cell?_alloc_past o g1 3 hg4).trans hn3; have ha4 : ∀ o : Obj, (w4.alloc o).cell? ⟨g1, 4, none⟩ = some (.int .i64 n4) := fun o => (World.cell?_alloc_past o g1 4 hg4).trans hn4; have ha5 : ∀ o : Obj, (w4.alloc o).cell? ⟨g1, 5, none⟩ = some (.int .i64 n5) := fun o => (World.cell?_alloc_past o g1 5 hg4).trans hn5; have ha6 : ∀ o : Obj, (w4.alloc o).cell? ⟨g1, 6, none⟩ = some (.int .i64 n6) := fun o => (World.cell?_alloc_past o g1 6 hg4).trans hn6; clear hg4 hs34; have z0 : w4.cell? ⟨g0, 0, none⟩ = some (.int .i64 0) := (blk_cell BK4.out 0).trans rfl; have f0 := blk_frozen BK4.out 0; have z1 : w4.cell? ⟨g0, 1, none⟩ = some (.int .i64 0) := (blk_cell BK4.out 1).trans rfl; have f1 := blk_frozen BK4.out 1; have z2 : w4.cell? ⟨g0, 2, none⟩ = some (.int .i64 0) := (blk_cell BK4.out 2).trans rfl; have f2 := blk_frozen BK4.out 2; have z3 : w4.cell? ⟨g0, 3, none⟩ = some (.int .i64 0) := (blk_cell BK4.out 3).trans rfl; have f3 := blk_frozen BK4.out 3; have z4 : w4.cell? ⟨g0, 4, none⟩ = some (.int .i64 0) := (blk_cell BK4.out 4).trans rfl; have f4 := blk_frozen BK4.out 4; have z5 : w4.cell? ⟨g0, 5, none⟩ = some (.int .i64 0) := (blk_cell BK4.out 5).trans rfl; have f5 := blk_frozen BK4.out 5; have z6 : w4.cell? ⟨g0, 6, none⟩ = some (.slice none 0 0) := (blk_cell BK4.out 6).trans rfl; have f6 := blk_frozen BK4.out 6; have z7 : w4.cell? ⟨g0, 7, none⟩ = some (.slice none 0 0) := (blk_cell BK4.out 7).trans rfl; have f7 := blk_frozen BK4.out 7)))
    have HN5 := Aside0.mk (Kd.R_drew HN4.out)
    have HV5 := Aside0.mk (Kd.R_drew HV4.out)
    have HM5 := Aside0.mk (Kd.R_drew HM4.out)
    have BK5 := Aside0.mk (blk_drew BK4.out)
    have HB5 := Aside0.mk (below_drew1 HB4.out)
    refine start_ (n := 27) (S := fun w' => w'.cell? ⟨g1, 0, none⟩ = some (.int .i64 n0) ∧ w'.cell? ⟨g1, 1, none⟩ = some (.int .i64 n1) ∧ w'.cell? ⟨g1, 2, none⟩ = some (.int .i64 n2) ∧ w'.cell? ⟨g1, 3, none⟩ = some (.int .i64 n3) ∧ w'.cell? ⟨g1, 4, none⟩ = some (.int .i64 n4) ∧ w'.cell? ⟨g1, 5, none⟩ = some (.int .i64 n5)) (ds := [26]) #[false, false, false, false, false, false, false, false, false, false, false, false, false, false, false, false, false, false, false, false, false, false, false, false, false, false, false] (by kernel_rfl) rfl rfl ⟨hn0, hn1, hn2, hn3, hn4, hn5⟩ (fun hHeld => ?_)
    refine with_tabW list_Unpack.tab9 list_Unpack.bits9 (fun HT_ HW_ => ?_)
    clear z0 z1 z2 z3 z4 z5 z6 z7 f0 f1 f2 f3 f4 f5 f6 f7 ha0 ha1 ha2 ha3 ha4 ha5 ha6 hn0 hn1 hn2 hn3 hn4 hn5 hn6 hcm hcut; generalize w4.drew = w5 at HN5 HV5 HM5 BK5 HB5 hHeld ⊢
    refine pure_ (i := 0) (N := some 54) (v := ?_) (a' := ?_) #[true, false, false, false, false, false, false, false, false, false, false, false, false, false, false, false, false, false, false, false, false, false, false, false, false, false, false] rfl rfl (any_of HT_.out (by kernel_rfl)) (fun _ _ _ h => h) (Or.inl ⟨by rfl, ?_⟩) ?_ ?_
    rotate_left
    · intro w'; go_simp; with_reducible rfl
    rotate_left
    · simp only [Act.put, List.setIfInBounds_toArray, List.set_cons_zero, List.set_cons_succ, i64_w, i32_w]; rfl
    refine pure_ (i := 1) (N := some 55) (v := ?_) (a' := ?_) #[true, true, false, false, false, false, false, false, false, false, false, false, false, false, false, false, false, false, false, false, false, false, false, false, false, false, false] rfl rfl (any_of HT_.out (by kernel_rfl)) (fun _ _ _ h => h) (Or.inl ⟨by rfl, ?_⟩) ?_ ?_
    rotate_left
    · intro w'; go_simp; with_reducible rfl
    rotate_left
    · simp only [Act.put, List.setIfInBounds_toArray, List.set_cons_zero, List.set_cons_succ, i64_w, i32_w]; rfl
    refine take_ (i := 2) (N := some 56) (v := ?_) (a' := ?_) #[true, true, true, false, false, false, false, false, false, false, false, false, false, false, false, false, false, false, false, false, false, false, false, false, false, false, false] rfl rfl (take_ofW HT_.out HW_.out (by kernel_rfl)) (fun _ _ _ h => h) (Or.inl ⟨by rfl, ?_⟩) hHeld ?_ ?_
    rotate_left
    · rintro w' ⟨s0, s1, s2, s3, s4, s5⟩; go_simp; with_reducible rfl
    rotate_left
    · simp only [Act.put, List.setIfInBounds_toArray, List.set_cons_zero, List.set_cons_succ, i64_w, i32_w]; rfl
    refine pure_ (i := 3) (N := some 57) (v := ?_) (a' := ?_) #[true, true, true, true, false, false, false, false, false, false, false, false, false, false, false, false, false, false, false, false, false, false, false, false, false, false, false] rfl rfl (any_of HT_.out (by kernel_rfl)) (fun _ _ _ h => h) (Or.inl ⟨by rfl, ?_⟩) ?_ ?_
    rotate_left
    · intro w'; go_simp; with_reducible rfl
    rotate_left
    · simp only [Act.put, List.setIfInBounds_toArray, List.set_cons_zero, List.set_cons_succ, i64_w, i32_w]; rfl
    refine pure_ (i := 4) (N := some 58) (v := ?_) (a' := ?_) #[true, true, true, true, true, false, false, false, false, false, false, false, false, false, false, false, false, false, false, false, false, false, false, false, false, false, false] rfl rfl (any_of HT_.out (by kernel_rfl)) (fun _ _ _ h => h) (Or.inl ⟨by rfl, ?_⟩) ?_ ?_
    rotate_left
    · intro w'; go_simp; with_reducible rfl
    rotate_left
    · simp only [Act.put, List.setIfInBounds_toArray, List.set_cons_zero, List.set_cons_succ, i64_w, i32_w]; rfl
    refine take_ (i := 5) (N := some 59) (v := ?_) (a' := ?_) #[true, true, true, true, true, true, false, false, false, false, false, false, false, false, false, false, false, false, false, false, false, false, false, false, false, false, false] rfl rfl (take_ofW HT_.out HW_.out (by kernel_rfl)) (fun _ _ _ h => h) (Or.inl ⟨by rfl, ?_⟩) hHeld ?_ ?_
    rotate_left
    · rintro w' ⟨s0, s1, s2, s3, s4, s5⟩; go_simp; with_reducible rfl
    rotate_left
    · simp only [Act.put, List.setIfInBounds_toArray, List.set_cons_zero, List.set_cons_succ, i64_w, i32_w]; rfl
    refine pure_ (i := 6) (N := some 60) (v := ?_) (a' := ?_) #[true, true, true, true, true, true, true, false, false, false, false, false, false, false, false, false, false, false, false, false, false, false, false, false, false, false, false] rfl rfl (any_of HT_.out (by kernel_rfl)) (fun _ _ _ h => h) (Or.inl ⟨by rfl, ?_⟩) ?_ ?_
    rotate_left
    · intro w'; go_simp; with_reducible rfl
    rotate_left
    · simp only [Act.put, List.setIfInBounds_toArray, List.set_cons_zero, List.set_cons_succ, i64_w, i32_w]; rfl
    refine pure_ (i := 7) (N := some 61) (v := ?_) (a' := ?_) #[true, true, true, true, true, true, true, true, false, false, false, false, false, false, false, false, false, false, false, false, false, false, false, false, false, false, false] rfl rfl (any_of HT_.out (by kernel_rfl)) (fun _ _ _ h => h) (Or.inl ⟨by rfl, ?_⟩) ?_ ?_
    rotate_left
    · intro w'; go_simp; with_reducible rfl
    rotate_left
    · simp only [Act.put, List.setIfInBounds_toArray, List.set_cons_zero, List.set_cons_succ, i64_w, i32_w]; rfl
    refine take_ (i := 8) (N := some 62) (v := ?_) (a' := ?_) #[true, true, true, true, true, true, true, true, true, false, false, false, false, false, false, false, false, false, false, false, false, false, false, false, false, false, false] rfl rfl (take_ofW HT_.out HW_.out (by kernel_rfl)) (fun _ _ _ h => h) (Or.inl ⟨by rfl, ?_⟩) hHeld ?_ ?_
    rotate_left
    · rintro w' ⟨s0, s1, s2, s3, s4, s5⟩; go_simp; with_reducible rfl
    rotate_left
    · simp only [Act.put, List.setIfInBounds_toArray, List.set_cons_zero, List.set_cons_succ, i64_w, i32_w]; rfl
    refine pure_ (i := 9) (N := some 63) (v := ?_) (a' := ?_) #[true, true, true, true, true, true, true, true, true, true, false, false, false, false, false, false, false, false, false, false, false, false, false, false, false, false, false] rfl rfl (any_of HT_.out (by kernel_rfl)) (fun _ _ _ h => h) (Or.inl ⟨by rfl, ?_⟩) ?_ ?_
    rotate_left
    · intro w'; go_simp; with_reducible rfl
    rotate_left
    · simp only [Act.put, List.setIfInBounds_toArray, List.set_cons_zero, List.set_cons_succ, i64_w, i32_w]; rfl
    refine pure_ (i := 10) (N := some 64) (v := ?_) (a' := ?_) #[true, true, true, true, true, true, true, true, true, true, true, false, false, false, false, false, false, false, false, false, false, false, false, false, false, false, false] rfl rfl (any_of HT_.out (by kernel_rfl)) (fun _ _ _ h => h) (Or.inl ⟨by rfl, ?_⟩) ?_ ?_
    rotate_left
    · intro w'; go_simp; with_reducible rfl
    rotate_left
    · simp only [Act.put, List.setIfInBounds_toArray, List.set_cons_zero, List.set_cons_succ, i64_w, i32_w]; rfl
    refine pure_ (i := 11) (N := some 65) (v := ?_) (a' := ?_) #[true, true, true, true, true, true, true, true, true, true, true, true, false, false, false, false, false, false, false, false, false, false, false, false, false, false, false] rfl rfl (any_of HT_.out (by kernel_rfl)) (fun _ _ _ h => h) (Or.inl ⟨by rfl, ?_⟩) ?_ ?_
    rotate_left
    · intro w'; go_simp; with_reducible rfl
    rotate_left
    · simp only [Act.put, List.setIfInBounds_toArray, List.set_cons_zero, List.set_cons_succ, i64_w, i32_w]; rfl
    refine take_ (i := 12) (N := some 66) (v := ?_) (a' := ?_) #[true, true, true, true, true, true, true, true, true, true, true, true, true, false, false, false, false, false, false, false, false, false, false, false, false, false, false] rfl rfl (take_ofW HT_.out HW_.out (by kernel_rfl)) (fun _ _ _ h => h) (Or.inl ⟨by rfl, ?_⟩) hHeld ?_ ?_
    rotate_left
    · rintro w' ⟨s0, s1, s2, s3, s4, s5⟩; go_simp; with_reducible rfl
    rotate_left
    · simp only [Act.put, List.setIfInBounds_toArray, List.set_cons_zero, List.set_cons_succ, i64_w, i32_w]; rfl
    refine pure_ (i := 13) (N := some 67) (v := ?_) (a' := ?_) #[true, true, true, true, true, true, true, true, true, true, true, true, true, true, false, false, false, false, false, false, false, false, false, false, false, false, false] rfl rfl (any_of HT_.out (by kernel_rfl)) (fun _ _ _ h => h) (Or.inl ⟨by rfl, ?_⟩) ?_ ?_
    rotate_left
    · intro w'; go_simp; with_reducible rfl
    rotate_left
    · simp only [Act.put, List.setIfInBounds_toArray, List.set_cons_zero, List.set_cons_succ, i64_w, i32_w]; rfl
    refine pure_ (i := 14) (N := some 68) (v := ?_) (a' := ?_) #[true, true, true, true, true, true, true, true, true, true, true, true, true, true, true, false, false, false, false, false, false, false, false, false, false, false, false] rfl rfl (any_of HT_.out (by kernel_rfl)) (fun _ _ _ h => h) (Or.inl ⟨by rfl, ?_⟩) ?_ ?_
    rotate_left
    · intro w'; go_simp; with_reducible rfl
    rotate_left
    · simp only [Act.put, List.setIfInBounds_toArray, List.set_cons_zero, List.set_cons_succ, i64_w, i32_w]; rfl
    refine take_ (i := 15) (N := some 69) (v := ?_) (a' := ?_) #[true, true, true, true, true, true, true, true, true, true, true, true, true, true, true, true, false, false, false, false, false, false, false, false, false, false, false] rfl rfl (take_ofW HT_.out HW_.out (by kernel_rfl)) (fun _ _ _ h => h) (Or.inl ⟨by rfl, ?_⟩) hHeld ?_ ?_
    rotate_left
    · rintro w' ⟨s0, s1, s2, s3, s4, s5⟩; go_simp; with_reducible rfl
    rotate_left
    · simp only [Act.put, List.setIfInBounds_toArray, List.set_cons_zero, List.set_cons_succ, i64_w, i32_w]; rfl
    refine pure_ (i := 16) (N := some 70) (v := ?_) (a' := ?_) #[true, true, true, true, true, true, true, true, true, true, true, true, true, true, true, true, true, false, false, false, false, false, false, false, false, false, false] rfl rfl (any_of HT_.out (by kernel_rfl)) (fun _ _ _ h => h) (Or.inl ⟨by rfl, ?_⟩) ?_ ?_
    rotate_left
    · intro w'; go_simp; with_reducible rfl
    rotate_left
    · simp only [Act.put, List.setIfInBounds_toArray, List.set_cons_zero, List.set_cons_succ, i64_w, i32_w]; rfl
    refine pure_ (i := 17) (N := some 71) (v := ?_) (a' := ?_) #[true, true, true, true, true, true, true, true, true, true, true, true, true, true, true, true, true, true, false, false, false, false, false, false, false, false, false] rfl rfl (any_of HT_.out (by kernel_rfl)) (fun _ _ _ h => h) (Or.inl ⟨by rfl, ?_⟩) ?_ ?_
    rotate_left
    · intro w'; go_simp; with_reducible rfl
    rotate_left
    · simp only [Act.put, List.setIfInBounds_toArray, List.set_cons_zero, List.set_cons_succ, i64_w, i32_w]; rfl
    refine pure_ (i := 18) (N := some 72) (v := ?_) (a' := ?_) #[true, true, true, true, true, true, true, true, true, true, true, true, true, true, true, true, true, true, true, false, false, false, false, false, false, false, false] rfl rfl (any_of HT_.out (by kernel_rfl)) (fun _ _ _ h => h) (Or.inl ⟨by rfl, ?_⟩) ?_ ?_
    rotate_left
    · intro w'; go_simp; with_reducible rfl
    rotate_left
    · simp only [Act.put, List.setIfInBounds_toArray, List.set_cons_zero, List.set_cons_succ, i64_w, i32_w]; rfl
    refine take_ (i := 19) (N := some 73) (v := ?_) (a' := ?_) #[true, true, true, true, true, true, true, true, true, true, true, true, true, true, true, true, true, true, true, true, false, false, false, false, false, false, false] rfl rfl (take_ofW HT_.out HW_.out (by kernel_rfl)) (fun _ _ _ h => h) (Or.inl ⟨by rfl, ?_⟩) hHeld ?_ ?_
    rotate_left
    · rintro w' ⟨s0, s1, s2, s3, s4, s5⟩; go_simp; with_reducible rfl
    rotate_left
    · simp only [Act.put, List.setIfInBounds_toArray, List.set_cons_zero, List.set_cons_succ, i64_w, i32_w]; rfl
    refine pure_ (i := 20) (N := some 74) (v := ?_) (a' := ?_) #[true, true, true, true, true, true, true, true, true, true, true, true, true, true, true, true, true, true, true, true, true, false, false, false, false, false, false] rfl rfl (any_of HT_.out (by kernel_rfl)) (fun _ _ _ h => h) (Or.inl ⟨by rfl, ?_⟩) ?_ ?_
    rotate_left
    · intro w'; go_simp; with_reducible rfl
    rotate_left
    · simp only [Act.put, List.setIfInBounds_toArray, List.set_cons_zero, List.set_cons_succ, i64_w, i32_w]; rfl
    refine pure_ (i := 21) (N := some 75) (v := ?_) (a' := ?_) #[true, true, true, true, true, true, true, true, true, true, true, true, true, true, true, true, true, true, true, true, true, true, false, false, false, false, false] rfl rfl (any_of HT_.out (by kernel_rfl)) (fun _ _ _ h => h) (Or.inl ⟨by rfl, ?_⟩) ?_ ?_
    rotate_left
    · intro w'; go_simp; with_reducible rfl
    rotate_left
    · simp only [Act.put, List.setIfInBounds_toArray, List.set_cons_zero, List.set_cons_succ, i64_w, i32_w]; rfl
    refine pure_ (i := 22) (N := some 76) (v := ?_) (a' := ?_) #[true, true, true, true, true, true, true, true, true, true, true, true, true, true, true, true, true, true, true, true, true, true, true, false, false, false, false] rfl rfl (any_of HT_.out (by kernel_rfl)) (fun _ _ _ h => h) (Or.inl ⟨by rfl, ?_⟩) ?_ ?_
    rotate_left
    · intro w'; go_simp; with_reducible rfl
    rotate_left
    · simp only [Act.put, List.setIfInBounds_toArray, List.set_cons_zero, List.set_cons_succ, i64_w, i32_w]; rfl
    refine pure_ (i := 23) (N := some 77) (v := ?_) (a' := ?_) #[true, true, true, true, true, true, true, true, true, true, true, true, true, true, true, true, true, true, true, true, true, true, true, true, false, false, false] rfl rfl (any_of HT_.out (by kernel_rfl)) (fun _ _ _ h => h) (Or.inl ⟨by rfl, ?_⟩) ?_ ?_
    rotate_left
    · intro w'; go_simp; with_reducible rfl
    rotate_left
    · simp only [Act.put, List.setIfInBounds_toArray, List.set_cons_zero, List.set_cons_succ, i64_w, i32_w]; rfl
    refine pure_ (i := 24) (N := some 78) (v := ?_) (a' := ?_) #[true, true, true, true, true, true, true, true, true, true, true, true, true, true, true, true, true, true, true, true, true, true, true, true, true, false, false] rfl rfl (any_of HT_.out (by kernel_rfl)) (fun _ _ _ h => h) (Or.inl ⟨by rfl, ?_⟩) ?_ ?_
    rotate_left
    · intro w'; go_simp; with_reducible rfl
    rotate_left
    · simp only [Act.put, List.setIfInBounds_toArray, List.set_cons_zero, List.set_cons_succ, i64_w, i32_w]; rfl
    refine one_ (i := 25) (N := some 10) #[true, true, true, true, true, true, true, true, true, true, true, true, true, true, true, true, true, true, true, true, true, true, true, true, true, true, false] rfl rfl (one_of HT_.out (by kernel_rfl)) (by decide) (fun K hK => ?_)
    refine box_step (by rfl) (N := 10) rfl (cs := #[.int .i64 0, .int .i64 0, .int .i64 0, .int .i64 0, .int .i64 0, .int .i64 0, .slice none 0 0, .slice none 0 0]) (t := 39) ?hr ?_
    case hr => first | (go_simp; done) | (go_simp; rfl)
    intro gm hgm w6 hbx hb6; have HN6 := Aside0.mk (Kd.R_below HN5.out hb6)
    have BM6 := Aside0.mk hbx
    have BK6 := Aside0.mk (blk_below BK5.out hb6)
    have HB6 := Aside0.mk (below_step HB5.out hb6)
    have GM := Aside0.mk (show w.heap.size ≤ gm by rw [hgm]; exact HB5.out.size)
    have HV6 := Aside0.mk (Kd.R_below (Kd.R_elderB HV5.out gm (Nat.le_of_eq hgm.symm)) hb6)
    have HM6 := Aside0.mk (Kd.R_below (Kd.R_elderB HM5.out gm (Nat.le_of_eq hgm.symm)) hb6)
    have NE0 : Aside0 (g0 ≠ gm) := ⟨by rw [hgm]; exact Nat.ne_of_lt (blk_lt BK5.out)⟩
    clear hbx hb6 hgm; refine hK.out _ _ ⟨(Kd.R_celln (0 : Int) HN6.out 0 (by decide) (by decide)).1.trans (by rw [N0.out]), (Kd.R_celln (0 : Int) HN6.out 1 (by decide) (by decide)).1.trans (by rw [N1.out]), (Kd.R_celln (0 : Int) HN6.out 2 (by decide) (by decide)).1.trans (by rw [N2.out]), (Kd.R_celln (0 : Int) HN6.out 3 (by decide) (by decide)).1.trans (by rw [N3.out]), (Kd.R_celln (0 : Int) HN6.out 4 (by decide) (by decide)).1.trans (by rw [N4.out]), (Kd.R_celln (0 : Int) HN6.out 5 (by decide) (by decide)).1.trans (by rw [N5.out])⟩ (fun hHeld => ?_)
    clear hK K; refine norm_ (a' := ?_) ?_ ?_
    rotate_left
    · show Act.put _ (some 10) _ = _
      simp only [Act.put, List.setIfInBounds_toArray, List.set_cons_zero, List.set_cons_succ, i64_w, i32_w]; rfl
    refine last_ (i := 26) (N := none) #[true, true, true, true, true, true, true, true, true, true, true, true, true, true, true, true, true, true, true, true, true, true, true, true, true, true, true] rfl rfl (one_of HT_.out (by kernel_rfl)) (by decide) (fun K hK => ?_)
    have y0 : w6.cell? ⟨gm, 0, none⟩ = some (.int .i64 0) := (blk_cell BM6.out 0).trans rfl
    have x0 := blk_frozen BM6.out 0; have y1 : w6.cell? ⟨gm, 1, none⟩ = some (.int .i64 0) := (blk_cell BM6.out 1).trans rfl
    have x1 := blk_frozen BM6.out 1; have y2 : w6.cell? ⟨gm, 2, none⟩ = some (.int .i64 0) := (blk_cell BM6.out 2).trans rfl
    have x2 := blk_frozen BM6.out 2; have y3 : w6.cell? ⟨gm, 3, none⟩ = some (.int .i64 0) := (blk_cell BM6.out 3).trans rfl
    have x3 := blk_frozen BM6.out 3; have y4 : w6.cell? ⟨gm, 4, none⟩ = some (.int .i64 0) := (blk_cell BM6.out 4).trans rfl
    have x4 := blk_frozen BM6.out 4; have y5 : w6.cell? ⟨gm, 5, none⟩ = some (.int .i64 0) := (blk_cell BM6.out 5).trans rfl
    have x5 := blk_frozen BM6.out 5; have y6 : w6.cell? ⟨gm, 6, none⟩ = some (.slice none 0 0) := (blk_cell BM6.out 6).trans rfl
    have x6 := blk_frozen BM6.out 6; have y7 : w6.cell? ⟨gm, 7, none⟩ = some (.slice none 0 0) := (blk_cell BM6.out 7).trans rfl
    have x7 := blk_frozen BM6.out 7; refine skip_ (w1 := ?_) (by rfl) rfl ?_ ?_
    rotate_left; · (go_simp; rfl)
    refine hK.out _ _ ?_
    clear hK K; refine done_ (done_of HT_.out (by kernel_rfl)) ?_
    clear y0 y1 y2 y3 y4 y5 y6 y7 x0 x1 x2 x3 x4 x5 x6 x7; have BG7 := Aside0.mk (put8 (d0 := .int .i64 n0) (d1 := .int .i64 n1) (d2 := .int .i64 n2) (d3 := .int .i64 n3) (d4 := .int .i64 n4) (d5 := .int .i64 n5) (d6 := .slice A4 ms.length cc4) (d7 := .slice A3 (l.length - (7 + m)) (cc0 - (7 + m))) BM6.out)
    have BK7 := Aside0.mk ((far8 (d0 := .int .i64 n0) (d1 := .int .i64 n1) (d2 := .int .i64 n2) (d3 := .int .i64 n3) (d4 := .int .i64 n4) (d5 := .int .i64 n5) (d6 := .slice A4 ms.length cc4) (d7 := .slice A3 (l.length - (7 + m)) (cc0 - (7 + m))) NE0.out).trans BK6.out)
    have HB7 := Aside0.mk (below8 (d0 := .int .i64 n0) (d1 := .int .i64 n1) (d2 := .int .i64 n2) (d3 := .int .i64 n3) (d4 := .int .i64 n4) (d5 := .int .i64 n5) (d6 := .slice A4 ms.length cc4) (d7 := .slice A3 (l.length - (7 + m)) (cc0 - (7 + m))) HB6.out GM.out)
    have HM7 := Aside0.mk (Kd.R_step HM6.out (fun k hk _ => (far8 (d0 := .int .i64 n0) (d1 := .int .i64 n1) (d2 := .int .i64 n2) (d3 := .int .i64 n3) (d4 := .int .i64 n4) (d5 := .int .i64 n5) (d6 := .slice A4 ms.length cc4) (d7 := .slice A3 (l.length - (7 + m)) (cc0 - (7 + m))) hk.2)))
    have HV7 := Aside0.mk (Kd.R_step HV6.out (fun k hk _ => (far8 (d0 := .int .i64 n0) (d1 := .int .i64 n1) (d2 := .int .i64 n2) (d3 := .int .i64 n3) (d4 := .int .i64 n4) (d5 := .int .i64 n5) (d6 := .slice A4 ms.length cc4) (d7 := .slice A3 (l.length - (7 + m)) (cc0 - (7 + m))) hk.2)))
    generalize ((((((((w6.setCell ⟨gm, 0, none⟩ (.int .i64 n0)).setCell ⟨gm, 1, none⟩ (.int .i64 n1)).setCell ⟨gm, 2, none⟩ (.int .i64 n2)).setCell ⟨gm, 3, none⟩ (.int .i64 n3)).setCell ⟨gm, 4, none⟩ (.int .i64 n4)).setCell ⟨gm, 5, none⟩ (.int .i64 n5)).setCell ⟨gm, 6, none⟩ (.slice A4 ms.length cc4)).setCell ⟨gm, 7, none⟩ (.slice A3 (l.length - (7 + m)) (cc0 - (7 + m)))) = w7 at BG7 BK7 HB7 HM7 HV7 ⊢
  · have z0 : w7.cell? ⟨g0, 0, none⟩ = some (.int .i64 0) := (blk_cell BK7.out 0).trans rfl
    have f0 := blk_frozen BK7.out 0; have z1 : w7.cell? ⟨g0, 1, none⟩ = some (.int .i64 0) := (blk_cell BK7.out 1).trans rfl
    have f1 := blk_frozen BK7.out 1; have z2 : w7.cell? ⟨g0, 2, none⟩ = some (.int .i64 0) := (blk_cell BK7.out 2).trans rfl
    have f2 := blk_frozen BK7.out 2; have z3 : w7.cell? ⟨g0, 3, none⟩ = some (.int .i64 0) := (blk_cell BK7.out 3).trans rfl
    have f3 := blk_frozen BK7.out 3; have z4 : w7.cell? ⟨g0, 4, none⟩ = some (.int .i64 0) := (blk_cell BK7.out 4).trans rfl
    have f4 := blk_frozen BK7.out 4; have z5 : w7.cell? ⟨g0, 5, none⟩ = some (.int .i64 0) := (blk_cell BK7.out 5).trans rfl
    have f5 := blk_frozen BK7.out 5; have z6 : w7.cell? ⟨g0, 6, none⟩ = some (.slice none 0 0) := (blk_cell BK7.out 6).trans rfl
    have f6 := blk_frozen BK7.out 6; have z7 : w7.cell? ⟨g0, 7, none⟩ = some (.slice none 0 0) := (blk_cell BK7.out 7).trans rfl
    have f7 := blk_frozen BK7.out 7; go_wp2; refine bodyPost_ret (results_ct rfl _ _ g0 39 #[.int .i64 0, .int .i64 0, .int .i64 0, .int .i64 0, .int .i64 0, .int .i64 0, .slice none 0 0, .slice none 0 0] (0, 0) _ rfl (put8 BK7.out) hu39 rfl (by kernel_rfl)) rfl ?_
    exact ⟨fun h => by simp at h, fun _ => ⟨rfl, below8 HB7.out GE.out⟩⟩
  · have y0 : w7.cell? ⟨gm, 0, none⟩ = some (.int .i64 n0) := (blk_cell BG7.out 0).trans rfl
    have y1 : w7.cell? ⟨gm, 1, none⟩ = some (.int .i64 n1) := (blk_cell BG7.out 1).trans rfl
    have y2 : w7.cell? ⟨gm, 2, none⟩ = some (.int .i64 n2) := (blk_cell BG7.out 2).trans rfl
    have y3 : w7.cell? ⟨gm, 3, none⟩ = some (.int .i64 n3) := (blk_cell BG7.out 3).trans rfl
    have y4 : w7.cell? ⟨gm, 4, none⟩ = some (.int .i64 n4) := (blk_cell BG7.out 4).trans rfl
    have y5 : w7.cell? ⟨gm, 5, none⟩ = some (.int .i64 n5) := (blk_cell BG7.out 5).trans rfl
    have y6 : w7.cell? ⟨gm, 6, none⟩ = some (.slice A4 ms.length cc4) := (blk_cell BG7.out 6).trans rfl
    have y7 : w7.cell? ⟨gm, 7, none⟩ = some (.slice A3 (l.length - (7 + m)) (cc0 - (7 + m))) := (blk_cell BG7.out 7).trans rfl
    go_wp2_with (go_at_call 53; go_loud (refine (HRT.out w7 A4 cc4 A3 (cc0 - (7 + m)) (Kd.R_reads' HM7.out).2.2 (Kd.R_reads' HM7.out).2.1 (Kd.F_now (HF3.out w7 _ (Kd.R_F HV7.out))) (by have := (Kd.R_reads' HV7.out).2.1; rw [List.length_drop]; omega)).mono ?_; rintro e w8 ⟨rfl, hb8⟩; have BK8 := Aside0.mk (blk_below BK7.out hb8); have BG8 := Aside0.mk (blk_below BG7.out hb8); have HB8 := Aside0.mk (below_then HB7.out HB7.out.size hb8); have HM8 := Aside0.mk (Kd.R_below HM7.out hb8); have HV8 := Aside0.mk (Kd.R_below HV7.out hb8); clear hb8; clear y0 y1 y2 y3 y4 y5 y6 y7; have z0 : w8.cell? ⟨g0, 0, none⟩ = some (.int .i64 0) := (blk_cell BK8.out 0).trans rfl; have f0 := blk_frozen BK8.out 0; have z1 : w8.cell? ⟨g0, 1, none⟩ = some (.int .i64 0) := (blk_cell BK8.out 1).trans rfl; have f1 := blk_frozen BK8.out 1; have z2 : w8.cell? ⟨g0, 2, none⟩ = some (.int .i64 0) := (blk_cell BK8.out 2).trans rfl; have f2 := blk_frozen BK8.out 2; have z3 : w8.cell? ⟨g0, 3, none⟩ = some (.int .i64 0) := (blk_cell BK8.out 3).trans rfl; have f3 := blk_frozen BK8.out 3; have z4 : w8.cell? ⟨g0, 4, none⟩ = some (.int .i64 0) := (blk_cell BK8.out 4).trans rfl; have f4 := blk_frozen BK8.out 4; have z5 : w8.cell? ⟨g0, 5, none⟩ = some (.int .i64 0) := (blk_cell BK8.out 5).trans rfl; have f5 := blk_frozen BK8.out 5; have z6 : w8.cell? ⟨g0, 6, none⟩ = some (.slice none 0 0) := (blk_cell BK8.out 6).trans rfl; have f6 := blk_frozen BK8.out 6; have z7 : w8.cell? ⟨g0, 7, none⟩ = some (.slice none 0 0) := (blk_cell BK8.out 7).trans rfl; have f7 := blk_frozen BK8.out 7))
    refine bodyPost_ret (results_ct rfl _ _ g0 39 #[.int .i64 0, .int .i64 0, .int .i64 0, .int .i64 0, .int .i64 0, .int .i64 0, .slice none 0 0, .slice none 0 0] (0, 0) _ rfl (put8 BK8.out) hu39 rfl (by kernel_rfl)) rfl ?_
    exact ⟨fun h => by simp at h, fun _ => ⟨rfl, below8 HB8.out GE.out⟩⟩
  · have y0 : w7.cell? ⟨gm, 0, none⟩ = some (.int .i64 n0) := (blk_cell BG7.out 0).trans rfl
    have y1 : w7.cell? ⟨gm, 1, none⟩ = some (.int .i64 n1) := (blk_cell BG7.out 1).trans rfl
    have y2 : w7.cell? ⟨gm, 2, none⟩ = some (.int .i64 n2) := (blk_cell BG7.out 2).trans rfl
    have y3 : w7.cell? ⟨gm, 3, none⟩ = some (.int .i64 n3) := (blk_cell BG7.out 3).trans rfl
    have y4 : w7.cell? ⟨gm, 4, none⟩ = some (.int .i64 n4) := (blk_cell BG7.out 4).trans rfl
    have y5 : w7.cell? ⟨gm, 5, none⟩ = some (.int .i64 n5) := (blk_cell BG7.out 5).trans rfl
    have y6 : w7.cell? ⟨gm, 6, none⟩ = some (.slice A4 ms.length cc4) := (blk_cell BG7.out 6).trans rfl
    have y7 : w7.cell? ⟨gm, 7, none⟩ = some (.slice A3 (l.length - (7 + m)) (cc0 - (7 + m))) := (blk_cell BG7.out 7).trans rfl
    go_wp2_with (go_at_call 53; go_loud (refine (HRT.out w7 A4 cc4 A3 (cc0 - (7 + m)) (Kd.R_reads' HM7.out).2.2 (Kd.R_reads' HM7.out).2.1 (Kd.F_now (HF3.out w7 _ (Kd.R_F HV7.out))) (by have := (Kd.R_reads' HV7.out).2.1; rw [List.length_drop]; omega)).mono ?_; rintro e w8 ⟨rfl, hb8⟩; have BK8 := Aside0.mk (blk_below BK7.out hb8); have BG8 := Aside0.mk (blk_below BG7.out hb8); have HB8 := Aside0.mk (below_then HB7.out HB7.out.size hb8); have HM8 := Aside0.mk (Kd.R_below HM7.out hb8); have HV8 := Aside0.mk (Kd.R_below HV7.out hb8); clear hb8; clear y0 y1 y2 y3 y4 y5 y6 y7; have z0 : w8.cell? ⟨g0, 0, none⟩ = some (.int .i64 0) := (blk_cell BK8.out 0).trans rfl; have f0 := blk_frozen BK8.out 0; have z1 : w8.cell? ⟨g0, 1, none⟩ = some (.int .i64 0) := (blk_cell BK8.out 1).trans rfl; have f1 := blk_frozen BK8.out 1; have z2 : w8.cell? ⟨g0, 2, none⟩ = some (.int .i64 0) := (blk_cell BK8.out 2).trans rfl; have f2 := blk_frozen BK8.out 2; have z3 : w8.cell? ⟨g0, 3, none⟩ = some (.int .i64 0) := (blk_cell BK8.out 3).trans rfl; have f3 := blk_frozen BK8.out 3; have z4 : w8.cell? ⟨g0, 4, none⟩ = some (.int .i64 0) := (blk_cell BK8.out 4).trans rfl; have f4 := blk_frozen BK8.out 4; have z5 : w8.cell? ⟨g0, 5, none⟩ = some (.int .i64 0) := (blk_cell BK8.out 5).trans rfl; have f5 := blk_frozen BK8.out 5; have z6 : w8.cell? ⟨g0, 6, none⟩ = some (.slice none 0 0) := (blk_cell BK8.out 6).trans rfl; have f6 := blk_frozen BK8.out 6; have z7 : w8.cell? ⟨g0, 7, none⟩ = some (.slice none 0 0) := (blk_cell BK8.out 7).trans rfl; have f7 := blk_frozen BK8.out 7; have y0 : w8.cell? ⟨gm, 0, none⟩ = some (.int .i64 n0) := (blk_cell BG8.out 0).trans rfl; have y1 : w8.cell? ⟨gm, 1, none⟩ = some (.int .i64 n1) := (blk_cell BG8.out 1).trans rfl; have y2 : w8.cell? ⟨gm, 2, none⟩ = some (.int .i64 n2) := (blk_cell BG8.out 2).trans rfl; have y3 : w8.cell? ⟨gm, 3, none⟩ = some (.int .i64 n3) := (blk_cell BG8.out 3).trans rfl; have y4 : w8.cell? ⟨gm, 4, none⟩ = some (.int .i64 n4) := (blk_cell BG8.out 4).trans rfl; have y5 : w8.cell? ⟨gm, 5, none⟩ = some (.int .i64 n5) := (blk_cell BG8.out 5).trans rfl; have y6 : w8.cell? ⟨gm, 6, none⟩ = some (.slice A4 ms.length cc4) := (blk_cell BG8.out 6).trans rfl; have y7 : w8.cell? ⟨gm, 7, none⟩ = some (.slice A3 (l.length - (7 + m)) (cc0 - (7 + m))) := (blk_cell BG8.out 7).trans rfl))
    have S1 := Aside0.mk (blk_lt BK.out)
    have S3 := Aside0.mk (blk_lt BK3.out)
    have L1 := Aside0.mk HB1.out.size
    have L3 := Aside0.mk HB3.out.size
    refine bodyPost_ret (results_ct rfl _ _ g0 39 #[.int .i64 n0, .int .i64 n1, .int .i64 n2, .int .i64 n3, .int .i64 n4, .int .i64 n5, .slice A4 ms.length cc4, .slice A3 (l.length - (7 + m)) (cc0 - (7 + m))] (0, 0) _ rfl (put8 BK8.out) hu39 rfl (by kernel_rfl)) rfl ?_
    refine ⟨fun _ => ?_, fun h => (h (by simp)).elim⟩
    refine ⟨_, _, rfl, ?_, ?_, below8 HB8.out GE.out⟩
    · exact Kd.V_lower (Kd.R_V (Kd.R_mono (Kd.R_step (Kd.R_mono (Kd.R_bound HM8.out) (ok' := fun k => w3.heap.size ≤ k) (fun k hk => hk.2.1)) (fun k hk _ => far8 (by have := S3.out; omega))) (fun k hk => by have := L3.out; omega))) L3.out
    · have hr := Kd.R_mono (Kd.R_step (Kd.R_mono (Kd.R_bound HV8.out) (ok' := fun k => w1.heap.size ≤ k) (fun k hk => hk.2.1)) (fun k hk _ => far8 (d0 := .int .i64 n0) (d1 := .int .i64 n1) (d2 := .int .i64 n2) (d3 := .int .i64 n3) (d4 := .int .i64 n4) (d5 := .int .i64 n5) (d6 := .slice A4 ms.length cc4) (d7 := .slice A3 (l.length - (7 + m)) (cc0 - (7 + m))) (g := g0) (by have := S1.out; omega))) (ok' := fun k => w.heap.size ≤ k) (fun k hk => by have := L1.out; omega)
      exact ⟨A3, cc0 - (7 + m), by rw [List.length_drop], by have := (Kd.R_reads' HV8.out).2.1; rw [List.length_drop]; omega, HF3.out _ _ (Kd.R_F hr)⟩
theorem row_small : ∀ (k : Nat) (t : ByteArray), (rowN k t).1.length ≤ k ∧ ∀ x ∈ (rowN k t).1, x.size ≤ t.size
  | 0, t => by rw [rowN]; split <;> exact ⟨Nat.le_refl _, by simp⟩
  | k + 1, t => by
    rw [rowN]
    split
    · exact ⟨by simp, by simp⟩
    · split
      · rename_i h2
        obtain ⟨ih1, ih2⟩ := row_small k (rdOf ByteArray.empty (kidsF t) 1)
        have hr : rightB t = true := by
          unfold kindF at h2
          split at h2
          · rename_i q; exact q
          · exact absurd h2 (by decide)
        have hq := list_Take.pair h2
        have hk : kidsF t = [rdOf ByteArray.empty (kidsF t) 0, rdOf ByteArray.empty (kidsF t) 1] := by
          have := hq.1
          unfold kidsP at this
          rw [if_pos hr] at this
          exact this
        have hm : rdOf ByteArray.empty (kidsF t) 0 ∈ kidsF t := by
          obtain ⟨x, hx⟩ : ∃ x, x = rdOf ByteArray.empty (kidsF t) 0 := ⟨_, rfl⟩
          obtain ⟨y, hy⟩ : ∃ y, y = rdOf ByteArray.empty (kidsF t) 1 := ⟨_, rfl⟩
          rw [← hx, ← hy] at hk
          rw [← hx, hk]
          simp
        split
        · refine ⟨by simp; exact ih1, fun x hx => ?_⟩
          rcases List.mem_cons.mp hx with rfl | hx
          · exact Nat.le_of_lt (Go.Proofs.Ytpfpmjdifnoeoaa.Pure.kids_right hr _ hm).2.1
          · exact Nat.le_trans (ih2 x hx) (Nat.le_of_lt hq.2)
        · exact ⟨by simp, by simp⟩
      · exact ⟨by simp, by simp⟩
theorem numK_len : ∀ (l : List ByteArray), (numK l).2 = true → (numK l).1.length = l.length ∧ ∀ x ∈ (numK l).1, (0 : Int) ≤ x
  | [], _ => ⟨rfl, by simp [numK]⟩
  | t :: l, h => by
    rw [numK] at h ⊢
    split at h
    case isFalse => exact absurd h (by decide)
    rename_i c
    rw [if_pos c]
    split at h
    case isFalse => exact absurd h (by decide)
    rename_i d
    rw [if_pos d]
    obtain ⟨h2, h3⟩ := numK_len l d
    refine ⟨by simp [h2], fun x hx => ?_⟩
    rcases List.mem_cons.mp hx with rfl | hx
    · exact valF_pos t
    · exact h3 x hx
theorem numK_no : ∀ (l : List ByteArray), ¬ (numK l).2 = true → numK l = ([], false)
  | [], h => absurd rfl h
  | t :: l, h => by
    rw [numK] at h ⊢
    split
    · split
      · rename_i c d; rw [if_pos c, if_pos d] at h; exact absurd rfl h
      · rfl
    · rfl
theorem of_seven : ∀ (ns : List Int), ns.length = 7 → ∃ n0 n1 n2 n3 n4 n5 n6, ns = [n0, n1, n2, n3, n4, n5, n6]
  | [a, b, c, d, e, f, g], _ => ⟨a, b, c, d, e, f, g, rfl⟩
theorem list_Unpack.calls (a0 : ByteArray) (r1 : Int) (r2 : Int) (r3 : Int) (r4 : Int) (r5 : Int) (r6 : Int) (r7 : List Int) (r8 : List ByteArray) (r9 : Int) (w : World) (h : list_Unpack.f a0 = some (r1, r2, r3, r4, r5, r6, r7, r8, r9)) :
    Calls Try.prog 51 #[.string a0] w fun e w' => ∃ v6_ v7_ : Value, e = .returned (.tuple #[.agg #[.int .i64 r1, .int .i64 r2, .int .i64 r3, .int .i64 r4, .int .i64 r5, .int .i64 r6, v6_, v7_], .int .i64 r9]) ∧ Kd.V (Kd.int .i64) 3 w' w.heap.size (fun k_ => w.heap.size ≤ k_) v6_ r7 ∧ Kd.V Kd.string 23 w' w.heap.size (fun k_ => w.heap.size ≤ k_) v7_ r8 ∧ Below w.heap.size w w' := by
  unfold list_Unpack.f at h
  split at h
  case isFalse => cases h
  rename_i hs
  have hbad : ∀ {e w'}, list_Unpack.Bad w e w' → unpackM a0 = (zeroM, 2) → ∃ v6_ v7_ : Value, e = .returned (.tuple #[.agg #[.int .i64 r1, .int .i64 r2, .int .i64 r3, .int .i64 r4, .int .i64 r5, .int .i64 r6, v6_, v7_], .int .i64 r9]) ∧ Kd.V (Kd.int .i64) 3 w' w.heap.size (fun k_ => w.heap.size ≤ k_) v6_ r7 ∧ Kd.V Kd.string 23 w' w.heap.size (fun k_ => w.heap.size ≤ k_) v7_ r8 ∧ Below w.heap.size w w' := by
    intro e w' hb hz; rw [hz] at h
    simp only [zeroM, Option.some.injEq, Prod.mk.injEq] at h; obtain ⟨rfl, rfl, rfl, rfl, rfl, rfl, rfl, rfl, rfl⟩ := h; exact ⟨_, _, hb.1, Kd.V_nil _ _ _ _ _, Kd.V_nil _ _ _ _ _, hb.2⟩
  obtain ⟨hl, hlx'⟩ := row_small 150 a0
  have hlx : ∀ x ∈ (rowN 150 a0).1, x.size < 9223372036854775808 := fun x hx => Nat.lt_of_le_of_lt (hlx' x hx) hs
  obtain ⟨l, err, hT⟩ : ∃ l err, rowN 150 a0 = (l, err) := ⟨_, _, rfl⟩
  have hu : unpackM a0 = if err = 0 ∧ 7 ≤ l.length then
    (if (numK (l.take 7)).2 = true ∧ rd (numK (l.take 7)).1 6 ≤ mn ((l.length : Int) - 7) 8 then
      (if (numK ((l.drop 7).take (rd (numK (l.take 7)).1 6).toNat)).2 = true ∧ rightM (msgOf l) = true then (msgOf l, 0) else (zeroM, 2)) else (zeroM, 2)) else (zeroM, 2) := by
    unfold unpackM
    rw [hT]
  rw [hT] at hl hlx
  replace hl : l.length ≤ 150 := hl
  replace hlx : ∀ x ∈ l, x.size < 9223372036854775808 := hlx
  by_cases c0 : err = 0
  case neg => exact (list_Unpack.b2 a0 w hs l err hT c0).mono (fun e w' hb => hbad hb (by rw [hu, if_neg (fun q => c0 q.1)]))
  subst c0; by_cases c1 : 7 ≤ l.length
  case neg => exact (list_Unpack.b1 a0 w hs l hT (by omega)).mono (fun e w' hb => hbad hb (by rw [hu, if_neg (fun q => c1 q.2)]))
  rw [if_pos ⟨rfl, c1⟩] at hu
  by_cases c2 : (numK (l.take 7)).2 = true
  case neg => exact (list_Unpack.b3 a0 w hs l hT c1 hl hlx (numK_no _ c2)).mono (fun e w' hb => hbad hb (by rw [hu, if_neg (fun q => c2 q.1)]))
  obtain ⟨hn7, hn0⟩ := numK_len _ c2
  obtain ⟨ns, hN⟩ : ∃ ns, numK (l.take 7) = (ns, true) := ⟨(numK (l.take 7)).1, Prod.ext rfl c2⟩
  have hmsg : msgOf l = ⟨rd ns 0, rd ns 1, rd ns 2, rd ns 3, rd ns 4, rd ns 5, (numK ((l.drop 7).take (rd ns 6).toNat)).1, l.drop (7 + (rd ns 6).toNat)⟩ := by unfold msgOf; rw [hN]
  rw [hN] at hu hn7 hn0
  obtain ⟨n0, n1, n2, n3, n4, n5, n6, hns⟩ := of_seven ns (by rw [show ns.length = (l.take 7).length from hn7, List.length_take]; omega)
  have hpos : 0 ≤ n6 := hn0 n6 (by rw [hns]; simp)
  have hrd : rd ns 6 = n6 := by rw [hns]; rfl
  replace hmsg : msgOf l = ⟨n0, n1, n2, n3, n4, n5, (numK ((l.drop 7).take n6.toNat)).1, l.drop (7 + n6.toNat)⟩ := by rw [hmsg, hrd, hns]; rfl
  replace hu : unpackM a0 = if n6 ≤ mn ((l.length : Int) - 7) 8 then (if (numK ((l.drop 7).take n6.toNat)).2 = true ∧ rightM (msgOf l) = true then (msgOf l, 0) else (zeroM, 2)) else (zeroM, 2) := by
    rw [hu]
    show (if true = true ∧ rd ns 6 ≤ mn ((l.length : Int) - 7) 8 then (if (numK ((l.drop 7).take (rd ns 6).toNat)).2 = true ∧ rightM (msgOf l) = true then (msgOf l, 0) else (zeroM, 2)) else (zeroM, 2)) = _
    rw [hrd]
    simp only [true_and]
  have hmn : mn ((l.length : Int) - 7) 8 = if 8 < (l.length : Int) - 7 then (8 : Int) else (l.length : Int) - 7 := rfl
  obtain ⟨M, hM⟩ : ∃ M, (if 8 < (l.length : Int) - 7 then (8 : Int) else (l.length : Int) - 7) = M := ⟨_, rfl⟩
  rw [hmn, hM] at hu
  by_cases c3 : n6 ≤ M
  case neg => exact (list_Unpack.b4 a0 w hs l hT c1 hl hlx ns n0 n1 n2 n3 n4 n5 n6 hN hns M hM (by omega)).mono (fun e w' hb => hbad hb (by rw [hu, if_neg c3]))
  rw [if_pos c3] at hu
  have hMl : M ≤ (l.length : Int) - 7 := by rw [← hM]; split <;> omega
  have hmn6 : n6 = ((n6.toNat : Nat) : Int) := by omega
  by_cases c4 : (numK ((l.drop 7).take n6.toNat)).2 = true
  case neg => exact (list_Unpack.main a0 w hs l hT c1 hl hlx ns n0 n1 n2 n3 n4 n5 n6 hN hns hpos (by omega) M hM (by omega) n6.toNat hmn6 [] false (numK_no _ c4) (by decide) _ rfl (.inl rfl)).mono (fun e w' hb => hbad (hb.2 (fun q => absurd q.1 (by decide))) (by rw [hu, if_neg (fun q => c4 q.1)]))
  have hml := (numK_len _ c4).1
  obtain ⟨ms, hN2⟩ : ∃ ms, numK ((l.drop 7).take n6.toNat) = (ms, true) := ⟨(numK ((l.drop 7).take n6.toNat)).1, Prod.ext rfl c4⟩
  rw [hN2] at hmsg hml
  replace hmsg : msgOf l = ⟨n0, n1, n2, n3, n4, n5, ms, l.drop (7 + n6.toNat)⟩ := hmsg
  have hmsl : ms.length < 1099511627776 := by
    rw [show ms.length = ((l.drop 7).take n6.toNat).length from hml, List.length_take, List.length_drop]
    exact Nat.lt_of_le_of_lt (Nat.min_le_right _ _) (Nat.lt_of_le_of_lt (Nat.sub_le _ _) (Nat.lt_of_le_of_lt hl (by decide)))
  by_cases c5 : rightM ⟨n0, n1, n2, n3, n4, n5, ms, l.drop (7 + n6.toNat)⟩ = true
  case neg => exact (list_Unpack.main a0 w hs l hT c1 hl hlx ns n0 n1 n2 n3 n4 n5 n6 hN hns hpos (by omega) M hM (by omega) n6.toNat hmn6 ms true hN2 hmsl false (by simpa using c5) (.inr (.inl ⟨rfl, rfl⟩))).mono (fun e w' hb => hbad (hb.2 (fun q => absurd q.2 (by decide))) (by rw [hu, if_neg (fun q => c5 (hmsg ▸ q.2))]))
  refine (list_Unpack.main a0 w hs l hT c1 hl hlx ns n0 n1 n2 n3 n4 n5 n6 hN hns hpos (by omega) M hM (by omega) n6.toNat hmn6 ms true hN2 hmsl true c5 (.inr (.inr ⟨rfl, rfl⟩))).mono (fun e w' hb => ?_)
  replace hb := hb.1 ⟨rfl, rfl⟩
  rw [hu, if_pos ⟨c4, hmsg ▸ c5⟩, hmsg] at h
  simp only [Option.some.injEq, Prod.mk.injEq] at h; obtain ⟨rfl, rfl, rfl, rfl, rfl, rfl, rfl, rfl, rfl⟩ := h; exact hb
end Go.Proofs.Ytpfpmjdifnoeoaa.F
