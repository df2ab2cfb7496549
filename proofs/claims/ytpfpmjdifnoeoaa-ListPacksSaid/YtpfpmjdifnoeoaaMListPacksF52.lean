import Derived.Test.YtpfpmjdifnoeoaaMListPacksWX
import Derived.Test.YtpfpmjdifnoeoaaMListPacksF0
import Derived.Test.YtpfpmjdifnoeoaaMListPacksF115
import Derived.Test.YtpfpmjdifnoeoaaMListPacksF43
import Derived.Test.YtpfpmjdifnoeoaaMListPacksF48
import Derived.Test.YtpfpmjdifnoeoaaMListPacksF49
import Derived.Test.YtpfpmjdifnoeoaaMListPacksF50
import Derived.Test.YtpfpmjdifnoeoaaMListPacksF51
import Derived.Test.YtpfpmjdifnoeoaaMListPacksF53
import Derived.Test.YtpfpmjdifnoeoaaMListPacksB3
import Derived.Test.YtpfpmjdifnoeoaaMListPacksB5
import Derived.RegionTactic
import Derived.BigRegion
import Derived.Test.YtpfpmjdifnoeoaaMListPacksLMsg
namespace Go.Proofs.Ytpfpmjdifnoeoaa.F
open Go.RowKit Go.Proofs.YtpfpmjdifnoeoaaW.PrintWords Go.Proofs.YtpfpmjdifnoeoaaW.PrintLast Go.Proofs.YtpfpmjdifnoeoaaW.PrintMore
attribute [local go_sem] max2_int min2_int max_two min_two max_three min_three max_four min_four
set_option linter.unusedVariables false
set_option linter.unusedSimpArgs false
open Go.Proofs.Ytpfpmjdifnoeoaa.Pure
def low32 (t : ByteArray) : Int := (valF t).1 % 4294967296
def lowN (l : List ByteArray) : List Int := (l.take 15).map low32
def msgU (l : List ByteArray) : Msg := ⟨rd (lowN l) 0, rd (lowN l) 1, rd (lowN l) 2, rd (lowN l) 3, rd (lowN l) 4, rd (lowN l) 5, ((lowN l).drop 7).take (rd (lowN l) 6).toNat, l.drop (7 + (rd (lowN l) 6).toNat)⟩
def unpackU (t : ByteArray) : Msg × Int :=
  if (rowN 150 t).2 = 0 ∧ 7 ≤ (rowN 150 t).1.length then
    (if rd (lowN (rowN 150 t).1) 6 ≤ 8 ∧ 7 + rd (lowN (rowN 150 t).1) 6 ≤ ((rowN 150 t).1.length : Int) then
      (if packM (msgU (rowN 150 t).1) = (t, 0) then (msgU (rowN 150 t).1, 0) else (zeroM, 2)) else (zeroM, 2)) else (zeroM, 2)
def gemotref4_Unpack.f (t : ByteArray) : Option (Int × Int × Int × Int × Int × Int × List Int × List ByteArray × Int) := if t.size < 9223372036854775808 then some ((unpackM t).1.kind, (unpackM t).1.ie, (unpackM t).1.ic, (unpackM t).1.oe, (unpackM t).1.oc, (unpackM t).1.num, (unpackM t).1.ms, (unpackM t).1.ts, (unpackM t).2) else none
theorem lowN_len (l : List ByteArray) : (lowN l).length = min 15 l.length := by unfold lowN; rw [List.length_map, List.length_take]
theorem lowN_step (l : List ByteArray) (i : Nat) (h : i < l.length) (h15 : i < 15) : (lowN l).take (i + 1) = (lowN l).take i ++ [low32 (rdOf ByteArray.empty l i)] := by
  have hi : i < ((l.take 15).map low32).length := by have := lowN_len l; unfold lowN at this; omega
  unfold lowN
  rw [← List.take_append_getElem hi, List.getElem_map, List.getElem_take]
  simp [rdOf, List.getD_eq_getElem?_getD, h]
theorem lowN_at (l : List ByteArray) (k : Nat) (h : k < l.length) (h15 : k < 15) : (lowN l).getD k 0 = low32 (rdOf ByteArray.empty l k) := by
  unfold lowN
  rw [List.getD_eq_getElem?_getD, List.getElem?_map, List.getElem?_take_of_lt h15]
  simp [rdOf, List.getD_eq_getElem?_getD, h]
theorem low32_range (t : ByteArray) : 0 ≤ low32 t ∧ low32 t < 4294967296 := by unfold low32; omega
def gemotref4_Unpack.Post (w : World) (t : ByteArray) (l : List ByteArray) (e : Ending) (w' : World) : Prop :=
  (rd (lowN l) 6 ≤ 8 ∧ 7 + rd (lowN l) 6 ≤ (l.length : Int) → packM (msgU l) = (t, 0) → list_Unpack.Good w (msgU l) e w') ∧ (¬ (rd (lowN l) 6 ≤ 8 ∧ 7 + rd (lowN l) 6 ≤ (l.length : Int)) → list_Unpack.Bad w e w') ∧ (¬ packM (msgU l) = (t, 0) → list_Unpack.Bad w e w')
theorem gemotref4_Unpack.text {a b : ByteArray} (h : a.toList = b.toList) : a = b := by
  rw [ByteArray.toList_eq, ByteArray.toList_eq] at h
  exact ByteArray.ext (Array.ext' h)
theorem gemotref4_Unpack.pack (n0 n1 n2 n3 n4 n5 : Int) (A6 : Option Addr) (c6 : Nat) (ms : List Int) (A7 : Option Addr) (c7 : Nat) (ts : List ByteArray) (u : ByteArray) (f : Int) (ml tl : Nat) (W : World) (hml : ms.length = ml) (htl : ts.length = tl) (h6 : Kd.C (Kd.int .i64) W A6 ms.length ms) (hc6 : ms.length ≤ c6) (h7 : Kd.C Kd.string W A7 ts.length ts) (hc7 : ts.length ≤ c7) (hm : ms.length ≤ 50000) (ht : ts.length ≤ 40000) (hx : ∀ x ∈ ts, x.size < 9223372036854775808) (hP : packM ⟨n0, n1, n2, n3, n4, n5, ms, ts⟩ = (u, f)) :
    Calls Try.prog 50 #[.agg #[.int .i64 n0, .int .i64 n1, .int .i64 n2, .int .i64 n3, .int .i64 n4, .int .i64 n5, .slice A6 ml c6, .slice A7 tl c7]] W fun e w' => e = .returned (.tuple #[.string u, .int .i64 f]) ∧ Below W.heap.size W w' := by
  subst hml htl
  exact gemotref4_Pack.calls n0 n1 n2 n3 n4 n5 A6 c6 ms A7 c7 ts u f W h6 hc6 h7 hc7 (by unfold gemotref4_Pack.f; rw [if_pos ⟨⟨hm, ht⟩, hx⟩, hP])
def gemotref4_Unpack.T13 : Bool × List (List Nat × List Nat) := (true, [([], []), ([0], [0]), ([1], [1]), ([], []), ([3], [3]), ([4], [4]), ([], []), ([6], [6]), ([7], [7]), ([5, 8], [5, 8]), ([], []), ([10], [10]), ([11], [11]), ([], []), ([13], [13]), ([14], [14]), ([12, 15], [12, 15]), ([], []), ([17], [17]), ([18], [18]), ([2, 9, 16, 19], [2, 9, 16, 19]), ([], []), ([21, 20, 0, 1, 2, 3, 4, 5, 6, 7, 8, 9, 10, 11, 12, 13, 14, 15, 16, 17, 18, 19, 20, 21], [20, 21])])
def gemotref4_Unpack.B13 : List Nat := [0, 1, 3, 0, 8, 24, 0, 64, 192, 504, 0, 1024, 3072, 0, 8192, 24576, 64512, 0, 131072, 393216, 1048575, 0, 4194303]
theorem gemotref4_Unpack.tab13 : rtab .any (opsOf Try.f52 13) = gemotref4_Unpack.T13 := by kernel_rfl
theorem gemotref4_Unpack.bits13 : waitsOk gemotref4_Unpack.T13.2 gemotref4_Unpack.B13 = true := by kernel_rfl
set_option maxHeartbeats 1000000 in
set_option maxRecDepth 100000 in
theorem gemotref4_Unpack.b1 (t : ByteArray) (w : World) (hs : t.size < 9223372036854775808) (l : List ByteArray) (hT : rowN 150 t = (l, 0)) (h : l.length < 7) :
    Calls Try.prog 52 #[.string t] w (list_Unpack.Bad w) := by
  have HT := Aside0.mk (fun W => gemotref4_Take.calls t l 0 W (by unfold gemotref4_Take.f; rw [if_pos hs, hT]))
  have hu45 := Try.underlying45; have HB := Aside0.mk (Below.refl w.heap.size w)
  have e3 : (l.length : Int) < 7 := by omega
  clear hT hs; go_enter Try.func52, Try.ntmps52
  go_wp2_with (first
    | ((with_reducible refine gate_dst (N := 2) rfl ?_); refine box_event ?hg (N := 2) ?hd (cs := #[.int .i64 0, .int .i64 0, .int .i64 0, .int .i64 0, .int .i64 0, .int .i64 0, .slice none 0 0, .slice none 0 0]) (t := 45) ?hr ?_; (case hd => rfl); (case hg => rfl); (case hr => first | (go_simp; done) | (go_simp; rfl)); intro g0 hg w1 hbox hb; have BK := Aside0.mk hbox; have HB1 := Aside0.mk (below_step HB.out hb); have GE := Aside0.mk (show w.heap.size ≤ g0 by rw [hg]; exact Nat.le_refl _); clear hb hbox hg)
    | (go_at_call 49; go_loud (refine (HT.out _).mono ?_; rintro e w2 ⟨v, rfl, hv, hb2⟩; obtain ⟨A0, cc0, rfl⟩ := Kd.R_slice hv; have BK2 := Aside0.mk (blk_below BK.out hb2); have HB2 := Aside0.mk (below_then HB1.out HB1.out.size hb2); have HV := Aside0.mk hv; clear hb2 hv; have z0 : w2.cell? ⟨g0, 0, none⟩ = some (.int .i64 0) := (blk_cell BK2.out 0).trans rfl; have f0 := blk_frozen BK2.out 0; have z1 : w2.cell? ⟨g0, 1, none⟩ = some (.int .i64 0) := (blk_cell BK2.out 1).trans rfl; have f1 := blk_frozen BK2.out 1; have z2 : w2.cell? ⟨g0, 2, none⟩ = some (.int .i64 0) := (blk_cell BK2.out 2).trans rfl; have f2 := blk_frozen BK2.out 2; have z3 : w2.cell? ⟨g0, 3, none⟩ = some (.int .i64 0) := (blk_cell BK2.out 3).trans rfl; have f3 := blk_frozen BK2.out 3; have z4 : w2.cell? ⟨g0, 4, none⟩ = some (.int .i64 0) := (blk_cell BK2.out 4).trans rfl; have f4 := blk_frozen BK2.out 4; have z5 : w2.cell? ⟨g0, 5, none⟩ = some (.int .i64 0) := (blk_cell BK2.out 5).trans rfl; have f5 := blk_frozen BK2.out 5; have z6 : w2.cell? ⟨g0, 6, none⟩ = some (.slice none 0 0) := (blk_cell BK2.out 6).trans rfl; have f6 := blk_frozen BK2.out 6; have z7 : w2.cell? ⟨g0, 7, none⟩ = some (.slice none 0 0) := (blk_cell BK2.out 7).trans rfl; have f7 := blk_frozen BK2.out 7)))
  refine bodyPost_ret (results_ct rfl _ _ g0 45 #[.int .i64 0, .int .i64 0, .int .i64 0, .int .i64 0, .int .i64 0, .int .i64 0, .slice none 0 0, .slice none 0 0] (0, 0) _ rfl (put8 BK2.out) hu45 rfl (by kernel_rfl)) rfl ?_
  exact ⟨rfl, below8 HB2.out GE.out⟩
set_option maxHeartbeats 1000000 in
set_option maxRecDepth 100000 in
theorem gemotref4_Unpack.b2 (t : ByteArray) (w : World) (hs : t.size < 9223372036854775808) (l : List ByteArray) (err : Int) (hT : rowN 150 t = (l, err)) (h : ¬ err = 0) :
    Calls Try.prog 52 #[.string t] w (list_Unpack.Bad w) := by
  have HT := Aside0.mk (fun W => gemotref4_Take.calls t l err W (by unfold gemotref4_Take.f; rw [if_pos hs, hT]))
  have hu45 := Try.underlying45; have HB := Aside0.mk (Below.refl w.heap.size w)
  have e1 : (err != 0) = true := bne_iff_ne.mpr h
  have e2 : (err == 0) = false := beq_eq_false_iff_ne.mpr h
  clear hT hs h; go_enter Try.func52, Try.ntmps52
  go_wp2_with (first
    | ((with_reducible refine gate_dst (N := 2) rfl ?_); refine box_event ?hg (N := 2) ?hd (cs := #[.int .i64 0, .int .i64 0, .int .i64 0, .int .i64 0, .int .i64 0, .int .i64 0, .slice none 0 0, .slice none 0 0]) (t := 45) ?hr ?_; (case hd => rfl); (case hg => rfl); (case hr => first | (go_simp; done) | (go_simp; rfl)); intro g0 hg w1 hbox hb; have BK := Aside0.mk hbox; have HB1 := Aside0.mk (below_step HB.out hb); have GE := Aside0.mk (show w.heap.size ≤ g0 by rw [hg]; exact Nat.le_refl _); clear hb hbox hg)
    | (go_at_call 49; go_loud (refine (HT.out _).mono ?_; rintro e w2 ⟨v, rfl, hv, hb2⟩; obtain ⟨A0, cc0, rfl⟩ := Kd.R_slice hv; have BK2 := Aside0.mk (blk_below BK.out hb2); have HB2 := Aside0.mk (below_then HB1.out HB1.out.size hb2); have HV := Aside0.mk hv; clear hb2 hv; have z0 : w2.cell? ⟨g0, 0, none⟩ = some (.int .i64 0) := (blk_cell BK2.out 0).trans rfl; have f0 := blk_frozen BK2.out 0; have z1 : w2.cell? ⟨g0, 1, none⟩ = some (.int .i64 0) := (blk_cell BK2.out 1).trans rfl; have f1 := blk_frozen BK2.out 1; have z2 : w2.cell? ⟨g0, 2, none⟩ = some (.int .i64 0) := (blk_cell BK2.out 2).trans rfl; have f2 := blk_frozen BK2.out 2; have z3 : w2.cell? ⟨g0, 3, none⟩ = some (.int .i64 0) := (blk_cell BK2.out 3).trans rfl; have f3 := blk_frozen BK2.out 3; have z4 : w2.cell? ⟨g0, 4, none⟩ = some (.int .i64 0) := (blk_cell BK2.out 4).trans rfl; have f4 := blk_frozen BK2.out 4; have z5 : w2.cell? ⟨g0, 5, none⟩ = some (.int .i64 0) := (blk_cell BK2.out 5).trans rfl; have f5 := blk_frozen BK2.out 5; have z6 : w2.cell? ⟨g0, 6, none⟩ = some (.slice none 0 0) := (blk_cell BK2.out 6).trans rfl; have f6 := blk_frozen BK2.out 6; have z7 : w2.cell? ⟨g0, 7, none⟩ = some (.slice none 0 0) := (blk_cell BK2.out 7).trans rfl; have f7 := blk_frozen BK2.out 7)))
  refine bodyPost_ret (results_ct rfl _ _ g0 45 #[.int .i64 0, .int .i64 0, .int .i64 0, .int .i64 0, .int .i64 0, .int .i64 0, .slice none 0 0, .slice none 0 0] (0, 0) _ rfl (put8 BK2.out) hu45 rfl (by kernel_rfl)) rfl ?_
  exact ⟨rfl, below8 HB2.out GE.out⟩
set_option maxHeartbeats 1000000 in
set_option maxRecDepth 100000 in
theorem gemotref4_Unpack.main (t : ByteArray) (w : World) (hs : t.size < 9223372036854775808) (l : List ByteArray) (hT : rowN 150 t = (l, 0)) (h7 : 7 ≤ l.length) (hl : l.length ≤ 150) (hlx : ∀ x ∈ l, x.size < 9223372036854775808) :
    Calls Try.prog 52 #[.string t] w (gemotref4_Unpack.Post w t l) := by
  have HT := Aside0.mk (fun W => gemotref4_Take.calls t l 0 W (by unfold gemotref4_Take.f; rw [if_pos hs, hT]))
  have hu45 := Try.underlying45; have HB := Aside0.mk (Below.refl w.heap.size w)
  have e3 : ¬ (l.length : Int) < 7 := by omega
  obtain ⟨ns, hns⟩ : ∃ ns, ns = lowN l := ⟨_, rfl⟩
  obtain ⟨N, hN⟩ : ∃ N, N = min 15 l.length := ⟨_, rfl⟩
  have NS := Aside0.mk hns
  have LN : Aside0 (ns.length = N) := ⟨by rw [hns, hN, lowN_len]⟩
  have NN := Aside0.mk hN
  have HLX := Aside0.mk hlx
  have H7 := Aside0.mk h7
  have HL := Aside0.mk hl
  clear hT hs hns hN hlx; go_enter Try.func52, Try.ntmps52
  go_wp2_with (first
    | ((with_reducible refine gate_dst (N := 2) rfl ?_); refine box_event ?hg (N := 2) ?hd (cs := #[.int .i64 0, .int .i64 0, .int .i64 0, .int .i64 0, .int .i64 0, .int .i64 0, .slice none 0 0, .slice none 0 0]) (t := 45) ?hr ?_; (case hd => rfl); (case hg => rfl); (case hr => first | (go_simp; done) | (go_simp; rfl)); intro g0 hg w1 hbox hb; have BK := Aside0.mk hbox; have HB1 := Aside0.mk (below_step HB.out hb); have GE := Aside0.mk (show w.heap.size ≤ g0 by rw [hg]; exact Nat.le_refl _); clear hb hbox hg)
    | (go_at_call 49; go_loud (refine (HT.out _).mono ?_; rintro e w2 ⟨v, rfl, hv, hb2⟩; obtain ⟨A0, cc0, rfl⟩ := Kd.R_slice hv; have BK2 := Aside0.mk (blk_below BK.out hb2); have HB2 := Aside0.mk (below_then HB1.out HB1.out.size hb2); have HV := Aside0.mk hv; clear hb2 hv)))
  go_loopg [6, 7] (N + 1) (fun kq v6 v7 w' => ∃ (x : Int) (i : Nat), v7 = .int .i64 x ∧ Aside0 (x = (i : Int) ∧ i ≤ N ∧ i + kq = N + 1) ∧ Aside0 (Kd.R Kd.string 9 w' w1.heap.size (fun _ => True) (.slice A0 l.length cc0) l) ∧ Aside0 (Kd.R (Kd.int .i64) 3 w' w.heap.size (fun _ => True) v6 (ns.take i)) ∧ Aside0 (w'.heap[g0]? = some (.cells #[.int .i64 0, .int .i64 0, .int .i64 0, .int .i64 0, .int .i64 0, .int .i64 0, .slice none 0 0, .slice none 0 0] 45 (0, 0))) ∧ Aside0 (Below w.heap.size w w'))
  case atStart => exact ⟨0, 0, rfl, ⟨rfl, Nat.zero_le _, by omega⟩, ⟨by (with_reducible repeat (first | apply Kd.R_alloc | apply Kd.R_drewN | apply Kd.R_drew)); exact HV.out⟩, ⟨Kd.R_nil _ _ _ _ _⟩, ⟨by (with_reducible repeat (first | refine blk_drewN ?_ _ | refine blk_drew ?_ | refine blk_alloc ?_ _)); exact BK2.out⟩, ⟨by repeat (first | (with_reducible first | exact HB2.out | apply below_alloc | apply pw_below_drewN | apply below_drew1) | exact HB2.out)⟩⟩
  case round =>
    have HS1 := Aside0.mk HB1.out.size
    clear HV BK2 HB2 BK HB1 HB HT; obtain ⟨x, i, rfl, HX, HV, HN, BK, HB⟩ := hrel; by_cases c : i < N
    · obtain ⟨k1, rfl⟩ : ∃ k1, gk = k1 + 1 := ⟨gk - 1, by have := HX.out; omega⟩
      have hil : i < l.length := by have := NN.out; omega
      have hi15 : i < 15 := by have := NN.out; omega
      have p : 0 ≤ x := by have := HX.out; omega
      have q : x < (l.length : Int) := by have := HX.out; omega
      have e1 : decide (x < (l.length : Int)) = true := decide_eq_true q
      have e2 : decide (x < 15) = true := decide_eq_true (by have := HX.out; omega)
      have hw : wrap64 (x + 1) = x + 1 := by have := HX.out; unfold wrap64; omega
      obtain ⟨ad, ea, hx0⟩ := Kd.at_string (Kd.R_reads' HV.out).2.2 x p q
      cases ea
      have hst := lowN_step l i hil hi15
      rw [← NS.out, show (i : Int) = x from HX.out.1.symm] at hst
      have hsx : (rdOf ByteArray.empty l x).size < 9223372036854775808 := HLX.out _ (by
        have : rdOf ByteArray.empty l x = l[i] := by rw [HX.out.1]; simp [rdOf, List.getD_eq_getElem?_getD, hil]
        rw [this]; exact List.getElem_mem _)
      generalize rdOf ByteArray.empty l x = s at hx0 hst hsx
      obtain ⟨z, b, hz⟩ : ∃ z b, valF s = (z, b) := ⟨_, _, rfl⟩
      have HVAL := Aside0.mk (fun W => gemotref2_Value.calls s z b W (by unfold gemotref2_Value.f; rw [if_pos hsx, hz]))
      have hd : low32 s = z % 4294967296 := by unfold low32; rw [hz]
      have hdr := low32_range s
      generalize low32 s = d at hst hd hdr
      have hq : wrap64 (z.tmod 4294967296) = d := by
        have h0 : 0 ≤ z := by have := valF_pos s; rw [hz] at this; exact this
        rw [Int.tmod_eq_emod_of_nonneg h0, ← hd]; unfold wrap64; omega
      have HLI : Aside0 ((ns.take i).length < 8796093022208) := ⟨by rw [List.length_take]; omega⟩
      have HST := Aside0.mk hst
      have HIN : Aside0 (i < N) := ⟨c⟩
      clear hst c hsx hz hil hi15 hd hdr
      go_wp2_with (first
        | (go_at_call 68; go_loud (refine (HVAL.out _).mono ?_; rintro e w18 ⟨rfl, hb⟩; have n0_ := Aside0.mk (Kd.R_below (by (with_reducible repeat (first | apply Kd.R_alloc | apply Kd.R_drewN | apply Kd.R_drew)); exact HV.out) hb); have n1_ := Aside0.mk (Kd.R_below (by (with_reducible repeat (first | apply Kd.R_alloc | apply Kd.R_drewN | apply Kd.R_drew)); exact HN.out) hb); have n2_ := Aside0.mk (blk_below (by (with_reducible repeat (first | refine blk_drewN ?_ _ | refine blk_drew ?_ | refine blk_alloc ?_ _)); exact BK.out) hb); have n3_ := Aside0.mk (below_step (by repeat with_reducible first | exact HB.out | apply below_alloc | apply pw_below_drewN | apply below_drew1) hb); clear HV HN BK HB hx0; have HV := n0_; have HN := n1_; have BK := n2_; have HB := n3_; clear n0_ n1_ n2_ n3_ hb))
        | ((with_reducible refine gate_builtin (b := .append) (xs := #[.tmp 45, .tmp 49]) rfl ?_); at_builtin; refine Kd.R_append (Kd.int .i64) (w0 := w) w.heap.size rfl (.tmp 45) (.tmp 49) 36 3 (.int .i64 0) 8 rfl Try.underlying36 info3 rfl (by decide) (by omega) u6 (ns.take i) d [.int .i64 d] (fun _ => True) (fun _ => False) rfl rfl ?aP (fun _ hk => hk.elim) ?aF ?aO ?aB ?aS ?aL ?_; (case aP => exact rfl); (case aB => exact (by repeat with_reducible first | exact HB.out | apply below_alloc | apply pw_below_drewN | apply below_drew1)); (case aF => exact (fun _ _ => trivial)); (case aO => exact (by (with_reducible repeat (first | apply Kd.R_alloc | apply Kd.R_drewN | apply Kd.R_drew)); exact HN.out)); (case aS => exact (below_size (by repeat with_reducible first | exact HB.out | apply below_alloc | apply pw_below_drewN | apply below_drew1))); (case aL => have := HLI.out; omega); intro v3 w19 ho hb hg hat; rw [← HST.out] at ho; have n0_ := Aside0.mk (Kd.R_over' (by (with_reducible repeat (first | apply Kd.R_alloc | apply Kd.R_drewN | apply Kd.R_drew)); exact HV.out) (Kd.R_typed (by (with_reducible repeat (first | apply Kd.R_alloc | apply Kd.R_drewN | apply Kd.R_drew)); exact HN.out)) (by decide) hg); have n1_ := Aside0.mk (blk_grown (by (with_reducible repeat (first | refine blk_drewN ?_ _ | refine blk_drew ?_ | refine blk_alloc ?_ _)); exact BK.out) hg (Kd.R_ne HN.out BK.out (by decide))); have n2_ := Aside0.mk hb; have n3_ := Aside0.mk ho; clear HV HN BK HB; have HV := n0_; have BK := n1_; have HB := n2_; have HN := n3_; clear n0_ n1_ n2_ n3_ ho hb hg hat))
      go_roundg k1
      case measure => omega
      case rel => exact ⟨x + 1, i + 1, (by first | rfl | (simp; done) | (simp [*]; done)), ⟨by have := HX.out; have := HIN.out; omega⟩, ⟨by (with_reducible repeat (first | apply Kd.R_alloc | apply Kd.R_drewN | apply Kd.R_drew)); exact HV.out⟩, ⟨by (with_reducible repeat (first | apply Kd.R_alloc | apply Kd.R_drewN | apply Kd.R_drew)); exact HN.out⟩, ⟨by (with_reducible repeat (first | refine blk_drewN ?_ _ | refine blk_drew ?_ | refine blk_alloc ?_ _)); exact BK.out⟩, ⟨by repeat (first | (with_reducible first | exact HB.out | apply below_alloc | apply pw_below_drewN | apply below_drew1) | exact HB.out)⟩⟩
    · have hiN : i = N := by have := HX.out; omega
      subst hiN; have hns : ns.take i = ns := List.take_of_length_le (by have := LN.out; omega)
      rw [hns] at HN
      obtain ⟨g1, cc1, ev, hgb, hgl, _⟩ := Kd.R_form HN.out (by have := LN.out; have := NN.out; omega)
      rw [LN.out] at ev
      subst ev; have HG := Aside0.mk hgl
      have HGB := Aside0.mk hgb
      clear hgl hgb hns; have h7N : 7 ≤ i := by have := NN.out; omega
      have CC := (Kd.R_reads' HN.out).2.1
      have CL := (Kd.R_reads' HV.out).2.1
      obtain ⟨n0, hq0⟩ : ∃ n, n = rd ns 0 := ⟨_, rfl⟩
      obtain ⟨n1, hq1⟩ : ∃ n, n = rd ns 1 := ⟨_, rfl⟩
      obtain ⟨n2, hq2⟩ : ∃ n, n = rd ns 2 := ⟨_, rfl⟩
      obtain ⟨n3, hq3⟩ : ∃ n, n = rd ns 3 := ⟨_, rfl⟩
      obtain ⟨n4, hq4⟩ : ∃ n, n = rd ns 4 := ⟨_, rfl⟩
      obtain ⟨n5, hq5⟩ : ∃ n, n = rd ns 5 := ⟨_, rfl⟩
      obtain ⟨n6, hq6⟩ : ∃ n, n = rd ns 6 := ⟨_, rfl⟩
      have hn0 : wr.cell? ⟨g1, 0, none⟩ = some (.int .i64 n0) := (Kd.R_celln (0 : Int) HN.out 0 (by decide) (by omega)).1.trans (by rw [hq0]; rfl)
      have hn1 : wr.cell? ⟨g1, 1, none⟩ = some (.int .i64 n1) := (Kd.R_celln (0 : Int) HN.out 1 (by decide) (by omega)).1.trans (by rw [hq1]; rfl)
      have hn2 : wr.cell? ⟨g1, 2, none⟩ = some (.int .i64 n2) := (Kd.R_celln (0 : Int) HN.out 2 (by decide) (by omega)).1.trans (by rw [hq2]; rfl)
      have hn3 : wr.cell? ⟨g1, 3, none⟩ = some (.int .i64 n3) := (Kd.R_celln (0 : Int) HN.out 3 (by decide) (by omega)).1.trans (by rw [hq3]; rfl)
      have hn4 : wr.cell? ⟨g1, 4, none⟩ = some (.int .i64 n4) := (Kd.R_celln (0 : Int) HN.out 4 (by decide) (by omega)).1.trans (by rw [hq4]; rfl)
      have hn5 : wr.cell? ⟨g1, 5, none⟩ = some (.int .i64 n5) := (Kd.R_celln (0 : Int) HN.out 5 (by decide) (by omega)).1.trans (by rw [hq5]; rfl)
      have hn6 : wr.cell? ⟨g1, 6, none⟩ = some (.int .i64 n6) := (Kd.R_celln (0 : Int) HN.out 6 (by decide) (by omega)).1.trans (by rw [hq6]; rfl)
      have hr6 := (low32_range (rdOf ByteArray.empty l 6))
      have hn6r : 0 ≤ n6 ∧ n6 < 4294967296 := by
        have h6 : n6 = low32 (rdOf ByteArray.empty l 6) := by
          rw [hq6, NS.out]
          exact lowN_at l 6 (by have := H7.out; omega) (by decide)
        rw [h6]; exact hr6
      clear hr6; have N0 := Aside0.mk hq0
      have N1 := Aside0.mk hq1
      have N2 := Aside0.mk hq2
      have N3 := Aside0.mk hq3
      have N4 := Aside0.mk hq4
      have N5 := Aside0.mk hq5
      have N6 := Aside0.mk hq6
      clear hq0 hq1 hq2 hq3 hq4 hq5 hq6; have HCN : Aside0 (rd (lowN l) 6 = n6) := ⟨by rw [← NS.out, N6.out]⟩
      have hrow : wr = wr := rfl
      by_cases c8 : 8 < n6
      · have HNC : Aside0 (¬ (rd (lowN l) 6 ≤ 8 ∧ 7 + rd (lowN l) 6 ≤ (l.length : Int))) := ⟨by rw [HCN.out]; omega⟩
        have hw7 : wrap64 (7 + n6) = 7 + n6 := by unfold wrap64; omega
        by_cases cx : x < (l.length : Int)
        · have cy : ¬ x < 15 := by have := HX.out; have := NN.out; omega
          have z0 : wr.cell? ⟨g0, 0, none⟩ = some (.int .i64 0) := (blk_cell BK.out 0).trans rfl
          have f0 := blk_frozen BK.out 0; have z1 : wr.cell? ⟨g0, 1, none⟩ = some (.int .i64 0) := (blk_cell BK.out 1).trans rfl
          have f1 := blk_frozen BK.out 1; have z2 : wr.cell? ⟨g0, 2, none⟩ = some (.int .i64 0) := (blk_cell BK.out 2).trans rfl
          have f2 := blk_frozen BK.out 2; have z3 : wr.cell? ⟨g0, 3, none⟩ = some (.int .i64 0) := (blk_cell BK.out 3).trans rfl
          have f3 := blk_frozen BK.out 3; have z4 : wr.cell? ⟨g0, 4, none⟩ = some (.int .i64 0) := (blk_cell BK.out 4).trans rfl
          have f4 := blk_frozen BK.out 4; have z5 : wr.cell? ⟨g0, 5, none⟩ = some (.int .i64 0) := (blk_cell BK.out 5).trans rfl
          have f5 := blk_frozen BK.out 5; have z6 : wr.cell? ⟨g0, 6, none⟩ = some (.slice none 0 0) := (blk_cell BK.out 6).trans rfl
          have f6 := blk_frozen BK.out 6; have z7 : wr.cell? ⟨g0, 7, none⟩ = some (.slice none 0 0) := (blk_cell BK.out 7).trans rfl
          have f7 := blk_frozen BK.out 7; go_wp2; try simp only [Exit.inBlock, Exit.then]
          refine bodyPost_ret (results_ct rfl _ _ g0 45 #[.int .i64 0, .int .i64 0, .int .i64 0, .int .i64 0, .int .i64 0, .int .i64 0, .slice none 0 0, .slice none 0 0] (0, 0) _ rfl (put8 BK.out) hu45 rfl (by kernel_rfl)) rfl ?_
          exact ⟨fun h => absurd h HNC.out, fun _ => ⟨rfl, below8 HB.out GE.out⟩, fun _ => ⟨rfl, below8 HB.out GE.out⟩⟩
        · clear hrow; have z0 : wr.cell? ⟨g0, 0, none⟩ = some (.int .i64 0) := (blk_cell BK.out 0).trans rfl
          have f0 := blk_frozen BK.out 0; have z1 : wr.cell? ⟨g0, 1, none⟩ = some (.int .i64 0) := (blk_cell BK.out 1).trans rfl
          have f1 := blk_frozen BK.out 1; have z2 : wr.cell? ⟨g0, 2, none⟩ = some (.int .i64 0) := (blk_cell BK.out 2).trans rfl
          have f2 := blk_frozen BK.out 2; have z3 : wr.cell? ⟨g0, 3, none⟩ = some (.int .i64 0) := (blk_cell BK.out 3).trans rfl
          have f3 := blk_frozen BK.out 3; have z4 : wr.cell? ⟨g0, 4, none⟩ = some (.int .i64 0) := (blk_cell BK.out 4).trans rfl
          have f4 := blk_frozen BK.out 4; have z5 : wr.cell? ⟨g0, 5, none⟩ = some (.int .i64 0) := (blk_cell BK.out 5).trans rfl
          have f5 := blk_frozen BK.out 5; have z6 : wr.cell? ⟨g0, 6, none⟩ = some (.slice none 0 0) := (blk_cell BK.out 6).trans rfl
          have f6 := blk_frozen BK.out 6; have z7 : wr.cell? ⟨g0, 7, none⟩ = some (.slice none 0 0) := (blk_cell BK.out 7).trans rfl
          have f7 := blk_frozen BK.out 7; go_wp2; try simp only [Exit.inBlock, Exit.then]
          refine bodyPost_ret (results_ct rfl _ _ g0 45 #[.int .i64 0, .int .i64 0, .int .i64 0, .int .i64 0, .int .i64 0, .int .i64 0, .slice none 0 0, .slice none 0 0] (0, 0) _ rfl (put8 BK.out) hu45 rfl (by kernel_rfl)) rfl ?_
          exact ⟨fun h => absurd h HNC.out, fun _ => ⟨rfl, below8 HB.out GE.out⟩, fun _ => ⟨rfl, below8 HB.out GE.out⟩⟩
      by_cases c7 : (l.length : Int) < 7 + n6
      · have HNC : Aside0 (¬ (rd (lowN l) 6 ≤ 8 ∧ 7 + rd (lowN l) 6 ≤ (l.length : Int))) := ⟨by rw [HCN.out]; omega⟩
        have hw7 : wrap64 (7 + n6) = 7 + n6 := by unfold wrap64; omega
        by_cases cx : x < (l.length : Int)
        · exfalso
          have := HX.out
          have := NN.out
          omega
        · clear hrow; have z0 : wr.cell? ⟨g0, 0, none⟩ = some (.int .i64 0) := (blk_cell BK.out 0).trans rfl
          have f0 := blk_frozen BK.out 0; have z1 : wr.cell? ⟨g0, 1, none⟩ = some (.int .i64 0) := (blk_cell BK.out 1).trans rfl
          have f1 := blk_frozen BK.out 1; have z2 : wr.cell? ⟨g0, 2, none⟩ = some (.int .i64 0) := (blk_cell BK.out 2).trans rfl
          have f2 := blk_frozen BK.out 2; have z3 : wr.cell? ⟨g0, 3, none⟩ = some (.int .i64 0) := (blk_cell BK.out 3).trans rfl
          have f3 := blk_frozen BK.out 3; have z4 : wr.cell? ⟨g0, 4, none⟩ = some (.int .i64 0) := (blk_cell BK.out 4).trans rfl
          have f4 := blk_frozen BK.out 4; have z5 : wr.cell? ⟨g0, 5, none⟩ = some (.int .i64 0) := (blk_cell BK.out 5).trans rfl
          have f5 := blk_frozen BK.out 5; have z6 : wr.cell? ⟨g0, 6, none⟩ = some (.slice none 0 0) := (blk_cell BK.out 6).trans rfl
          have f6 := blk_frozen BK.out 6; have z7 : wr.cell? ⟨g0, 7, none⟩ = some (.slice none 0 0) := (blk_cell BK.out 7).trans rfl
          have f7 := blk_frozen BK.out 7; go_wp2; try simp only [Exit.inBlock, Exit.then]
          refine bodyPost_ret (results_ct rfl _ _ g0 45 #[.int .i64 0, .int .i64 0, .int .i64 0, .int .i64 0, .int .i64 0, .int .i64 0, .slice none 0 0, .slice none 0 0] (0, 0) _ rfl (put8 BK.out) hu45 rfl (by kernel_rfl)) rfl ?_
          exact ⟨fun h => absurd h HNC.out, fun _ => ⟨rfl, below8 HB.out GE.out⟩, fun _ => ⟨rfl, below8 HB.out GE.out⟩⟩
      obtain ⟨m, rfl⟩ : ∃ m : Nat, n6 = (m : Int) := ⟨n6.toNat, by omega⟩
      have hw7 : wrap64 (7 + (m : Int)) = 7 + (m : Int) := by unfold wrap64; omega
      have ht7 : (7 + (m : Int)).toNat = 7 + m := by omega
      have hmN : 7 + m ≤ i := by have := NN.out; omega
      have hlt : 7 + m ≤ l.length := by omega
      obtain ⟨i0, hi0, _, hsz0, _⟩ := info_parts info3; obtain ⟨j0, hj0, _, hsz1, _⟩ := info_parts info9
      obtain ⟨A2, hcm, hF2⟩ : ∃ A2, (∀ W : World, (Instr.slice 36 (.slice (some ⟨g1, 0, none⟩) i cc1) (some (.int .i64 7)) (some (.int .i64 (7 + (m : Int)))) none).run Try.prog W = .ok (.slice A2 m (cc1 - 7)) W) ∧ ∀ (W : World) (ok : Nat → Prop), Kd.F (Kd.int .i64) W ok (some ⟨g1, 0, none⟩) i ns → Kd.F (Kd.int .i64) W ok A2 ((ns.drop 7).take m).length ((ns.drop 7).take m) := by
        refine ⟨if cc1 = 7 then some ⟨g1, 0, none⟩ else (some ⟨g1, 0, none⟩ : Option Addr).map (·.add (7 * 1)), fun W => ?_, fun W ok h => ?_⟩
        · have := cut_mid (P := Try.prog) 36 3 .i64 .i64 Try.underlying36 hi0 1 hsz0 (some ⟨g1, 0, none⟩) i cc1 7 (7 + (m : Int)) (by decide) (by omega) (by omega) CC W
          rw [ht7, show 7 + m - (7 : Int).toNat = m by omega] at this
          exact this
        · rw [← LN.out] at h
          refine Kd.F_imp h (fun _ hC => ?_)
          have := Kd.C_mid (lo := 7) (hi := 7 + m) (c := cc1) hC (by omega) (by rw [LN.out]; exact hmN) (by rw [LN.out]; exact CC)
          rw [List.drop_take, show 7 + m - 7 = m by omega] at this
          exact this
      obtain ⟨A3, hcf, hF3⟩ : ∃ A3, (∀ W : World, (Instr.slice 43 (.slice A0 l.length cc0) (some (.int .i64 (7 + (m : Int)))) none none).run Try.prog W = .ok (.slice A3 (l.length - (7 + m)) (cc0 - (7 + m))) W) ∧ ∀ (W : World) (ok : Nat → Prop), Kd.F Kd.string W ok A0 l.length l → Kd.F Kd.string W ok A3 (l.drop (7 + m)).length (l.drop (7 + m)) := by
        refine ⟨if cc0 = 7 + m then A0 else A0.map (·.add ((7 + m) * 1)), fun W => ?_, fun W ok h => ?_⟩
        · have := cut_from (P := Try.prog) 43 9 .i64 Try.underlying43 hj0 1 hsz1 A0 l.length cc0 (7 + (m : Int)) (by omega) (by omega) W
          rw [ht7] at this
          exact this
        · exact Kd.F_cut (m := 7 + m) (c := cc0) h hlt CL
      have hms : ((ns.drop 7).take m).length = m := by rw [List.length_take, List.length_drop, LN.out]; omega
      have hts : (l.drop (7 + m)).length = l.length - (7 + m) := List.length_drop
      have hM : msgU l = ⟨n0, n1, n2, n3, n4, n5, (ns.drop 7).take m, l.drop (7 + m)⟩ := by
        unfold msgU
        rw [HCN.out, ← NS.out, N0.out, N1.out, N2.out, N3.out, N4.out, N5.out]
        rfl
      obtain ⟨u, f, hP⟩ : ∃ u f, packM ⟨n0, n1, n2, n3, n4, n5, (ns.drop 7).take m, l.drop (7 + m)⟩ = (u, f) := ⟨_, _, rfl⟩
      have HPK := Aside0.mk (fun (W : World) (h6 : Kd.C (Kd.int .i64) W A2 ((ns.drop 7).take m).length ((ns.drop 7).take m)) (h7 : Kd.C Kd.string W A3 (l.drop (7 + m)).length (l.drop (7 + m))) => gemotref4_Unpack.pack n0 n1 n2 n3 n4 n5 A2 (cc1 - 7) ((ns.drop 7).take m) A3 (cc0 - (7 + m)) (l.drop (7 + m)) u f m (l.length - (7 + m)) W hms hts h6 (by rw [hms]; omega) h7 (by rw [hts]; omega) (by rw [hms]; omega) (by rw [hts]; omega) (fun x hx => HLX.out x (List.mem_of_mem_drop hx)) hP)
      have HCM := Aside0.mk hcm
      have HCF := Aside0.mk hcf
      replace hF2 := Aside0.mk hF2
      replace hF3 := Aside0.mk hF3
      have HMS := Aside0.mk hms
      have HTS := Aside0.mk hts
      have HM := Aside0.mk hM
      have HP := Aside0.mk hP
      have H7N := Aside0.mk h7N
      have gi1 : (1 : Int) < (i : Int) := by omega
      have gi2 : (2 : Int) < (i : Int) := by omega
      have gi3 : (3 : Int) < (i : Int) := by omega
      have gi4 : (4 : Int) < (i : Int) := by omega
      have gi5 : (5 : Int) < (i : Int) := by omega
      have gi6 : (6 : Int) < (i : Int) := by omega
      have gt0 : 0 < i := by omega
      have HCC := Aside0.mk CC
      have HCL := Aside0.mk CL
      have HMN := Aside0.mk hmN
      clear hcm hcf hms hts hM hP ht7 hi0 hj0 hsz0 hsz1 CC CL h7N hlt hmN
      have hx3 : (x < (l.length : Int) ∧ ¬ x < 15) ∨ ¬ x < (l.length : Int) := by
        by_cases cx : x < (l.length : Int)
        · exact .inl ⟨cx, by have := HX.out; have := NN.out; omega⟩
        · exact .inr cx
      have hyc : rd (lowN l) 6 ≤ 8 ∧ 7 + rd (lowN l) 6 ≤ (l.length : Int) := by rw [HCN.out]; omega
      have h3 : (¬ packM (msgU l) = (t, 0) ∧ (f != 0) = true ∧ (f == 0) = false) ∨ (¬ packM (msgU l) = (t, 0) ∧ (u.toList == t.toList) = false ∧ (u.toList != t.toList) = true ∧ f = 0) ∨ (packM (msgU l) = (t, 0) ∧ (u.toList == t.toList) = true ∧ (u.toList != t.toList) = false ∧ f = 0) := by
        rw [HM.out, HP.out]
        by_cases cf : f = 0
        case neg => exact .inl ⟨fun h => cf (Prod.mk.inj h).2, bne_iff_ne.mpr cf, beq_eq_false_iff_ne.mpr cf⟩
        by_cases cu : u = t
        · have f1 : (u.toList == t.toList) = true := by rw [cu]; exact beq_self_eq_true _
          exact .inr (.inr ⟨by rw [cf, cu], f1, by rw [bne, f1]; rfl, cf⟩)
        · have f1 : (u.toList == t.toList) = false := beq_eq_false_iff_ne.mpr (fun h => cu (gemotref4_Unpack.text h))
          exact .inr (.inl ⟨fun h => cu (Prod.mk.inj h).1, f1, by rw [bne, f1]; rfl, cf⟩)
      clear hrow; rcases hx3 with ⟨cx, cy⟩ | cx <;> rcases h3 with ⟨hnp, f1, f2⟩ | ⟨hnp, f1, f2, rfl⟩ | ⟨hyp, f1, f2, rfl⟩
      all_goals
        go_wp2_with ((with_reducible refine gate_dst (N := 2) rfl ?_); refine box_event ?hg (N := 2) ?hd (cs := #[]) (t := 0) ?hr ?_; (case hd => rfl); (case hg => rfl); (case hr => first | (go_simp; done) | (go_simp; rfl)); skip)
        have HN5 := Aside0.mk (Kd.R_drew HN.out)
        have HV5 := Aside0.mk (Kd.R_drew HV.out)
        have BK5 := Aside0.mk (blk_drew BK.out)
        have HB5 := Aside0.mk (below_drew1 HB.out)
        refine start_ (n := 23) (S := fun w' => w'.cell? ⟨g1, 0, none⟩ = some (.int .i64 n0) ∧ w'.cell? ⟨g1, 1, none⟩ = some (.int .i64 n1) ∧ w'.cell? ⟨g1, 2, none⟩ = some (.int .i64 n2) ∧ w'.cell? ⟨g1, 3, none⟩ = some (.int .i64 n3) ∧ w'.cell? ⟨g1, 4, none⟩ = some (.int .i64 n4) ∧ w'.cell? ⟨g1, 5, none⟩ = some (.int .i64 n5)) (ds := [22]) #[false, false, false, false, false, false, false, false, false, false, false, false, false, false, false, false, false, false, false, false, false, false, false] (by kernel_rfl) rfl rfl ⟨hn0, hn1, hn2, hn3, hn4, hn5⟩ (fun hHeld => ?_)
        refine with_tabW gemotref4_Unpack.tab13 gemotref4_Unpack.bits13 (fun HT_ HW_ => ?_)
        clear hn0 hn1 hn2 hn3 hn4 hn5 hn6; generalize wr.drew = w5 at HN5 HV5 BK5 HB5 hHeld ⊢
        refine pure_ (i := 0) (N := some 64) (v := ?_) (a' := ?_) #[true, false, false, false, false, false, false, false, false, false, false, false, false, false, false, false, false, false, false, false, false, false, false] rfl rfl (any_of HT_.out (by kernel_rfl)) (fun _ _ _ h => h) (Or.inl ⟨by rfl, ?_⟩) ?_ ?_
        rotate_left
        · intro w'; go_simp; with_reducible rfl
        rotate_left
        · simp only [Act.put, List.setIfInBounds_toArray, List.set_cons_zero, List.set_cons_succ, i64_w, i32_w]; rfl
        refine pure_ (i := 1) (N := some 65) (v := ?_) (a' := ?_) #[true, true, false, false, false, false, false, false, false, false, false, false, false, false, false, false, false, false, false, false, false, false, false] rfl rfl (any_of HT_.out (by kernel_rfl)) (fun _ _ _ h => h) (Or.inl ⟨by rfl, ?_⟩) ?_ ?_
        rotate_left
        · intro w'; go_simp; with_reducible rfl
        rotate_left
        · simp only [Act.put, List.setIfInBounds_toArray, List.set_cons_zero, List.set_cons_succ, i64_w, i32_w]; rfl
        refine take_ (i := 2) (N := some 66) (v := ?_) (a' := ?_) #[true, true, true, false, false, false, false, false, false, false, false, false, false, false, false, false, false, false, false, false, false, false, false] rfl rfl (take_ofW HT_.out HW_.out (by kernel_rfl)) (fun _ _ _ h => h) (Or.inl ⟨by rfl, ?_⟩) hHeld ?_ ?_
        rotate_left
        · rintro w' ⟨s0, s1, s2, s3, s4, s5⟩; go_simp; with_reducible rfl
        rotate_left
        · simp only [Act.put, List.setIfInBounds_toArray, List.set_cons_zero, List.set_cons_succ, i64_w, i32_w]; rfl
        refine pure_ (i := 3) (N := some 67) (v := ?_) (a' := ?_) #[true, true, true, true, false, false, false, false, false, false, false, false, false, false, false, false, false, false, false, false, false, false, false] rfl rfl (any_of HT_.out (by kernel_rfl)) (fun _ _ _ h => h) (Or.inl ⟨by rfl, ?_⟩) ?_ ?_
        rotate_left
        · intro w'; go_simp; with_reducible rfl
        rotate_left
        · simp only [Act.put, List.setIfInBounds_toArray, List.set_cons_zero, List.set_cons_succ, i64_w, i32_w]; rfl
        refine pure_ (i := 4) (N := some 68) (v := ?_) (a' := ?_) #[true, true, true, true, true, false, false, false, false, false, false, false, false, false, false, false, false, false, false, false, false, false, false] rfl rfl (any_of HT_.out (by kernel_rfl)) (fun _ _ _ h => h) (Or.inl ⟨by rfl, ?_⟩) ?_ ?_
        rotate_left
        · intro w'; go_simp; with_reducible rfl
        rotate_left
        · simp only [Act.put, List.setIfInBounds_toArray, List.set_cons_zero, List.set_cons_succ, i64_w, i32_w]; rfl
        refine take_ (i := 5) (N := some 69) (v := ?_) (a' := ?_) #[true, true, true, true, true, true, false, false, false, false, false, false, false, false, false, false, false, false, false, false, false, false, false] rfl rfl (take_ofW HT_.out HW_.out (by kernel_rfl)) (fun _ _ _ h => h) (Or.inl ⟨by rfl, ?_⟩) hHeld ?_ ?_
        rotate_left
        · rintro w' ⟨s0, s1, s2, s3, s4, s5⟩; go_simp; with_reducible rfl
        rotate_left
        · simp only [Act.put, List.setIfInBounds_toArray, List.set_cons_zero, List.set_cons_succ, i64_w, i32_w]; rfl
        refine pure_ (i := 6) (N := some 70) (v := ?_) (a' := ?_) #[true, true, true, true, true, true, true, false, false, false, false, false, false, false, false, false, false, false, false, false, false, false, false] rfl rfl (any_of HT_.out (by kernel_rfl)) (fun _ _ _ h => h) (Or.inl ⟨by rfl, ?_⟩) ?_ ?_
        rotate_left
        · intro w'; go_simp; with_reducible rfl
        rotate_left
        · simp only [Act.put, List.setIfInBounds_toArray, List.set_cons_zero, List.set_cons_succ, i64_w, i32_w]; rfl
        refine pure_ (i := 7) (N := some 71) (v := ?_) (a' := ?_) #[true, true, true, true, true, true, true, true, false, false, false, false, false, false, false, false, false, false, false, false, false, false, false] rfl rfl (any_of HT_.out (by kernel_rfl)) (fun _ _ _ h => h) (Or.inl ⟨by rfl, ?_⟩) ?_ ?_
        rotate_left
        · intro w'; go_simp; with_reducible rfl
        rotate_left
        · simp only [Act.put, List.setIfInBounds_toArray, List.set_cons_zero, List.set_cons_succ, i64_w, i32_w]; rfl
        refine take_ (i := 8) (N := some 72) (v := ?_) (a' := ?_) #[true, true, true, true, true, true, true, true, true, false, false, false, false, false, false, false, false, false, false, false, false, false, false] rfl rfl (take_ofW HT_.out HW_.out (by kernel_rfl)) (fun _ _ _ h => h) (Or.inl ⟨by rfl, ?_⟩) hHeld ?_ ?_
        rotate_left
        · rintro w' ⟨s0, s1, s2, s3, s4, s5⟩; go_simp; with_reducible rfl
        rotate_left
        · simp only [Act.put, List.setIfInBounds_toArray, List.set_cons_zero, List.set_cons_succ, i64_w, i32_w]; rfl
        refine pure_ (i := 9) (N := some 73) (v := ?_) (a' := ?_) #[true, true, true, true, true, true, true, true, true, true, false, false, false, false, false, false, false, false, false, false, false, false, false] rfl rfl (any_of HT_.out (by kernel_rfl)) (fun _ _ _ h => h) (Or.inl ⟨by rfl, ?_⟩) ?_ ?_
        rotate_left
        · intro w'; go_simp; with_reducible rfl
        rotate_left
        · simp only [Act.put, List.setIfInBounds_toArray, List.set_cons_zero, List.set_cons_succ, i64_w, i32_w]; rfl
        refine pure_ (i := 10) (N := some 74) (v := ?_) (a' := ?_) #[true, true, true, true, true, true, true, true, true, true, true, false, false, false, false, false, false, false, false, false, false, false, false] rfl rfl (any_of HT_.out (by kernel_rfl)) (fun _ _ _ h => h) (Or.inl ⟨by rfl, ?_⟩) ?_ ?_
        rotate_left
        · intro w'; go_simp; with_reducible rfl
        rotate_left
        · simp only [Act.put, List.setIfInBounds_toArray, List.set_cons_zero, List.set_cons_succ, i64_w, i32_w]; rfl
        refine pure_ (i := 11) (N := some 75) (v := ?_) (a' := ?_) #[true, true, true, true, true, true, true, true, true, true, true, true, false, false, false, false, false, false, false, false, false, false, false] rfl rfl (any_of HT_.out (by kernel_rfl)) (fun _ _ _ h => h) (Or.inl ⟨by rfl, ?_⟩) ?_ ?_
        rotate_left
        · intro w'; go_simp; with_reducible rfl
        rotate_left
        · simp only [Act.put, List.setIfInBounds_toArray, List.set_cons_zero, List.set_cons_succ, i64_w, i32_w]; rfl
        refine take_ (i := 12) (N := some 76) (v := ?_) (a' := ?_) #[true, true, true, true, true, true, true, true, true, true, true, true, true, false, false, false, false, false, false, false, false, false, false] rfl rfl (take_ofW HT_.out HW_.out (by kernel_rfl)) (fun _ _ _ h => h) (Or.inl ⟨by rfl, ?_⟩) hHeld ?_ ?_
        rotate_left
        · rintro w' ⟨s0, s1, s2, s3, s4, s5⟩; go_simp; with_reducible rfl
        rotate_left
        · simp only [Act.put, List.setIfInBounds_toArray, List.set_cons_zero, List.set_cons_succ, i64_w, i32_w]; rfl
        refine pure_ (i := 13) (N := some 77) (v := ?_) (a' := ?_) #[true, true, true, true, true, true, true, true, true, true, true, true, true, true, false, false, false, false, false, false, false, false, false] rfl rfl (any_of HT_.out (by kernel_rfl)) (fun _ _ _ h => h) (Or.inl ⟨by rfl, ?_⟩) ?_ ?_
        rotate_left
        · intro w'; go_simp; with_reducible rfl
        rotate_left
        · simp only [Act.put, List.setIfInBounds_toArray, List.set_cons_zero, List.set_cons_succ, i64_w, i32_w]; rfl
        refine pure_ (i := 14) (N := some 78) (v := ?_) (a' := ?_) #[true, true, true, true, true, true, true, true, true, true, true, true, true, true, true, false, false, false, false, false, false, false, false] rfl rfl (any_of HT_.out (by kernel_rfl)) (fun _ _ _ h => h) (Or.inl ⟨by rfl, ?_⟩) ?_ ?_
        rotate_left
        · intro w'; go_simp; with_reducible rfl
        rotate_left
        · simp only [Act.put, List.setIfInBounds_toArray, List.set_cons_zero, List.set_cons_succ, i64_w, i32_w]; rfl
        refine take_ (i := 15) (N := some 79) (v := ?_) (a' := ?_) #[true, true, true, true, true, true, true, true, true, true, true, true, true, true, true, true, false, false, false, false, false, false, false] rfl rfl (take_ofW HT_.out HW_.out (by kernel_rfl)) (fun _ _ _ h => h) (Or.inl ⟨by rfl, ?_⟩) hHeld ?_ ?_
        rotate_left
        · rintro w' ⟨s0, s1, s2, s3, s4, s5⟩; go_simp; with_reducible rfl
        rotate_left
        · simp only [Act.put, List.setIfInBounds_toArray, List.set_cons_zero, List.set_cons_succ, i64_w, i32_w]; rfl
        refine pure_ (i := 16) (N := some 80) (v := ?_) (a' := ?_) #[true, true, true, true, true, true, true, true, true, true, true, true, true, true, true, true, true, false, false, false, false, false, false] rfl rfl (any_of HT_.out (by kernel_rfl)) (fun _ _ _ h => h) (Or.inl ⟨by rfl, ?_⟩) ?_ ?_
        rotate_left
        · intro w'; go_simp; with_reducible rfl
        rotate_left
        · simp only [Act.put, List.setIfInBounds_toArray, List.set_cons_zero, List.set_cons_succ, i64_w, i32_w]; rfl
        refine pure_ (i := 17) (N := some 81) (v := ?_) (a' := ?_) #[true, true, true, true, true, true, true, true, true, true, true, true, true, true, true, true, true, true, false, false, false, false, false] rfl rfl (any_of HT_.out (by kernel_rfl)) (fun _ _ _ h => h) (Or.inl ⟨by rfl, ?_⟩) ?_ ?_
        rotate_left
        · intro w'; go_simp; with_reducible rfl
        rotate_left
        · simp only [Act.put, List.setIfInBounds_toArray, List.set_cons_zero, List.set_cons_succ, i64_w, i32_w]; rfl
        refine pure_ (i := 18) (N := some 82) (v := ?_) (a' := ?_) #[true, true, true, true, true, true, true, true, true, true, true, true, true, true, true, true, true, true, true, false, false, false, false] rfl rfl (any_of HT_.out (by kernel_rfl)) (fun _ _ _ h => h) (Or.inl ⟨by rfl, ?_⟩) ?_ ?_
        rotate_left
        · intro w'; go_simp; with_reducible rfl
        rotate_left
        · simp only [Act.put, List.setIfInBounds_toArray, List.set_cons_zero, List.set_cons_succ, i64_w, i32_w]; rfl
        refine take_ (i := 19) (N := some 83) (v := ?_) (a' := ?_) #[true, true, true, true, true, true, true, true, true, true, true, true, true, true, true, true, true, true, true, true, false, false, false] rfl rfl (take_ofW HT_.out HW_.out (by kernel_rfl)) (fun _ _ _ h => h) (Or.inl ⟨by rfl, ?_⟩) hHeld ?_ ?_
        rotate_left
        · rintro w' ⟨s0, s1, s2, s3, s4, s5⟩; go_simp; with_reducible rfl
        rotate_left
        · simp only [Act.put, List.setIfInBounds_toArray, List.set_cons_zero, List.set_cons_succ, i64_w, i32_w]; rfl
        refine pure_ (i := 20) (N := some 84) (v := ?_) (a' := ?_) #[true, true, true, true, true, true, true, true, true, true, true, true, true, true, true, true, true, true, true, true, true, false, false] rfl rfl (any_of HT_.out (by kernel_rfl)) (fun _ _ _ h => h) (Or.inl ⟨by rfl, ?_⟩) ?_ ?_
        rotate_left
        · intro w'; go_simp; with_reducible rfl
        rotate_left
        · simp only [Act.put, List.setIfInBounds_toArray, List.set_cons_zero, List.set_cons_succ, i64_w, i32_w]; rfl
        refine one_ (i := 21) (N := some 11) #[true, true, true, true, true, true, true, true, true, true, true, true, true, true, true, true, true, true, true, true, true, true, false] rfl rfl (one_of HT_.out (by kernel_rfl)) (by decide) (fun K hK => ?_)
        refine box_step (by rfl) (N := 11) rfl (cs := #[.int .i64 0, .int .i64 0, .int .i64 0, .int .i64 0, .int .i64 0, .int .i64 0, .slice none 0 0, .slice none 0 0]) (t := 45) ?hr ?_
        case hr => first | (go_simp; done) | (go_simp; rfl)
        intro gm hgm w6 hbx hb6; have HN6 := Aside0.mk (Kd.R_below HN5.out hb6)
        have BM6 := Aside0.mk hbx
        have BK6 := Aside0.mk (blk_below BK5.out hb6)
        have HB6 := Aside0.mk (below_step HB5.out hb6)
        have GM := Aside0.mk (show w.heap.size ≤ gm by rw [hgm]; exact HB5.out.size)
        have HV6 := Aside0.mk (Kd.R_below HV5.out hb6)
        have NE0 : Aside0 (g0 ≠ gm) := ⟨by rw [hgm]; exact Nat.ne_of_lt (blk_lt BK5.out)⟩
        clear hbx hb6 hgm; refine hK.out _ _ ⟨(Kd.R_celln (0 : Int) HN6.out 0 (by decide) (by have := H7N.out; omega)).1.trans (by rw [N0.out]; rfl), (Kd.R_celln (0 : Int) HN6.out 1 (by decide) (by have := H7N.out; omega)).1.trans (by rw [N1.out]; rfl), (Kd.R_celln (0 : Int) HN6.out 2 (by decide) (by have := H7N.out; omega)).1.trans (by rw [N2.out]; rfl), (Kd.R_celln (0 : Int) HN6.out 3 (by decide) (by have := H7N.out; omega)).1.trans (by rw [N3.out]; rfl), (Kd.R_celln (0 : Int) HN6.out 4 (by decide) (by have := H7N.out; omega)).1.trans (by rw [N4.out]; rfl), (Kd.R_celln (0 : Int) HN6.out 5 (by decide) (by have := H7N.out; omega)).1.trans (by rw [N5.out]; rfl)⟩ (fun hHeld => ?_)
        clear hK K; refine norm_ (a' := ?_) ?_ ?_
        rotate_left
        · show Act.put _ (some 11) _ = _
          simp only [Act.put, List.setIfInBounds_toArray, List.set_cons_zero, List.set_cons_succ, i64_w, i32_w]; rfl
        refine last_ (i := 22) (N := none) #[true, true, true, true, true, true, true, true, true, true, true, true, true, true, true, true, true, true, true, true, true, true, true] rfl rfl (one_of HT_.out (by kernel_rfl)) (by decide) (fun K hK => ?_)
        have y0 : w6.cell? ⟨gm, 0, none⟩ = some (.int .i64 0) := (blk_cell BM6.out 0).trans rfl
        have x0 := blk_frozen BM6.out 0; have y1 : w6.cell? ⟨gm, 1, none⟩ = some (.int .i64 0) := (blk_cell BM6.out 1).trans rfl
        have x1 := blk_frozen BM6.out 1; have y2 : w6.cell? ⟨gm, 2, none⟩ = some (.int .i64 0) := (blk_cell BM6.out 2).trans rfl
        have x2 := blk_frozen BM6.out 2; have y3 : w6.cell? ⟨gm, 3, none⟩ = some (.int .i64 0) := (blk_cell BM6.out 3).trans rfl
        have x3 := blk_frozen BM6.out 3; have y4 : w6.cell? ⟨gm, 4, none⟩ = some (.int .i64 0) := (blk_cell BM6.out 4).trans rfl
        have x4 := blk_frozen BM6.out 4; have y5 : w6.cell? ⟨gm, 5, none⟩ = some (.int .i64 0) := (blk_cell BM6.out 5).trans rfl
        have x5 := blk_frozen BM6.out 5; have y6 : w6.cell? ⟨gm, 6, none⟩ = some (.slice none 0 0) := (blk_cell BM6.out 6).trans rfl
        have x6 := blk_frozen BM6.out 6; have y7 : w6.cell? ⟨gm, 7, none⟩ = some (.slice none 0 0) := (blk_cell BM6.out 7).trans rfl
        have x7 := blk_frozen BM6.out 7; refine skip_ (w1 := ?_) (by rfl) rfl ?_ ?_
        rotate_left; · (go_simp; rfl)
        refine hK.out _ _ ?_
        clear hK K; refine done_ (done_of HT_.out (by kernel_rfl)) ?_
        clear y0 y1 y2 y3 y4 y5 y6 y7 x0 x1 x2 x3 x4 x5 x6 x7; have BG7 := Aside0.mk (put8 (d0 := .int .i64 n0) (d1 := .int .i64 n1) (d2 := .int .i64 n2) (d3 := .int .i64 n3) (d4 := .int .i64 n4) (d5 := .int .i64 n5) (d6 := .slice none 0 0) (d7 := .slice none 0 0) BM6.out)
        have BK7 := Aside0.mk ((far8 (d0 := .int .i64 n0) (d1 := .int .i64 n1) (d2 := .int .i64 n2) (d3 := .int .i64 n3) (d4 := .int .i64 n4) (d5 := .int .i64 n5) (d6 := .slice none 0 0) (d7 := .slice none 0 0) NE0.out).trans BK6.out)
        have HB7 := Aside0.mk (below8 (d0 := .int .i64 n0) (d1 := .int .i64 n1) (d2 := .int .i64 n2) (d3 := .int .i64 n3) (d4 := .int .i64 n4) (d5 := .int .i64 n5) (d6 := .slice none 0 0) (d7 := .slice none 0 0) HB6.out GM.out)
        have HN7 := Aside0.mk (Kd.R_step (Kd.R_types HN6.out BM6.out (by decide)) (fun k hk _ => far8 (d0 := .int .i64 n0) (d1 := .int .i64 n1) (d2 := .int .i64 n2) (d3 := .int .i64 n3) (d4 := .int .i64 n4) (d5 := .int .i64 n5) (d6 := .slice none 0 0) (d7 := .slice none 0 0) hk.2))
        have HV7 := Aside0.mk (Kd.R_step (Kd.R_types HV6.out BM6.out (by decide)) (fun k hk _ => far8 (d0 := .int .i64 n0) (d1 := .int .i64 n1) (d2 := .int .i64 n2) (d3 := .int .i64 n3) (d4 := .int .i64 n4) (d5 := .int .i64 n5) (d6 := .slice none 0 0) (d7 := .slice none 0 0) hk.2))
        clear HN6 HV6 BM6 BK6 HB6 HN5 HV5 BK5 HB5; generalize ((((((((w6.setCell ⟨gm, 0, none⟩ (.int .i64 n0)).setCell ⟨gm, 1, none⟩ (.int .i64 n1)).setCell ⟨gm, 2, none⟩ (.int .i64 n2)).setCell ⟨gm, 3, none⟩ (.int .i64 n3)).setCell ⟨gm, 4, none⟩ (.int .i64 n4)).setCell ⟨gm, 5, none⟩ (.int .i64 n5)).setCell ⟨gm, 6, none⟩ (.slice none 0 0)).setCell ⟨gm, 7, none⟩ (.slice none 0 0)) = w7 at BG7 BK7 HB7 HN7 HV7 ⊢
        have BG8 := Aside0.mk (blk_put (cs' := #[.int .i64 n0, .int .i64 n1, .int .i64 n2, .int .i64 n3, .int .i64 n4, .int .i64 n5, .slice A2 m (cc1 - 7), .slice none 0 0]) BG7.out 6 (.slice A2 m (cc1 - 7)) rfl)
        have BG9 := Aside0.mk (blk_put (cs' := #[.int .i64 n0, .int .i64 n1, .int .i64 n2, .int .i64 n3, .int .i64 n4, .int .i64 n5, .slice A2 m (cc1 - 7), .slice A3 (l.length - (7 + m)) (cc0 - (7 + m))]) BG8.out 7 (.slice A3 (l.length - (7 + m)) (cc0 - (7 + m))) rfl)
        have BK9 := Aside0.mk (blk_far (p := ⟨gm, 7, none⟩) (blk_far (p := ⟨gm, 6, none⟩) BK7.out NE0.out (.slice A2 m (cc1 - 7))) NE0.out (.slice A3 (l.length - (7 + m)) (cc0 - (7 + m))))
        have HB9 := Aside0.mk (show Below w.heap.size w ((w7.setCell ⟨gm, 6, none⟩ (.slice A2 m (cc1 - 7))).setCell ⟨gm, 7, none⟩ (.slice A3 (l.length - (7 + m)) (cc0 - (7 + m)))) from below_set (below_set HB7.out GM.out) GM.out)
        have HN9 := Aside0.mk (Kd.R_far (p := ⟨gm, 7, none⟩) (Kd.R_far (p := ⟨gm, 6, none⟩) HN7.out (fun k hk => hk.2) (.slice A2 m (cc1 - 7))) (fun k hk => hk.2) (.slice A3 (l.length - (7 + m)) (cc0 - (7 + m))))
        have HV9 := Aside0.mk (Kd.R_far (p := ⟨gm, 7, none⟩) (Kd.R_far (p := ⟨gm, 6, none⟩) HV7.out (fun k hk => hk.2) (.slice A2 m (cc1 - 7))) (fun k hk => hk.2) (.slice A3 (l.length - (7 + m)) (cc0 - (7 + m))))
        have y6 : w7.cell? ⟨gm, 6, none⟩ = some (.slice none 0 0) := (blk_cell BG7.out 6).trans rfl
        have x6 := blk_frozen BG7.out 6; have y7 : (w7.setCell ⟨gm, 6, none⟩ (.slice A2 m (cc1 - 7))).cell? ⟨gm, 7, none⟩ = some (.slice none 0 0) := (blk_cell BG8.out 7).trans rfl
        have x7 := blk_frozen BG8.out 7; have v0 : ((w7.setCell ⟨gm, 6, none⟩ (.slice A2 m (cc1 - 7))).setCell ⟨gm, 7, none⟩ (.slice A3 (l.length - (7 + m)) (cc0 - (7 + m)))).cell? ⟨gm, 0, none⟩ = some (.int .i64 n0) := (blk_cell BG9.out 0).trans rfl
        have v1 : ((w7.setCell ⟨gm, 6, none⟩ (.slice A2 m (cc1 - 7))).setCell ⟨gm, 7, none⟩ (.slice A3 (l.length - (7 + m)) (cc0 - (7 + m)))).cell? ⟨gm, 1, none⟩ = some (.int .i64 n1) := (blk_cell BG9.out 1).trans rfl
        have v2 : ((w7.setCell ⟨gm, 6, none⟩ (.slice A2 m (cc1 - 7))).setCell ⟨gm, 7, none⟩ (.slice A3 (l.length - (7 + m)) (cc0 - (7 + m)))).cell? ⟨gm, 2, none⟩ = some (.int .i64 n2) := (blk_cell BG9.out 2).trans rfl
        have v3 : ((w7.setCell ⟨gm, 6, none⟩ (.slice A2 m (cc1 - 7))).setCell ⟨gm, 7, none⟩ (.slice A3 (l.length - (7 + m)) (cc0 - (7 + m)))).cell? ⟨gm, 3, none⟩ = some (.int .i64 n3) := (blk_cell BG9.out 3).trans rfl
        have v4 : ((w7.setCell ⟨gm, 6, none⟩ (.slice A2 m (cc1 - 7))).setCell ⟨gm, 7, none⟩ (.slice A3 (l.length - (7 + m)) (cc0 - (7 + m)))).cell? ⟨gm, 4, none⟩ = some (.int .i64 n4) := (blk_cell BG9.out 4).trans rfl
        have v5 : ((w7.setCell ⟨gm, 6, none⟩ (.slice A2 m (cc1 - 7))).setCell ⟨gm, 7, none⟩ (.slice A3 (l.length - (7 + m)) (cc0 - (7 + m)))).cell? ⟨gm, 5, none⟩ = some (.int .i64 n5) := (blk_cell BG9.out 5).trans rfl
        have v6 : ((w7.setCell ⟨gm, 6, none⟩ (.slice A2 m (cc1 - 7))).setCell ⟨gm, 7, none⟩ (.slice A3 (l.length - (7 + m)) (cc0 - (7 + m)))).cell? ⟨gm, 6, none⟩ = some (.slice A2 m (cc1 - 7)) := (blk_cell BG9.out 6).trans rfl
        have v7 : ((w7.setCell ⟨gm, 6, none⟩ (.slice A2 m (cc1 - 7))).setCell ⟨gm, 7, none⟩ (.slice A3 (l.length - (7 + m)) (cc0 - (7 + m)))).cell? ⟨gm, 7, none⟩ = some (.slice A3 (l.length - (7 + m)) (cc0 - (7 + m))) := (blk_cell BG9.out 7).trans rfl
        have hcm := HCM.out; have hcf := HCF.out; go_wp2_with (go_at_call 50; go_loud ((with_reducible refine (HPK.out _ (Kd.F_now (hF2.out _ _ (Kd.R_F HN9.out))) (Kd.F_now (hF3.out _ _ (Kd.R_F HV9.out)))).mono ?_); rintro e w10 ⟨rfl, hb10⟩; have BK10 := Aside0.mk (blk_below BK9.out hb10); have HB10 := Aside0.mk (below_then HB9.out HB9.out.size hb10); have BG10 := Aside0.mk (blk_below BG9.out hb10); have HN10 := Aside0.mk (Kd.R_below HN9.out hb10); have HV10 := Aside0.mk (Kd.R_below HV9.out hb10); clear hb10 y6 x6 y7 x7 v0 v1 v2 v3 v4 v5 v6 v7; have z0 : w10.cell? ⟨g0, 0, none⟩ = some (.int .i64 0) := (blk_cell BK10.out 0).trans rfl; have f0 := blk_frozen BK10.out 0; have z1 : w10.cell? ⟨g0, 1, none⟩ = some (.int .i64 0) := (blk_cell BK10.out 1).trans rfl; have f1 := blk_frozen BK10.out 1; have z2 : w10.cell? ⟨g0, 2, none⟩ = some (.int .i64 0) := (blk_cell BK10.out 2).trans rfl; have f2 := blk_frozen BK10.out 2; have z3 : w10.cell? ⟨g0, 3, none⟩ = some (.int .i64 0) := (blk_cell BK10.out 3).trans rfl; have f3 := blk_frozen BK10.out 3; have z4 : w10.cell? ⟨g0, 4, none⟩ = some (.int .i64 0) := (blk_cell BK10.out 4).trans rfl; have f4 := blk_frozen BK10.out 4; have z5 : w10.cell? ⟨g0, 5, none⟩ = some (.int .i64 0) := (blk_cell BK10.out 5).trans rfl; have f5 := blk_frozen BK10.out 5; have z6 : w10.cell? ⟨g0, 6, none⟩ = some (.slice none 0 0) := (blk_cell BK10.out 6).trans rfl; have f6 := blk_frozen BK10.out 6; have z7 : w10.cell? ⟨g0, 7, none⟩ = some (.slice none 0 0) := (blk_cell BK10.out 7).trans rfl; have f7 := blk_frozen BK10.out 7; have u0 : w10.cell? ⟨gm, 0, none⟩ = some (.int .i64 n0) := (blk_cell BG10.out 0).trans rfl; have u1 : w10.cell? ⟨gm, 1, none⟩ = some (.int .i64 n1) := (blk_cell BG10.out 1).trans rfl; have u2 : w10.cell? ⟨gm, 2, none⟩ = some (.int .i64 n2) := (blk_cell BG10.out 2).trans rfl; have u3 : w10.cell? ⟨gm, 3, none⟩ = some (.int .i64 n3) := (blk_cell BG10.out 3).trans rfl; have u4 : w10.cell? ⟨gm, 4, none⟩ = some (.int .i64 n4) := (blk_cell BG10.out 4).trans rfl; have u5 : w10.cell? ⟨gm, 5, none⟩ = some (.int .i64 n5) := (blk_cell BG10.out 5).trans rfl; have u6 : w10.cell? ⟨gm, 6, none⟩ = some (.slice A2 m (cc1 - 7)) := (blk_cell BG10.out 6).trans rfl; have u7 : w10.cell? ⟨gm, 7, none⟩ = some (.slice A3 (l.length - (7 + m)) (cc0 - (7 + m))) := (blk_cell BG10.out 7).trans rfl))
        try simp only [Exit.inBlock, Exit.then]
      · refine bodyPost_ret (results_ct rfl _ _ g0 45 #[.int .i64 0, .int .i64 0, .int .i64 0, .int .i64 0, .int .i64 0, .int .i64 0, .slice none 0 0, .slice none 0 0] (0, 0) _ rfl (put8 BK10.out) hu45 rfl (by kernel_rfl)) rfl ?_
        exact ⟨fun _ h => absurd h hnp, fun _ => ⟨rfl, below8 HB10.out GE.out⟩, fun _ => ⟨rfl, below8 HB10.out GE.out⟩⟩
      · refine bodyPost_ret (results_ct rfl _ _ g0 45 #[.int .i64 0, .int .i64 0, .int .i64 0, .int .i64 0, .int .i64 0, .int .i64 0, .slice none 0 0, .slice none 0 0] (0, 0) _ rfl (put8 BK10.out) hu45 rfl (by kernel_rfl)) rfl ?_
        exact ⟨fun _ h => absurd h hnp, fun _ => ⟨rfl, below8 HB10.out GE.out⟩, fun _ => ⟨rfl, below8 HB10.out GE.out⟩⟩
      · refine bodyPost_ret (results_ct rfl _ _ g0 45 #[.int .i64 n0, .int .i64 n1, .int .i64 n2, .int .i64 n3, .int .i64 n4, .int .i64 n5, .slice A2 m (cc1 - 7), .slice A3 (l.length - (7 + m)) (cc0 - (7 + m))] (0, 0) _ rfl (put8 BK10.out) hu45 rfl (by kernel_rfl)) rfl ?_
        have hN10 := Kd.R_mono (Kd.R_step (Kd.R_types (Kd.R_bound HN10.out) BK10.out (by decide)) (fun k hk _ => far8 (d0 := .int .i64 n0) (d1 := .int .i64 n1) (d2 := .int .i64 n2) (d3 := .int .i64 n3) (d4 := .int .i64 n4) (d5 := .int .i64 n5) (d6 := .slice A2 m (cc1 - 7)) (d7 := .slice A3 (l.length - (7 + m)) (cc0 - (7 + m))) hk.2)) (ok' := fun k => w.heap.size ≤ k) (fun k hk => hk.1.2.1)
        have hV10 := Kd.R_mono (Kd.R_step (Kd.R_types (Kd.R_bound HV10.out) BK10.out (by decide)) (fun k hk _ => far8 (d0 := .int .i64 n0) (d1 := .int .i64 n1) (d2 := .int .i64 n2) (d3 := .int .i64 n3) (d4 := .int .i64 n4) (d5 := .int .i64 n5) (d6 := .slice A2 m (cc1 - 7)) (d7 := .slice A3 (l.length - (7 + m)) (cc0 - (7 + m))) hk.2)) (ok' := fun k => w.heap.size ≤ k) (fun k hk => Nat.le_trans HS1.out hk.1.2.1)
        refine ⟨fun _ _ => ?_, fun h => absurd hyc h, fun h => absurd hyp h⟩
        rw [HM.out]
        refine ⟨_, _, rfl, ⟨A2, cc1 - 7, by rw [HMS.out], by rw [HMS.out]; have := HMN.out; have := HCC.out; omega, hF2.out _ _ (Kd.R_F hN10)⟩, ⟨A3, cc0 - (7 + m), by rw [HTS.out], by rw [HTS.out]; have := HCL.out; omega, hF3.out _ _ (Kd.R_F hV10)⟩, below8 HB10.out GE.out⟩
      · refine bodyPost_ret (results_ct rfl _ _ g0 45 #[.int .i64 0, .int .i64 0, .int .i64 0, .int .i64 0, .int .i64 0, .int .i64 0, .slice none 0 0, .slice none 0 0] (0, 0) _ rfl (put8 BK10.out) hu45 rfl (by kernel_rfl)) rfl ?_
        exact ⟨fun _ h => absurd h hnp, fun _ => ⟨rfl, below8 HB10.out GE.out⟩, fun _ => ⟨rfl, below8 HB10.out GE.out⟩⟩
      · refine bodyPost_ret (results_ct rfl _ _ g0 45 #[.int .i64 0, .int .i64 0, .int .i64 0, .int .i64 0, .int .i64 0, .int .i64 0, .slice none 0 0, .slice none 0 0] (0, 0) _ rfl (put8 BK10.out) hu45 rfl (by kernel_rfl)) rfl ?_
        exact ⟨fun _ h => absurd h hnp, fun _ => ⟨rfl, below8 HB10.out GE.out⟩, fun _ => ⟨rfl, below8 HB10.out GE.out⟩⟩
      · refine bodyPost_ret (results_ct rfl _ _ g0 45 #[.int .i64 n0, .int .i64 n1, .int .i64 n2, .int .i64 n3, .int .i64 n4, .int .i64 n5, .slice A2 m (cc1 - 7), .slice A3 (l.length - (7 + m)) (cc0 - (7 + m))] (0, 0) _ rfl (put8 BK10.out) hu45 rfl (by kernel_rfl)) rfl ?_
        have hN10 := Kd.R_mono (Kd.R_step (Kd.R_types (Kd.R_bound HN10.out) BK10.out (by decide)) (fun k hk _ => far8 (d0 := .int .i64 n0) (d1 := .int .i64 n1) (d2 := .int .i64 n2) (d3 := .int .i64 n3) (d4 := .int .i64 n4) (d5 := .int .i64 n5) (d6 := .slice A2 m (cc1 - 7)) (d7 := .slice A3 (l.length - (7 + m)) (cc0 - (7 + m))) hk.2)) (ok' := fun k => w.heap.size ≤ k) (fun k hk => hk.1.2.1)
        have hV10 := Kd.R_mono (Kd.R_step (Kd.R_types (Kd.R_bound HV10.out) BK10.out (by decide)) (fun k hk _ => far8 (d0 := .int .i64 n0) (d1 := .int .i64 n1) (d2 := .int .i64 n2) (d3 := .int .i64 n3) (d4 := .int .i64 n4) (d5 := .int .i64 n5) (d6 := .slice A2 m (cc1 - 7)) (d7 := .slice A3 (l.length - (7 + m)) (cc0 - (7 + m))) hk.2)) (ok' := fun k => w.heap.size ≤ k) (fun k hk => Nat.le_trans HS1.out hk.1.2.1)
        refine ⟨fun _ _ => ?_, fun h => absurd hyc h, fun h => absurd hyp h⟩
        rw [HM.out]
        refine ⟨_, _, rfl, ⟨A2, cc1 - 7, by rw [HMS.out], by rw [HMS.out]; have := HMN.out; have := HCC.out; omega, hF2.out _ _ (Kd.R_F hN10)⟩, ⟨A3, cc0 - (7 + m), by rw [HTS.out], by rw [HTS.out]; have := HCL.out; omega, hF3.out _ _ (Kd.R_F hV10)⟩, below8 HB10.out GE.out⟩
theorem low_numK : ∀ (l : List ByteArray), (numK l).2 = true → (numK l).1 = l.map low32
  | [], _ => rfl
  | t :: l, h => by
    rw [numK] at h ⊢
    split at h
    case isFalse => exact absurd h (by decide)
    rename_i c
    rw [if_pos c]
    split at h
    case isFalse => exact absurd h (by decide)
    rename_i d
    rw [if_pos d]
    have hv : low32 t = (valF t).1 := Int.emod_eq_of_lt (valF_pos t) (by have := c.2.1; omega)
    show (valF t).1 :: (numK l).1 = low32 t :: l.map low32
    rw [hv, low_numK l d]
theorem rd_low (l : List ByteArray) (k : Nat) (h : k < 7) : rd ((l.take 7).map low32) (k : Int) = rd (lowN l) (k : Int) := by
  unfold rd lowN
  show ((l.take 7).map low32).getD k 0 = ((l.take 15).map low32).getD k 0
  rw [List.getD_eq_getElem?_getD, List.getD_eq_getElem?_getD, List.getElem?_map, List.getElem?_map, List.getElem?_take_of_lt h, List.getElem?_take_of_lt (by omega)]
theorem unpackU_eq (t : ByteArray) : unpackU t = unpackM t := by
  rcases unpack_codes t with c | c
  · obtain ⟨h1, _⟩ := unpack_sound c
    have hd : unpackM t = if (rowN 150 t).2 = 0 ∧ 7 ≤ (rowN 150 t).1.length then
      (if (numK ((rowN 150 t).1.take 7)).2 = true ∧ rd (numK ((rowN 150 t).1.take 7)).1 6 ≤ mn (((rowN 150 t).1.length : Int) - 7) 8 then
        (if (numK (((rowN 150 t).1.drop 7).take (rd (numK ((rowN 150 t).1.take 7)).1 6).toNat)).2 = true ∧ rightM (msgOf (rowN 150 t).1) = true then (msgOf (rowN 150 t).1, 0) else (zeroM, 2)) else (zeroM, 2)) else (zeroM, 2) := rfl
    unfold unpackU
    generalize (rowN 150 t).1 = l at hd ⊢
    generalize (rowN 150 t).2 = err at hd ⊢
    by_cases c1 : err = 0 ∧ 7 ≤ l.length
    case neg => rw [if_neg c1] at hd; rw [hd] at c; exact absurd c (by decide)
    rw [if_pos c1] at hd ⊢
    by_cases c2 : (numK (l.take 7)).2 = true ∧ rd (numK (l.take 7)).1 6 ≤ mn ((l.length : Int) - 7) 8
    case neg => rw [if_neg c2] at hd; rw [hd] at c; exact absurd c (by decide)
    rw [if_pos c2] at hd
    by_cases c3 : (numK ((l.drop 7).take (rd (numK (l.take 7)).1 6).toNat)).2 = true ∧ rightM (msgOf l) = true
    case neg => rw [if_neg c3] at hd; rw [hd] at c; exact absurd c (by decide)
    rw [if_pos c3] at hd
    have k7 := low_numK _ c2.1
    have k8 := low_numK _ c3.1
    have hm : msgU l = msgOf l := by
      unfold msgU msgOf
      rw [k8, k7, show rd ((l.take 7).map low32) 0 = rd (lowN l) 0 from rd_low l 0 (by decide), show rd ((l.take 7).map low32) 1 = rd (lowN l) 1 from rd_low l 1 (by decide), show rd ((l.take 7).map low32) 2 = rd (lowN l) 2 from rd_low l 2 (by decide), show rd ((l.take 7).map low32) 3 = rd (lowN l) 3 from rd_low l 3 (by decide), show rd ((l.take 7).map low32) 4 = rd (lowN l) 4 from rd_low l 4 (by decide), show rd ((l.take 7).map low32) 5 = rd (lowN l) 5 from rd_low l 5 (by decide), show rd ((l.take 7).map low32) 6 = rd (lowN l) 6 from rd_low l 6 (by decide)]
      have h8 : (rd (lowN l) 6).toNat ≤ 8 := by
        have h6 := c2.2; rw [k7, show rd ((l.take 7).map low32) 6 = rd (lowN l) 6 from rd_low l 6 (by decide)] at h6
        unfold mn at h6
        split at h6 <;> omega
      congr 1
      unfold lowN at h8 ⊢
      generalize (rd (List.map low32 (List.take 15 l)) 6).toNat = m at h8
      rw [← List.map_drop, ← List.map_take, List.drop_take, List.take_take, show min m (15 - 7) = m by omega]
    have h6 : rd (lowN l) 6 ≤ 8 ∧ 7 + rd (lowN l) 6 ≤ (l.length : Int) := by
      have h6 := c2.2; rw [k7, show rd ((l.take 7).map low32) 6 = rd (lowN l) 6 from rd_low l 6 (by decide)] at h6
      unfold mn at h6
      split at h6 <;> omega
    rw [if_pos h6, hm, hd]
    rw [hd] at h1
    rw [if_pos h1]
  · rw [c]
    unfold unpackU
    split
    · split
      · split
        · rename_i q
          have := (unpack_iff t _).mpr q
          rw [c] at this
          have h2 : (2 : Int) = 0 := congrArg Prod.snd this
          exact absurd h2 (by decide)
        · rfl
      · rfl
    · rfl
theorem gemotref4_Unpack.calls (a0 : ByteArray) (r1 : Int) (r2 : Int) (r3 : Int) (r4 : Int) (r5 : Int) (r6 : Int) (r7 : List Int) (r8 : List ByteArray) (r9 : Int) (w : World) (h : gemotref4_Unpack.f a0 = some (r1, r2, r3, r4, r5, r6, r7, r8, r9)) :
    Calls Try.prog 52 #[.string a0] w fun e w' => ∃ v6_ v7_ : Value, e = .returned (.tuple #[.agg #[.int .i64 r1, .int .i64 r2, .int .i64 r3, .int .i64 r4, .int .i64 r5, .int .i64 r6, v6_, v7_], .int .i64 r9]) ∧ Kd.V (Kd.int .i64) 3 w' w.heap.size (fun k_ => w.heap.size ≤ k_) v6_ r7 ∧ Kd.V Kd.string 9 w' w.heap.size (fun k_ => w.heap.size ≤ k_) v7_ r8 ∧ Below w.heap.size w w' := by
  unfold gemotref4_Unpack.f at h
  split at h
  case isFalse => cases h
  rename_i hs
  have hbad : ∀ {e w'}, list_Unpack.Bad w e w' → unpackM a0 = (zeroM, 2) → ∃ v6_ v7_ : Value, e = .returned (.tuple #[.agg #[.int .i64 r1, .int .i64 r2, .int .i64 r3, .int .i64 r4, .int .i64 r5, .int .i64 r6, v6_, v7_], .int .i64 r9]) ∧ Kd.V (Kd.int .i64) 3 w' w.heap.size (fun k_ => w.heap.size ≤ k_) v6_ r7 ∧ Kd.V Kd.string 9 w' w.heap.size (fun k_ => w.heap.size ≤ k_) v7_ r8 ∧ Below w.heap.size w w' := by
    intro e w' hb hz; rw [hz] at h
    simp only [zeroM, Option.some.injEq, Prod.mk.injEq] at h; obtain ⟨rfl, rfl, rfl, rfl, rfl, rfl, rfl, rfl, rfl⟩ := h; exact ⟨_, _, hb.1, Kd.V_nil _ _ _ _ _, Kd.V_nil _ _ _ _ _, hb.2⟩
  have hgood : ∀ {m e w'}, list_Unpack.Good w m e w' → unpackM a0 = (m, 0) → ∃ v6_ v7_ : Value, e = .returned (.tuple #[.agg #[.int .i64 r1, .int .i64 r2, .int .i64 r3, .int .i64 r4, .int .i64 r5, .int .i64 r6, v6_, v7_], .int .i64 r9]) ∧ Kd.V (Kd.int .i64) 3 w' w.heap.size (fun k_ => w.heap.size ≤ k_) v6_ r7 ∧ Kd.V Kd.string 9 w' w.heap.size (fun k_ => w.heap.size ≤ k_) v7_ r8 ∧ Below w.heap.size w w' := by
    intro m e w' hb hz; rw [hz] at h
    simp only [Option.some.injEq, Prod.mk.injEq] at h; obtain ⟨rfl, rfl, rfl, rfl, rfl, rfl, rfl, rfl, rfl⟩ := h; exact hb
  obtain ⟨hl, hlx'⟩ := row_small 150 a0
  have hlx : ∀ x ∈ (rowN 150 a0).1, x.size < 9223372036854775808 := fun x hx => Nat.lt_of_le_of_lt (hlx' x hx) hs
  obtain ⟨l, err, hT⟩ : ∃ l err, rowN 150 a0 = (l, err) := ⟨_, _, rfl⟩
  have hu := unpackU_eq a0
  unfold unpackU at hu
  rw [hT] at hl hlx hu
  replace hl : l.length ≤ 150 := hl
  replace hlx : ∀ x ∈ l, x.size < 9223372036854775808 := hlx
  by_cases c0 : err = 0
  case neg => exact (gemotref4_Unpack.b2 a0 w hs l err hT c0).mono (fun e w' hb => hbad hb (by rw [← hu, if_neg (fun q => c0 q.1)]))
  subst c0; by_cases c1 : 7 ≤ l.length
  case neg => exact (gemotref4_Unpack.b1 a0 w hs l hT (by omega)).mono (fun e w' hb => hbad hb (by rw [← hu, if_neg (fun q => c1 q.2)]))
  rw [if_pos ⟨rfl, c1⟩] at hu
  refine (gemotref4_Unpack.main a0 w hs l hT c1 hl hlx).mono (fun e w' hp => ?_)
  by_cases c2 : rd (lowN l) 6 ≤ 8 ∧ 7 + rd (lowN l) 6 ≤ (l.length : Int)
  case neg => exact hbad (hp.2.1 c2) (by rw [← hu, if_neg c2])
  rw [if_pos c2] at hu
  by_cases c3 : packM (msgU l) = (a0, 0)
  case neg => exact hbad (hp.2.2 c3) (by rw [← hu, if_neg c3])
  rw [if_pos c3] at hu
  exact hgood (hp.1 c2 c3) hu.symm
end Go.Proofs.Ytpfpmjdifnoeoaa.F
