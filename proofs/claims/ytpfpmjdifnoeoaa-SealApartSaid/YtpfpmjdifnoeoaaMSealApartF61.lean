import Derived.Test.YtpfpmjdifnoeoaaMSealApartF0
import Derived.Test.YtpfpmjdifnoeoaaMSealApartB3
import Derived.Test.YtpfpmjdifnoeoaaMSealApartF57
import Derived.Defers
import Derived.Recover
import Derived.Laws.Pointers
import Derived.RegionTactic
import Derived.BigRegion
namespace Go.Proofs.Ytpfpmjdifnoeoaa.F
open Go.RowKit Go.Proofs.YtpfpmjdifnoeoaaW.PrintWords Go.Proofs.YtpfpmjdifnoeoaaW.PrintLast Go.Proofs.YtpfpmjdifnoeoaaW.PrintMore
attribute [local go_sem] max2_int min2_int max_two min_two max_three min_three max_four min_four
set_option linter.unusedVariables false
set_option linter.unusedSimpArgs false
open Go.Proofs.Ytpfpmjdifnoeoaa.Pure
def openF (key : ByteArray) (e c : Int) (l : List Int) (s n : Int) (t : ByteArray) : ByteArray × Int :=
  if (nonceF e c l s n).2 = 0 then
    (if (openP t key).2.2 = 0 then
      (if (openP t key).1 = (nonceF e c l s n).1 then
        (if (saidF (openP t key).2.1).2 = true then ((saidF (openP t key).2.1).1, 0) else (⟨#[]⟩, 2))
      else (⟨#[]⟩, 7))
    else (⟨#[]⟩, (openP t key).2.2))
  else (⟨#[]⟩, (nonceF e c l s n).2)
theorem openP_size {t key : ByteArray} (h : t.size < 9223372036854775808) : (openP t key).1.size < 9223372036854775808 ∧ (openP t key).2.1.size < 9223372036854775808 := by
  have h0 : (⟨#[]⟩ : ByteArray).size < 9223372036854775808 := by decide
  have hk : ∀ i : Int, (rdOf ByteArray.empty (kidsF t) i).size < 9223372036854775808 ∨ kindF t ≠ 115 := by
    intro i; by_cases c : kindF t = 115
    · left
      have hr := (kind_right c (by decide)).1
      unfold rdOf
      rw [List.getD_eq_getElem?_getD]
      rcases Nat.lt_or_ge i.toNat (kidsF t).length with q | q
      · rw [List.getElem?_eq_getElem q]
        have := (kids_right hr _ (List.getElem_mem q)).2.1
        show ((kidsF t)[i.toNat]).size < _
        omega
      · rw [List.getElem?_eq_none q]; exact h0
    · exact .inr c
  unfold openP
  split
  · rename_i c
    split
    · exact ⟨(hk 1).resolve_right (fun q => q c), (hk 2).resolve_right (fun q => q c)⟩
    · exact ⟨h0, h0⟩
  · exact ⟨h0, h0⟩
def seal_Open.f (key : ByteArray) (e c : Int) (l : List Int) (s n : Int) (t : ByteArray) : Option (ByteArray × Int) := if l.length < 1099511627776 ∧ t.size < 9223372036854775808 then some (openF key e c l s n t) else none
theorem seal_Open.clos_ok (pe pt : Addr) (x : ByteArray) (u : FrameMode) (w : World) (he : w.cell? pe = some (.int .i64 0)) (ht : w.cell? pt = some (.string x)) :
    CallsD Try.prog 122 #[.pointer (some pe), .pointer (some pt)] u w fun e u' w' => u' = u ∧ (e = .returned (.tuple #[]) ∧ w' = w) := by
  go_enter_d Try.func122, Try.ntmps122
  go_wp2; go_end0
  exact ⟨rfl, rfl⟩
theorem seal_Open.clos_bad (pe pt : Addr) (r : Int) (hr : (r == 0) = false) (hr2 : (r != 0) = true) (x : ByteArray) (u : FrameMode) (w : World) (he : w.cell? pe = some (.int .i64 r)) (ht : w.cell? pt = some (.string x)) (hf : w.frozen? pt = false) :
    CallsD Try.prog 122 #[.pointer (some pe), .pointer (some pt)] u w fun e u' w' => u' = u ∧ (e = .returned (.tuple #[]) ∧ w' = w.setCell pt (.string ⟨#[]⟩)) := by
  go_enter_d Try.func122, Try.ntmps122
  go_wp2; go_end0
  exact ⟨rfl, rfl⟩
def seal_Open.End (w : World) (r : ByteArray) (x : Int) (e : Ending) (w' : World) : Prop := e = .returned (.tuple #[.string r, .int .i64 x]) ∧ Below w.heap.size w w'
theorem put1 {W : World} {g t : Nat} {c u : Value} (h : W.heap[g]? = some (.cells #[c] t (0, 0))) : (W.setCell ⟨g, 0, none⟩ u).heap[g]? = some (.cells #[u] t (0, 0)) := blk_put h 0 u rfl
theorem seal_Open.res (tmps : Array Value) (W : World) (gt ge : Nat) (r : ByteArray) (x : Int) (h10 : tmps.getD 10 undef = .pointer (some ⟨gt, 0, none⟩)) (h11 : tmps.getD 11 undef = .pointer (some ⟨ge, 0, none⟩)) (ht : W.cell? ⟨gt, 0, none⟩ = some (.string r)) (he : W.cell? ⟨ge, 0, none⟩ = some (.int .i64 x)) :
    (results Try.f61 tmps).run Try.prog W = .ok (.tuple #[.string r, .int .i64 x]) W := by
  have h10' : tmps[10]?.getD undef = .pointer (some ⟨gt, 0, none⟩) := by simpa using h10
  have h11' : tmps[11]?.getD undef = .pointer (some ⟨ge, 0, none⟩) := by simpa using h11
  simp [results, Try.results61, go_sem, h10', h11', ht, he]
set_option maxHeartbeats 4000000 in
set_option maxRecDepth 100000 in
theorem seal_Open.w1 (key : ByteArray) (e c : Int) (A : Option Addr) (cc : Nat) (l : List Int) (s n : Int) (t : ByteArray) (w : World) (hr : Kd.C (Kd.int .i64) w A l.length l) (hc : l.length ≤ cc) (hl : l.length < 1099511627776) (hs : t.size < 9223372036854775808) (r1 : ByteArray) (r2 : Int) (hN : nonceF e c l s n = (r1, r2)) (h : ¬ r2 = 0) :
    Calls Try.prog 61 #[.string key, .agg #[.int .i64 e, .int .i64 c, .slice A l.length cc], .int .i64 s, .int .i64 n, .string t] w (seal_Open.End w ⟨#[]⟩ r2) := by
  have HN := Aside0.mk (fun (W : World) (hr : Kd.C (Kd.int .i64) W A l.length l) => seal_Nonce.calls e c A cc l s n r1 r2 W hr hc (by unfold seal_Nonce.f; rw [if_pos hl, hN]))
  have HR := Aside0.mk hr
  have HB := Aside0.mk (Below.refl w.heap.size w)
  have hu := Try.underlying65; have hmf : ∀ (fn : Fn) (first cap : Array Value) (w : World), (Instr.makeFunc fn first cap).run Try.prog w = .ok (.func fn first cap) w := fun _ _ _ _ => rfl
  have e1 : (r2 == 0) = false := beq_eq_false_iff_ne.mpr h
  have e2 : (r2 != 0) = true := bne_iff_ne.mpr h
  clear hN hr hc hl hs h; go_enter_defers Try.func61, Try.ntmps61
  go_wp2_with (first
    | ((with_reducible refine gate_dst (N := 6) rfl ?_); refine box_event ?hg (N := 6) ?hd (cs := #[.int .i64 e, .int .i64 c, .slice A l.length cc]) (t := 65) ?hr ?_; (case hd => rfl); (case hg => rfl); (case hr => first | (go_simp; done) | (go_simp; rfl)); intro gv hg w1 hbox hb; have BV := Aside0.mk hbox; have HB1 := Aside0.mk (below_step HB.out hb); clear hb hbox hg)
    | ((with_reducible refine gate_dst (N := 10) rfl ?_); refine box_event ?hg (N := 10) ?hd (cs := #[.string ⟨#[]⟩]) (t := 9) ?hr ?_; (case hd => rfl); (case hg => rfl); (case hr => first | (go_simp; done) | (go_simp; rfl)); intro gt hg w2 hbox hb; have BV2 := Aside0.mk (blk_below BV.out hb); have BT2 := Aside0.mk hbox; have HB2 := Aside0.mk (below_step HB1.out hb); have GT := Aside0.mk (show w.heap.size ≤ gt by rw [hg]; exact HB1.out.size); clear hb hbox hg)
    | ((with_reducible refine gate_dst (N := 11) rfl ?_); refine box_event ?hg (N := 11) ?hd (cs := #[.int .i64 0]) (t := 24) ?hr ?_; (case hd => rfl); (case hg => rfl); (case hr => first | (go_simp; done) | (go_simp; rfl)); intro ge hg w3 hbox hb; have BV3 := Aside0.mk (blk_below BV2.out hb); have BT3 := Aside0.mk (blk_below BT2.out hb); have BE3 := Aside0.mk hbox; have HB3 := Aside0.mk (below_step HB2.out hb); have GE := Aside0.mk (show w.heap.size ≤ ge by rw [hg]; exact HB2.out.size); have hne : gt ≠ ge := (by rw [hg]; exact Nat.ne_of_lt (blk_lt BT2.out)); have hne2 := hne.symm; clear hb hbox hg; have v0 : w3.cell? ⟨gv, 0, none⟩ = some (.int .i64 e) := (blk_cell BV3.out 0).trans rfl; have v1 : w3.cell? ⟨gv, 1, none⟩ = some (.int .i64 c) := (blk_cell BV3.out 1).trans rfl; have v2 : w3.cell? ⟨gv, 2, none⟩ = some (.slice A l.length cc) := (blk_cell BV3.out 2).trans rfl)
    | (go_at_call 57; go_loud (refine (HN.out _ (Kd.C_below HR.out HB3.out)).mono ?_; rintro e_ w4 ⟨rfl, hb4⟩; have BT4 := Aside0.mk (blk_below BT3.out hb4); have BE4 := Aside0.mk (blk_below BE3.out hb4); have HB4 := Aside0.mk (below_then HB3.out HB3.out.size hb4); clear hb4; have ct4 : w4.cell? ⟨gt, 0, none⟩ = some (.string ⟨#[]⟩) := (blk_cell BT4.out 0).trans rfl; have ce4 : w4.cell? ⟨ge, 0, none⟩ = some (.int .i64 0) := (blk_cell BE4.out 0).trans rfl; have ft4 := blk_frozen BT4.out 0; have fe4 := blk_frozen BE4.out 0)))
  go_region
  all_goals
    go_wp2; refine leaves_cons (f := 122) (args := #[.pointer (some ⟨ge, 0, none⟩), .pointer (some ⟨gt, 0, none⟩)]) (by simp) (by simp [go_sem]) ?_
    refine (seal_Open.clos_bad ⟨ge, 0, none⟩ ⟨gt, 0, none⟩ r2 e1 e2 ⟨#[]⟩ .returning _ ?_ ?_ ?_).mono ?_
    · exact (blk_cell (cs := #[.int .i64 r2]) (t := 24) (by repeat (with_reducible first | exact BE4.out | refine blk_drew ?_ | apply put1 | refine blk_far ?_ hne2 _)) 0).trans rfl
    · exact (blk_cell (cs := #[.string ⟨#[]⟩]) (t := 9) (by repeat (with_reducible first | exact BT4.out | refine blk_drew ?_ | apply put1 | refine blk_far ?_ hne _)) 0).trans rfl
    · exact blk_frozen (cs := #[.string ⟨#[]⟩]) (t := 9) (by repeat (with_reducible first | exact BT4.out | refine blk_drew ?_ | apply put1 | refine blk_far ?_ hne _)) 0
    rintro e_ u' w'' ⟨rfl, rfl, rfl⟩; refine ⟨.tuple #[.string ⟨#[]⟩, .int .i64 r2], ?_, ?_⟩
    · refine seal_Open.res _ _ gt ge _ _ rfl rfl ?_ ?_
      · exact (blk_cell (cs := #[.string ⟨#[]⟩]) (t := 9) (by repeat (with_reducible first | exact BT4.out | refine blk_drew ?_ | apply put1 | refine blk_far ?_ hne _)) 0).trans rfl
      · exact (blk_cell (cs := #[.int .i64 r2]) (t := 24) (by repeat (with_reducible first | exact BE4.out | refine blk_drew ?_ | apply put1 | refine blk_far ?_ hne2 _)) 0).trans rfl
    · exact ⟨rfl, below_set (below_drew1 (below_set (below_set (below_set HB4.out GE.out) GT.out) GE.out)) GT.out⟩
set_option maxHeartbeats 4000000 in
set_option maxRecDepth 100000 in
theorem seal_Open.w2 (key : ByteArray) (e c : Int) (A : Option Addr) (cc : Nat) (l : List Int) (s n : Int) (t : ByteArray) (w : World) (hr : Kd.C (Kd.int .i64) w A l.length l) (hc : l.length ≤ cc) (hl : l.length < 1099511627776) (hs : t.size < 9223372036854775808) (r1 : ByteArray) (r2 : Int) (hr2 : r2 = 0) (hN : nonceF e c l s n = (r1, r2)) (o1 o2 : ByteArray) (x : Int) (hO : openP t key = (o1, o2, x)) (h : ¬ x = 0) :
    Calls Try.prog 61 #[.string key, .agg #[.int .i64 e, .int .i64 c, .slice A l.length cc], .int .i64 s, .int .i64 n, .string t] w (seal_Open.End w ⟨#[]⟩ x) := by
  have HN := Aside0.mk (fun (W : World) (hr : Kd.C (Kd.int .i64) W A l.length l) => seal_Nonce.calls e c A cc l s n r1 r2 W hr hc (by unfold seal_Nonce.f; rw [if_pos hl, hN]))
  have HR := Aside0.mk hr
  have HB := Aside0.mk (Below.refl w.heap.size w)
  have hu := Try.underlying65; have hmf : ∀ (fn : Fn) (first cap : Array Value) (w : World), (Instr.makeFunc fn first cap).run Try.prog w = .ok (.func fn first cap) w := fun _ _ _ _ => rfl
  have HO := Aside0.mk (fun (W : World) => parts_Open.calls t key o1 o2 x W (by unfold parts_Open.f; rw [if_pos hs, hO]))
  have e1 : (x == 0) = false := beq_eq_false_iff_ne.mpr h
  have e2 : (x != 0) = true := bne_iff_ne.mpr h
  subst hr2; clear hN hr hc hl hs h hO; go_enter_defers Try.func61, Try.ntmps61
  go_wp2_with (first
    | ((with_reducible refine gate_dst (N := 6) rfl ?_); refine box_event ?hg (N := 6) ?hd (cs := #[.int .i64 e, .int .i64 c, .slice A l.length cc]) (t := 65) ?hr ?_; (case hd => rfl); (case hg => rfl); (case hr => first | (go_simp; done) | (go_simp; rfl)); intro gv hg w1 hbox hb; have BV := Aside0.mk hbox; have HB1 := Aside0.mk (below_step HB.out hb); clear hb hbox hg)
    | ((with_reducible refine gate_dst (N := 10) rfl ?_); refine box_event ?hg (N := 10) ?hd (cs := #[.string ⟨#[]⟩]) (t := 9) ?hr ?_; (case hd => rfl); (case hg => rfl); (case hr => first | (go_simp; done) | (go_simp; rfl)); intro gt hg w2 hbox hb; have BV2 := Aside0.mk (blk_below BV.out hb); have BT2 := Aside0.mk hbox; have HB2 := Aside0.mk (below_step HB1.out hb); have GT := Aside0.mk (show w.heap.size ≤ gt by rw [hg]; exact HB1.out.size); clear hb hbox hg)
    | ((with_reducible refine gate_dst (N := 11) rfl ?_); refine box_event ?hg (N := 11) ?hd (cs := #[.int .i64 0]) (t := 24) ?hr ?_; (case hd => rfl); (case hg => rfl); (case hr => first | (go_simp; done) | (go_simp; rfl)); intro ge hg w3 hbox hb; have BV3 := Aside0.mk (blk_below BV2.out hb); have BT3 := Aside0.mk (blk_below BT2.out hb); have BE3 := Aside0.mk hbox; have HB3 := Aside0.mk (below_step HB2.out hb); have GE := Aside0.mk (show w.heap.size ≤ ge by rw [hg]; exact HB2.out.size); have hne : gt ≠ ge := (by rw [hg]; exact Nat.ne_of_lt (blk_lt BT2.out)); have hne2 := hne.symm; clear hb hbox hg; have v0 : w3.cell? ⟨gv, 0, none⟩ = some (.int .i64 e) := (blk_cell BV3.out 0).trans rfl; have v1 : w3.cell? ⟨gv, 1, none⟩ = some (.int .i64 c) := (blk_cell BV3.out 1).trans rfl; have v2 : w3.cell? ⟨gv, 2, none⟩ = some (.slice A l.length cc) := (blk_cell BV3.out 2).trans rfl)
    | (go_at_call 57; go_loud (refine (HN.out _ (Kd.C_below HR.out HB3.out)).mono ?_; rintro e_ w4 ⟨rfl, hb4⟩; have BT4 := Aside0.mk (blk_below BT3.out hb4); have BE4 := Aside0.mk (blk_below BE3.out hb4); have HB4 := Aside0.mk (below_then HB3.out HB3.out.size hb4); clear hb4; have ct4 : w4.cell? ⟨gt, 0, none⟩ = some (.string ⟨#[]⟩) := (blk_cell BT4.out 0).trans rfl; have ce4 : w4.cell? ⟨ge, 0, none⟩ = some (.int .i64 0) := (blk_cell BE4.out 0).trans rfl; have ft4 := blk_frozen BT4.out 0; have fe4 := blk_frozen BE4.out 0))
    | (go_at_call 37; go_loud (refine (HO.out _).mono ?_; rintro e_ w5 ⟨rfl, hb5⟩; have BT5 := Aside0.mk (blk_below (blk_far (p := ⟨ge, 0, none⟩) BT4.out hne (.int .i64 0)) hb5); have BE5 := Aside0.mk (blk_below (blk_put (cs' := #[.int .i64 0]) BE4.out 0 (.int .i64 0) rfl) hb5); have HB5 := Aside0.mk (below_step (below_set HB4.out GE.out) hb5); clear hb5; have ct5 : w5.cell? ⟨gt, 0, none⟩ = some (.string ⟨#[]⟩) := (blk_cell BT5.out 0).trans rfl; have ce5 : w5.cell? ⟨ge, 0, none⟩ = some (.int .i64 0) := (blk_cell BE5.out 0).trans rfl; have ft5 := blk_frozen BT5.out 0; have fe5 := blk_frozen BE5.out 0)))
  go_region
  all_goals
    go_wp2; refine leaves_cons (f := 122) (args := #[.pointer (some ⟨ge, 0, none⟩), .pointer (some ⟨gt, 0, none⟩)]) (by simp) (by simp [go_sem]) ?_
    refine (seal_Open.clos_bad ⟨ge, 0, none⟩ ⟨gt, 0, none⟩ x e1 e2 ⟨#[]⟩ .returning _ ?_ ?_ ?_).mono ?_
    · exact (blk_cell (cs := #[.int .i64 x]) (t := 24) (by repeat (with_reducible first | exact BE5.out | refine blk_drew ?_ | apply put1 | refine blk_far ?_ hne2 _)) 0).trans rfl
    · exact (blk_cell (cs := #[.string ⟨#[]⟩]) (t := 9) (by repeat (with_reducible first | exact BT5.out | refine blk_drew ?_ | apply put1 | refine blk_far ?_ hne _)) 0).trans rfl
    · exact blk_frozen (cs := #[.string ⟨#[]⟩]) (t := 9) (by repeat (with_reducible first | exact BT5.out | refine blk_drew ?_ | apply put1 | refine blk_far ?_ hne _)) 0
    rintro e_ u' w'' ⟨rfl, rfl, rfl⟩; refine ⟨.tuple #[.string ⟨#[]⟩, .int .i64 x], ?_, ?_⟩
    · refine seal_Open.res _ _ gt ge _ _ rfl rfl ?_ ?_
      · exact (blk_cell (cs := #[.string ⟨#[]⟩]) (t := 9) (by repeat (with_reducible first | exact BT5.out | refine blk_drew ?_ | apply put1 | refine blk_far ?_ hne _)) 0).trans rfl
      · exact (blk_cell (cs := #[.int .i64 x]) (t := 24) (by repeat (with_reducible first | exact BE5.out | refine blk_drew ?_ | apply put1 | refine blk_far ?_ hne2 _)) 0).trans rfl
    · exact ⟨rfl, below_set (below_drew1 (below_set (below_set (below_set HB5.out GE.out) GT.out) GE.out)) GT.out⟩
set_option maxHeartbeats 4000000 in
set_option maxRecDepth 100000 in
theorem seal_Open.w3 (key : ByteArray) (e c : Int) (A : Option Addr) (cc : Nat) (l : List Int) (s n : Int) (t : ByteArray) (w : World) (hr : Kd.C (Kd.int .i64) w A l.length l) (hc : l.length ≤ cc) (hl : l.length < 1099511627776) (hs : t.size < 9223372036854775808) (r1 : ByteArray) (r2 : Int) (hr2 : r2 = 0) (hN : nonceF e c l s n = (r1, r2)) (o1 o2 : ByteArray) (x : Int) (hx : x = 0) (hO : openP t key = (o1, o2, x)) (q1 : ByteArray) (q2 : Bool) (hS : saidF o2 = (q1, q2)) (h : ¬ o1 = r1) :
    Calls Try.prog 61 #[.string key, .agg #[.int .i64 e, .int .i64 c, .slice A l.length cc], .int .i64 s, .int .i64 n, .string t] w (seal_Open.End w ⟨#[]⟩ 7) := by
  have HN := Aside0.mk (fun (W : World) (hr : Kd.C (Kd.int .i64) W A l.length l) => seal_Nonce.calls e c A cc l s n r1 r2 W hr hc (by unfold seal_Nonce.f; rw [if_pos hl, hN]))
  have HR := Aside0.mk hr
  have HB := Aside0.mk (Below.refl w.heap.size w)
  have hu := Try.underlying65; have hmf : ∀ (fn : Fn) (first cap : Array Value) (w : World), (Instr.makeFunc fn first cap).run Try.prog w = .ok (.func fn first cap) w := fun _ _ _ _ => rfl
  have HO := Aside0.mk (fun (W : World) => parts_Open.calls t key o1 o2 x W (by unfold parts_Open.f; rw [if_pos hs, hO]))
  have HS := Aside0.mk (fun (W : World) => parts_Said.calls o2 q1 q2 W (by unfold parts_Said.f; rw [if_pos (by have := openP_size (key := key) hs; rw [hO] at this; exact this.2), hS]))
  have hq : ¬ o1.toList = r1.toList := fun g => h (by rw [ByteArray.toList_eq, ByteArray.toList_eq] at g; exact ByteArray.ext (Array.ext' g))
  have e1 : (o1.toList == r1.toList) = false := beq_eq_false_iff_ne.mpr hq
  have e2 : (o1.toList != r1.toList) = true := bne_iff_ne.mpr hq
  subst hr2; subst hx; clear hN hr hc hl hs h hq hO hS; go_enter_defers Try.func61, Try.ntmps61
  go_wp2_with (first
    | ((with_reducible refine gate_dst (N := 6) rfl ?_); refine box_event ?hg (N := 6) ?hd (cs := #[.int .i64 e, .int .i64 c, .slice A l.length cc]) (t := 65) ?hr ?_; (case hd => rfl); (case hg => rfl); (case hr => first | (go_simp; done) | (go_simp; rfl)); intro gv hg w1 hbox hb; have BV := Aside0.mk hbox; have HB1 := Aside0.mk (below_step HB.out hb); clear hb hbox hg)
    | ((with_reducible refine gate_dst (N := 10) rfl ?_); refine box_event ?hg (N := 10) ?hd (cs := #[.string ⟨#[]⟩]) (t := 9) ?hr ?_; (case hd => rfl); (case hg => rfl); (case hr => first | (go_simp; done) | (go_simp; rfl)); intro gt hg w2 hbox hb; have BV2 := Aside0.mk (blk_below BV.out hb); have BT2 := Aside0.mk hbox; have HB2 := Aside0.mk (below_step HB1.out hb); have GT := Aside0.mk (show w.heap.size ≤ gt by rw [hg]; exact HB1.out.size); clear hb hbox hg)
    | ((with_reducible refine gate_dst (N := 11) rfl ?_); refine box_event ?hg (N := 11) ?hd (cs := #[.int .i64 0]) (t := 24) ?hr ?_; (case hd => rfl); (case hg => rfl); (case hr => first | (go_simp; done) | (go_simp; rfl)); intro ge hg w3 hbox hb; have BV3 := Aside0.mk (blk_below BV2.out hb); have BT3 := Aside0.mk (blk_below BT2.out hb); have BE3 := Aside0.mk hbox; have HB3 := Aside0.mk (below_step HB2.out hb); have GE := Aside0.mk (show w.heap.size ≤ ge by rw [hg]; exact HB2.out.size); have hne : gt ≠ ge := (by rw [hg]; exact Nat.ne_of_lt (blk_lt BT2.out)); have hne2 := hne.symm; clear hb hbox hg; have v0 : w3.cell? ⟨gv, 0, none⟩ = some (.int .i64 e) := (blk_cell BV3.out 0).trans rfl; have v1 : w3.cell? ⟨gv, 1, none⟩ = some (.int .i64 c) := (blk_cell BV3.out 1).trans rfl; have v2 : w3.cell? ⟨gv, 2, none⟩ = some (.slice A l.length cc) := (blk_cell BV3.out 2).trans rfl)
    | (go_at_call 57; go_loud (refine (HN.out _ (Kd.C_below HR.out HB3.out)).mono ?_; rintro e_ w4 ⟨rfl, hb4⟩; have BT4 := Aside0.mk (blk_below BT3.out hb4); have BE4 := Aside0.mk (blk_below BE3.out hb4); have HB4 := Aside0.mk (below_then HB3.out HB3.out.size hb4); clear hb4; have ct4 : w4.cell? ⟨gt, 0, none⟩ = some (.string ⟨#[]⟩) := (blk_cell BT4.out 0).trans rfl; have ce4 : w4.cell? ⟨ge, 0, none⟩ = some (.int .i64 0) := (blk_cell BE4.out 0).trans rfl; have ft4 := blk_frozen BT4.out 0; have fe4 := blk_frozen BE4.out 0))
    | (go_at_call 37; go_loud (refine (HO.out _).mono ?_; rintro e_ w5 ⟨rfl, hb5⟩; have BT5 := Aside0.mk (blk_below (blk_far (p := ⟨ge, 0, none⟩) BT4.out hne (.int .i64 0)) hb5); have BE5 := Aside0.mk (blk_below (blk_put (cs' := #[.int .i64 0]) BE4.out 0 (.int .i64 0) rfl) hb5); have HB5 := Aside0.mk (below_step (below_set HB4.out GE.out) hb5); clear hb5; have ct5 : w5.cell? ⟨gt, 0, none⟩ = some (.string ⟨#[]⟩) := (blk_cell BT5.out 0).trans rfl; have ce5 : w5.cell? ⟨ge, 0, none⟩ = some (.int .i64 0) := (blk_cell BE5.out 0).trans rfl; have ft5 := blk_frozen BT5.out 0; have fe5 := blk_frozen BE5.out 0))
    | (go_at_call 69; go_loud (refine (HS.out _).mono ?_; rintro e_ w6 ⟨rfl, hb6⟩; have BT6 := Aside0.mk (blk_below (blk_far (p := ⟨ge, 0, none⟩) BT5.out hne (.int .i64 0)) hb6); have BE6 := Aside0.mk (blk_below (blk_put (cs' := #[.int .i64 0]) BE5.out 0 (.int .i64 0) rfl) hb6); have HB6 := Aside0.mk (below_step (below_set HB5.out GE.out) hb6); clear hb6; have ct6 : w6.cell? ⟨gt, 0, none⟩ = some (.string ⟨#[]⟩) := (blk_cell BT6.out 0).trans rfl; have ce6 : w6.cell? ⟨ge, 0, none⟩ = some (.int .i64 0) := (blk_cell BE6.out 0).trans rfl; have ft6 := blk_frozen BT6.out 0; have fe6 := blk_frozen BE6.out 0)))
  go_region
  all_goals
    go_wp2; refine leaves_cons (f := 122) (args := #[.pointer (some ⟨ge, 0, none⟩), .pointer (some ⟨gt, 0, none⟩)]) (by simp) (by simp [go_sem]) ?_
    refine (seal_Open.clos_bad ⟨ge, 0, none⟩ ⟨gt, 0, none⟩ 7 rfl rfl q1 .returning _ ?_ ?_ ?_).mono ?_
    · exact (blk_cell (cs := #[.int .i64 7]) (t := 24) (by repeat (with_reducible first | exact BE6.out | refine blk_drew ?_ | apply put1 | refine blk_far ?_ hne2 _)) 0).trans rfl
    · exact (blk_cell (cs := #[.string q1]) (t := 9) (by repeat (with_reducible first | exact BT6.out | refine blk_drew ?_ | apply put1 | refine blk_far ?_ hne _)) 0).trans rfl
    · exact blk_frozen (cs := #[.string q1]) (t := 9) (by repeat (with_reducible first | exact BT6.out | refine blk_drew ?_ | apply put1 | refine blk_far ?_ hne _)) 0
    rintro e_ u' w'' ⟨rfl, rfl, rfl⟩; refine ⟨.tuple #[.string ⟨#[]⟩, .int .i64 7], ?_, ?_⟩
    · refine seal_Open.res _ _ gt ge _ _ rfl rfl ?_ ?_
      · exact (blk_cell (cs := #[.string ⟨#[]⟩]) (t := 9) (by repeat (with_reducible first | exact BT6.out | refine blk_drew ?_ | apply put1 | refine blk_far ?_ hne _)) 0).trans rfl
      · exact (blk_cell (cs := #[.int .i64 7]) (t := 24) (by repeat (with_reducible first | exact BE6.out | refine blk_drew ?_ | apply put1 | refine blk_far ?_ hne2 _)) 0).trans rfl
    · exact ⟨rfl, below_set (below_drew1 (below_set (below_set (below_set (below_set HB6.out GT.out) GE.out) GT.out) GE.out)) GT.out⟩
set_option maxHeartbeats 4000000 in
set_option maxRecDepth 100000 in
theorem seal_Open.w4 (key : ByteArray) (e c : Int) (A : Option Addr) (cc : Nat) (l : List Int) (s n : Int) (t : ByteArray) (w : World) (hr : Kd.C (Kd.int .i64) w A l.length l) (hc : l.length ≤ cc) (hl : l.length < 1099511627776) (hs : t.size < 9223372036854775808) (r1 : ByteArray) (r2 : Int) (hr2 : r2 = 0) (hN : nonceF e c l s n = (r1, r2)) (o1 o2 : ByteArray) (x : Int) (hx : x = 0) (hO : openP t key = (o1, o2, x)) (q1 : ByteArray) (hS : saidF o2 = (q1, false)) (h : o1 = r1) :
    Calls Try.prog 61 #[.string key, .agg #[.int .i64 e, .int .i64 c, .slice A l.length cc], .int .i64 s, .int .i64 n, .string t] w (seal_Open.End w ⟨#[]⟩ 2) := by
  have HN := Aside0.mk (fun (W : World) (hr : Kd.C (Kd.int .i64) W A l.length l) => seal_Nonce.calls e c A cc l s n r1 r2 W hr hc (by unfold seal_Nonce.f; rw [if_pos hl, hN]))
  have HR := Aside0.mk hr
  have HB := Aside0.mk (Below.refl w.heap.size w)
  have hu := Try.underlying65; have hmf : ∀ (fn : Fn) (first cap : Array Value) (w : World), (Instr.makeFunc fn first cap).run Try.prog w = .ok (.func fn first cap) w := fun _ _ _ _ => rfl
  have HO := Aside0.mk (fun (W : World) => parts_Open.calls t key o1 o2 x W (by unfold parts_Open.f; rw [if_pos hs, hO]))
  have HS := Aside0.mk (fun (W : World) => parts_Said.calls o2 q1 false W (by unfold parts_Said.f; rw [if_pos (by have := openP_size (key := key) hs; rw [hO] at this; exact this.2), hS]))
  have e1 : (o1.toList == r1.toList) = true := by rw [h]; exact beq_self_eq_true _
  have e2 : (o1.toList != r1.toList) = false := by rw [bne, e1]; rfl
  subst hr2; subst hx; clear hN hr hc hl hs h hO hS; go_enter_defers Try.func61, Try.ntmps61
  go_wp2_with (first
    | ((with_reducible refine gate_dst (N := 6) rfl ?_); refine box_event ?hg (N := 6) ?hd (cs := #[.int .i64 e, .int .i64 c, .slice A l.length cc]) (t := 65) ?hr ?_; (case hd => rfl); (case hg => rfl); (case hr => first | (go_simp; done) | (go_simp; rfl)); intro gv hg w1 hbox hb; have BV := Aside0.mk hbox; have HB1 := Aside0.mk (below_step HB.out hb); clear hb hbox hg)
    | ((with_reducible refine gate_dst (N := 10) rfl ?_); refine box_event ?hg (N := 10) ?hd (cs := #[.string ⟨#[]⟩]) (t := 9) ?hr ?_; (case hd => rfl); (case hg => rfl); (case hr => first | (go_simp; done) | (go_simp; rfl)); intro gt hg w2 hbox hb; have BV2 := Aside0.mk (blk_below BV.out hb); have BT2 := Aside0.mk hbox; have HB2 := Aside0.mk (below_step HB1.out hb); have GT := Aside0.mk (show w.heap.size ≤ gt by rw [hg]; exact HB1.out.size); clear hb hbox hg)
    | ((with_reducible refine gate_dst (N := 11) rfl ?_); refine box_event ?hg (N := 11) ?hd (cs := #[.int .i64 0]) (t := 24) ?hr ?_; (case hd => rfl); (case hg => rfl); (case hr => first | (go_simp; done) | (go_simp; rfl)); intro ge hg w3 hbox hb; have BV3 := Aside0.mk (blk_below BV2.out hb); have BT3 := Aside0.mk (blk_below BT2.out hb); have BE3 := Aside0.mk hbox; have HB3 := Aside0.mk (below_step HB2.out hb); have GE := Aside0.mk (show w.heap.size ≤ ge by rw [hg]; exact HB2.out.size); have hne : gt ≠ ge := (by rw [hg]; exact Nat.ne_of_lt (blk_lt BT2.out)); have hne2 := hne.symm; clear hb hbox hg; have v0 : w3.cell? ⟨gv, 0, none⟩ = some (.int .i64 e) := (blk_cell BV3.out 0).trans rfl; have v1 : w3.cell? ⟨gv, 1, none⟩ = some (.int .i64 c) := (blk_cell BV3.out 1).trans rfl; have v2 : w3.cell? ⟨gv, 2, none⟩ = some (.slice A l.length cc) := (blk_cell BV3.out 2).trans rfl)
    | (go_at_call 57; go_loud (refine (HN.out _ (Kd.C_below HR.out HB3.out)).mono ?_; rintro e_ w4 ⟨rfl, hb4⟩; have BT4 := Aside0.mk (blk_below BT3.out hb4); have BE4 := Aside0.mk (blk_below BE3.out hb4); have HB4 := Aside0.mk (below_then HB3.out HB3.out.size hb4); clear hb4; have ct4 : w4.cell? ⟨gt, 0, none⟩ = some (.string ⟨#[]⟩) := (blk_cell BT4.out 0).trans rfl; have ce4 : w4.cell? ⟨ge, 0, none⟩ = some (.int .i64 0) := (blk_cell BE4.out 0).trans rfl; have ft4 := blk_frozen BT4.out 0; have fe4 := blk_frozen BE4.out 0))
    | (go_at_call 37; go_loud (refine (HO.out _).mono ?_; rintro e_ w5 ⟨rfl, hb5⟩; have BT5 := Aside0.mk (blk_below (blk_far (p := ⟨ge, 0, none⟩) BT4.out hne (.int .i64 0)) hb5); have BE5 := Aside0.mk (blk_below (blk_put (cs' := #[.int .i64 0]) BE4.out 0 (.int .i64 0) rfl) hb5); have HB5 := Aside0.mk (below_step (below_set HB4.out GE.out) hb5); clear hb5; have ct5 : w5.cell? ⟨gt, 0, none⟩ = some (.string ⟨#[]⟩) := (blk_cell BT5.out 0).trans rfl; have ce5 : w5.cell? ⟨ge, 0, none⟩ = some (.int .i64 0) := (blk_cell BE5.out 0).trans rfl; have ft5 := blk_frozen BT5.out 0; have fe5 := blk_frozen BE5.out 0))
    | (go_at_call 69; go_loud (refine (HS.out _).mono ?_; rintro e_ w6 ⟨rfl, hb6⟩; have BT6 := Aside0.mk (blk_below (blk_far (p := ⟨ge, 0, none⟩) BT5.out hne (.int .i64 0)) hb6); have BE6 := Aside0.mk (blk_below (blk_put (cs' := #[.int .i64 0]) BE5.out 0 (.int .i64 0) rfl) hb6); have HB6 := Aside0.mk (below_step (below_set HB5.out GE.out) hb6); clear hb6; have ct6 : w6.cell? ⟨gt, 0, none⟩ = some (.string ⟨#[]⟩) := (blk_cell BT6.out 0).trans rfl; have ce6 : w6.cell? ⟨ge, 0, none⟩ = some (.int .i64 0) := (blk_cell BE6.out 0).trans rfl; have ft6 := blk_frozen BT6.out 0; have fe6 := blk_frozen BE6.out 0)))
  go_region
  all_goals
    go_wp2; refine leaves_cons (f := 122) (args := #[.pointer (some ⟨ge, 0, none⟩), .pointer (some ⟨gt, 0, none⟩)]) (by simp) (by simp [go_sem]) ?_
    refine (seal_Open.clos_bad ⟨ge, 0, none⟩ ⟨gt, 0, none⟩ 2 rfl rfl q1 .returning _ ?_ ?_ ?_).mono ?_
    · exact (blk_cell (cs := #[.int .i64 2]) (t := 24) (by repeat (with_reducible first | exact BE6.out | refine blk_drew ?_ | apply put1 | refine blk_far ?_ hne2 _)) 0).trans rfl
    · exact (blk_cell (cs := #[.string q1]) (t := 9) (by repeat (with_reducible first | exact BT6.out | refine blk_drew ?_ | apply put1 | refine blk_far ?_ hne _)) 0).trans rfl
    · exact blk_frozen (cs := #[.string q1]) (t := 9) (by repeat (with_reducible first | exact BT6.out | refine blk_drew ?_ | apply put1 | refine blk_far ?_ hne _)) 0
    rintro e_ u' w'' ⟨rfl, rfl, rfl⟩; refine ⟨.tuple #[.string ⟨#[]⟩, .int .i64 2], ?_, ?_⟩
    · refine seal_Open.res _ _ gt ge _ _ rfl rfl ?_ ?_
      · exact (blk_cell (cs := #[.string ⟨#[]⟩]) (t := 9) (by repeat (with_reducible first | exact BT6.out | refine blk_drew ?_ | apply put1 | refine blk_far ?_ hne _)) 0).trans rfl
      · exact (blk_cell (cs := #[.int .i64 2]) (t := 24) (by repeat (with_reducible first | exact BE6.out | refine blk_drew ?_ | apply put1 | refine blk_far ?_ hne2 _)) 0).trans rfl
    · exact ⟨rfl, below_set (below_drew1 (below_set (below_set (below_set (below_set HB6.out GT.out) GE.out) GT.out) GE.out)) GT.out⟩
set_option maxHeartbeats 4000000 in
set_option maxRecDepth 100000 in
theorem seal_Open.w5 (key : ByteArray) (e c : Int) (A : Option Addr) (cc : Nat) (l : List Int) (s n : Int) (t : ByteArray) (w : World) (hr : Kd.C (Kd.int .i64) w A l.length l) (hc : l.length ≤ cc) (hl : l.length < 1099511627776) (hs : t.size < 9223372036854775808) (r1 : ByteArray) (r2 : Int) (hr2 : r2 = 0) (hN : nonceF e c l s n = (r1, r2)) (o1 o2 : ByteArray) (x : Int) (hx : x = 0) (hO : openP t key = (o1, o2, x)) (q1 : ByteArray) (hS : saidF o2 = (q1, true)) (h : o1 = r1) :
    Calls Try.prog 61 #[.string key, .agg #[.int .i64 e, .int .i64 c, .slice A l.length cc], .int .i64 s, .int .i64 n, .string t] w (seal_Open.End w q1 0) := by
  have HN := Aside0.mk (fun (W : World) (hr : Kd.C (Kd.int .i64) W A l.length l) => seal_Nonce.calls e c A cc l s n r1 r2 W hr hc (by unfold seal_Nonce.f; rw [if_pos hl, hN]))
  have HR := Aside0.mk hr
  have HB := Aside0.mk (Below.refl w.heap.size w)
  have hu := Try.underlying65; have hmf : ∀ (fn : Fn) (first cap : Array Value) (w : World), (Instr.makeFunc fn first cap).run Try.prog w = .ok (.func fn first cap) w := fun _ _ _ _ => rfl
  have HO := Aside0.mk (fun (W : World) => parts_Open.calls t key o1 o2 x W (by unfold parts_Open.f; rw [if_pos hs, hO]))
  have HS := Aside0.mk (fun (W : World) => parts_Said.calls o2 q1 true W (by unfold parts_Said.f; rw [if_pos (by have := openP_size (key := key) hs; rw [hO] at this; exact this.2), hS]))
  have e1 : (o1.toList == r1.toList) = true := by rw [h]; exact beq_self_eq_true _
  have e2 : (o1.toList != r1.toList) = false := by rw [bne, e1]; rfl
  subst hr2; subst hx; clear hN hr hc hl hs h hO hS; go_enter_defers Try.func61, Try.ntmps61
  go_wp2_with (first
    | ((with_reducible refine gate_dst (N := 6) rfl ?_); refine box_event ?hg (N := 6) ?hd (cs := #[.int .i64 e, .int .i64 c, .slice A l.length cc]) (t := 65) ?hr ?_; (case hd => rfl); (case hg => rfl); (case hr => first | (go_simp; done) | (go_simp; rfl)); intro gv hg w1 hbox hb; have BV := Aside0.mk hbox; have HB1 := Aside0.mk (below_step HB.out hb); clear hb hbox hg)
    | ((with_reducible refine gate_dst (N := 10) rfl ?_); refine box_event ?hg (N := 10) ?hd (cs := #[.string ⟨#[]⟩]) (t := 9) ?hr ?_; (case hd => rfl); (case hg => rfl); (case hr => first | (go_simp; done) | (go_simp; rfl)); intro gt hg w2 hbox hb; have BV2 := Aside0.mk (blk_below BV.out hb); have BT2 := Aside0.mk hbox; have HB2 := Aside0.mk (below_step HB1.out hb); have GT := Aside0.mk (show w.heap.size ≤ gt by rw [hg]; exact HB1.out.size); clear hb hbox hg)
    | ((with_reducible refine gate_dst (N := 11) rfl ?_); refine box_event ?hg (N := 11) ?hd (cs := #[.int .i64 0]) (t := 24) ?hr ?_; (case hd => rfl); (case hg => rfl); (case hr => first | (go_simp; done) | (go_simp; rfl)); intro ge hg w3 hbox hb; have BV3 := Aside0.mk (blk_below BV2.out hb); have BT3 := Aside0.mk (blk_below BT2.out hb); have BE3 := Aside0.mk hbox; have HB3 := Aside0.mk (below_step HB2.out hb); have GE := Aside0.mk (show w.heap.size ≤ ge by rw [hg]; exact HB2.out.size); have hne : gt ≠ ge := (by rw [hg]; exact Nat.ne_of_lt (blk_lt BT2.out)); have hne2 := hne.symm; clear hb hbox hg; have v0 : w3.cell? ⟨gv, 0, none⟩ = some (.int .i64 e) := (blk_cell BV3.out 0).trans rfl; have v1 : w3.cell? ⟨gv, 1, none⟩ = some (.int .i64 c) := (blk_cell BV3.out 1).trans rfl; have v2 : w3.cell? ⟨gv, 2, none⟩ = some (.slice A l.length cc) := (blk_cell BV3.out 2).trans rfl)
    | (go_at_call 57; go_loud (refine (HN.out _ (Kd.C_below HR.out HB3.out)).mono ?_; rintro e_ w4 ⟨rfl, hb4⟩; have BT4 := Aside0.mk (blk_below BT3.out hb4); have BE4 := Aside0.mk (blk_below BE3.out hb4); have HB4 := Aside0.mk (below_then HB3.out HB3.out.size hb4); clear hb4; have ct4 : w4.cell? ⟨gt, 0, none⟩ = some (.string ⟨#[]⟩) := (blk_cell BT4.out 0).trans rfl; have ce4 : w4.cell? ⟨ge, 0, none⟩ = some (.int .i64 0) := (blk_cell BE4.out 0).trans rfl; have ft4 := blk_frozen BT4.out 0; have fe4 := blk_frozen BE4.out 0))
    | (go_at_call 37; go_loud (refine (HO.out _).mono ?_; rintro e_ w5 ⟨rfl, hb5⟩; have BT5 := Aside0.mk (blk_below (blk_far (p := ⟨ge, 0, none⟩) BT4.out hne (.int .i64 0)) hb5); have BE5 := Aside0.mk (blk_below (blk_put (cs' := #[.int .i64 0]) BE4.out 0 (.int .i64 0) rfl) hb5); have HB5 := Aside0.mk (below_step (below_set HB4.out GE.out) hb5); clear hb5; have ct5 : w5.cell? ⟨gt, 0, none⟩ = some (.string ⟨#[]⟩) := (blk_cell BT5.out 0).trans rfl; have ce5 : w5.cell? ⟨ge, 0, none⟩ = some (.int .i64 0) := (blk_cell BE5.out 0).trans rfl; have ft5 := blk_frozen BT5.out 0; have fe5 := blk_frozen BE5.out 0))
    | (go_at_call 69; go_loud (refine (HS.out _).mono ?_; rintro e_ w6 ⟨rfl, hb6⟩; have BT6 := Aside0.mk (blk_below (blk_far (p := ⟨ge, 0, none⟩) BT5.out hne (.int .i64 0)) hb6); have BE6 := Aside0.mk (blk_below (blk_put (cs' := #[.int .i64 0]) BE5.out 0 (.int .i64 0) rfl) hb6); have HB6 := Aside0.mk (below_step (below_set HB5.out GE.out) hb6); clear hb6; have ct6 : w6.cell? ⟨gt, 0, none⟩ = some (.string ⟨#[]⟩) := (blk_cell BT6.out 0).trans rfl; have ce6 : w6.cell? ⟨ge, 0, none⟩ = some (.int .i64 0) := (blk_cell BE6.out 0).trans rfl; have ft6 := blk_frozen BT6.out 0; have fe6 := blk_frozen BE6.out 0)))
  go_region
  all_goals
    go_wp2; refine leaves_cons (f := 122) (args := #[.pointer (some ⟨ge, 0, none⟩), .pointer (some ⟨gt, 0, none⟩)]) (by simp) (by simp [go_sem]) ?_
    refine (seal_Open.clos_ok ⟨ge, 0, none⟩ ⟨gt, 0, none⟩ q1 .returning _ ?_ ?_).mono ?_
    · exact (blk_cell (cs := #[.int .i64 0]) (t := 24) (by repeat (with_reducible first | exact BE6.out | refine blk_drew ?_ | apply put1 | refine blk_far ?_ hne2 _)) 0).trans rfl
    · exact (blk_cell (cs := #[.string q1]) (t := 9) (by repeat (with_reducible first | exact BT6.out | refine blk_drew ?_ | apply put1 | refine blk_far ?_ hne _)) 0).trans rfl
    rintro e_ u' w'' ⟨rfl, rfl, rfl⟩; refine ⟨.tuple #[.string q1, .int .i64 0], ?_, ?_⟩
    · refine seal_Open.res _ _ gt ge _ _ rfl rfl ?_ ?_
      · exact (blk_cell (cs := #[.string q1]) (t := 9) (by repeat (with_reducible first | exact BT6.out | refine blk_drew ?_ | apply put1 | refine blk_far ?_ hne _)) 0).trans rfl
      · exact (blk_cell (cs := #[.int .i64 0]) (t := 24) (by repeat (with_reducible first | exact BE6.out | refine blk_drew ?_ | apply put1 | refine blk_far ?_ hne2 _)) 0).trans rfl
    · exact ⟨rfl, below_drew1 (below_set (below_set (below_set HB6.out GT.out) GT.out) GE.out)⟩
theorem seal_Open.calls (a0 : ByteArray) (a1_0 : Int) (a1_1 : Int) (A1_2 : Option Addr) (c1_2 : Nat) (l1_2 : List Int) (a2 : Int) (a3 : Int) (a4 : ByteArray) (r1 : ByteArray) (r2 : Int) (w : World) (hr1_2 : Kd.C (Kd.int .i64) w A1_2 l1_2.length l1_2) (hc1_2 : l1_2.length ≤ c1_2) (h : seal_Open.f a0 a1_0 a1_1 l1_2 a2 a3 a4 = some (r1, r2)) :
    Calls Try.prog 61 #[.string a0, .agg #[.int .i64 a1_0, .int .i64 a1_1, .slice A1_2 l1_2.length c1_2], .int .i64 a2, .int .i64 a3, .string a4] w fun e w' => e = .returned (.tuple #[.string r1, .int .i64 r2]) ∧ Below w.heap.size w w' := by
  unfold seal_Open.f at h
  split at h
  case isFalse => cases h
  rename_i hs
  replace h := Option.some.inj h
  unfold openF at h
  by_cases c1 : (nonceF a1_0 a1_1 l1_2 a2 a3).2 = 0
  case neg =>
    rw [if_neg c1] at h
    obtain ⟨rfl, rfl⟩ := Prod.mk.inj h; exact seal_Open.w1 a0 a1_0 a1_1 A1_2 c1_2 l1_2 a2 a3 a4 w hr1_2 hc1_2 hs.1 hs.2 _ _ rfl c1
  rw [if_pos c1] at h
  by_cases c2 : (openP a4 a0).2.2 = 0
  case neg =>
    rw [if_neg c2] at h
    obtain ⟨rfl, rfl⟩ := Prod.mk.inj h; exact seal_Open.w2 a0 a1_0 a1_1 A1_2 c1_2 l1_2 a2 a3 a4 w hr1_2 hc1_2 hs.1 hs.2 _ _ c1 rfl _ _ _ rfl c2
  rw [if_pos c2] at h
  by_cases c3 : (openP a4 a0).1 = (nonceF a1_0 a1_1 l1_2 a2 a3).1
  case neg =>
    rw [if_neg c3] at h
    obtain ⟨rfl, rfl⟩ := Prod.mk.inj h; exact seal_Open.w3 a0 a1_0 a1_1 A1_2 c1_2 l1_2 a2 a3 a4 w hr1_2 hc1_2 hs.1 hs.2 _ _ c1 rfl _ _ _ c2 rfl _ _ rfl c3
  rw [if_pos c3] at h
  by_cases c4 : (saidF (openP a4 a0).2.1).2 = true
  · rw [if_pos c4] at h
    obtain ⟨rfl, rfl⟩ := Prod.mk.inj h; exact seal_Open.w5 a0 a1_0 a1_1 A1_2 c1_2 l1_2 a2 a3 a4 w hr1_2 hc1_2 hs.1 hs.2 _ _ c1 rfl _ _ _ c2 rfl _ (Prod.ext rfl c4) c3
  · rw [if_neg c4] at h
    obtain ⟨rfl, rfl⟩ := Prod.mk.inj h; exact seal_Open.w4 a0 a1_0 a1_1 A1_2 c1_2 l1_2 a2 a3 a4 w hr1_2 hc1_2 hs.1 hs.2 _ _ c1 rfl _ _ _ c2 rfl _ (Prod.ext rfl (Bool.eq_false_iff.mpr c4)) c3
end Go.Proofs.Ytpfpmjdifnoeoaa.F
