-- Laid by mk.py (a program of this session) over the seat's translation.
import Derived.Test.YtiofobdmkkbmlaaDoorF0
import Derived.Test.YtiofobdmkkbmlaaDoorF10
import Derived.Test.YtiofobdmkkbmlaaDoorF31
import Derived.Test.YtiofobdmkkbmlaaDoorF33
import Derived.Test.YtiofobdmkkbmlaaDoorF38
import Derived.Test.YtiofobdmkkbmlaaDoorF48
import Derived.Test.YtiofobdmkkbmlaaDoorF53
import Derived.RegionTactic
import Derived.BigRegion
import Derived.Deep.RegionWith
import Derived.Deep.QuietTactic
import Derived.BigQuiet
import Derived.Test.YtiofobdmkkbmlaaDoorLTree
namespace Go.Proofs.YtiofobdmkkbmlaaDoor.F
open Go.RowKit Go.Proofs.YtiofobdmkkbmlaaDoorW.PrintWords Go.Proofs.YtiofobdmkkbmlaaDoorW.PrintLast Go.Proofs.YtiofobdmkkbmlaaDoorW.PrintMore
attribute [local go_sem] max2_int min2_int max_two min_two max_three min_three max_four min_four
set_option linter.unusedVariables false
set_option linter.unusedSimpArgs false

/-! ### tree_Merge: function 23 -/
open Go.Proofs.YtiofobdmkkbmlaaDoor.Pure Go.Deep
/-- Whether a tree stands ahead of another one. -/
def greaterT (a b : Tr) : Bool := if a.depth ≠ b.depth then decide (b.depth < a.depth) else if a.mems.length ≠ b.mems.length then decide (b.mems.length < a.mems.length) else decide (rd a.mems 0 < rd b.mems 0)
set_option maxHeartbeats 2000000 in
set_option maxRecDepth 100000 in
theorem greater.deep (a b : Tr) (la ha ba lb hb bb : Nat) (w : World) (h1 : TreeIn w a la ha ba) (h2 : TreeIn w b lb hb bb) (k1 : ha ≤ w.heap.size) (k2 : hb ≤ w.heap.size) (n1 : a.leaves.length ≤ 8) (n2 : b.leaves.length ≤ 8) (hd : a.depth ≠ b.depth) :
    Calls Tryd.prog 49 #[.pointer (some ⟨ba, 0, none⟩), .pointer (some ⟨bb, 0, none⟩)] w (BoolOut w (decide (b.depth < a.depth))) := by
  have HM1 := Aside0.mk (members.calls a la ha ba w h1 k1 (by omega))
  have HM2 := Aside0.mk (fun w1 (hb1 : Below w.heap.size w w1) => members.calls b lb hb bb w1 (h2.below hb1 k2) (Nat.le_trans k2 hb1.size) (by omega))
  have HD1 := Aside0.mk (fun w1 (hb1 : Below w.heap.size w w1) => depth.calls a la ha ba w1 (h1.below hb1 k1) (by omega))
  have HD2 := Aside0.mk (fun w1 (hb1 : Below w.heap.size w w1) => depth.calls b lb hb bb w1 (h2.below hb1 k2) (by omega))
  have q1 := a.depth_lt; have q2 := b.depth_lt; have p1 := mems_len a
  have p2 := mems_len b
  have p3 := a.leaves_pos; have p4 := b.leaves_pos; have m1 : 0 < a.mems.length := by omega
  have m2 : 0 < b.mems.length := by omega
  have m3 : a.mems.length ≤ 8 := by omega
  have m4 : b.mems.length ≤ 8 := by omega
  have d1 : a.depth ≤ 8 := by omega
  have d2 : b.depth ≤ 8 := by omega
  generalize a.depth = x at HD1 d1 hd ⊢
  generalize b.depth = y at HD2 d2 hd ⊢
  generalize a.mems = am at HM1 m1 m3 
  generalize b.mems = bm at HM2 m2 m4 
  clear h1 h2 k1 k2 n1 n2 q1 q2 p1 p2 p3 p4; have e1 : ((x : Int) != (y : Int)) = true := bne_iff_ne.mpr (by omega)
  have e2 : (x != y) = true := bne_iff_ne.mpr hd
  have e3 : (x == y) = false := beq_eq_false_iff_ne.mpr hd
  have e4 : ((x : Int) == (y : Int)) = false := beq_eq_false_iff_ne.mpr (by omega)
  have e5 : decide ((y : Int) < (x : Int)) = decide (y < x) := by congr 1; exact propext (by omega)
  clear hd; go_enter Tryd.func49, Tryd.ntmps49
  go_wp2_with (first
    | (go_at_call_of 33 (Value.pointer (some (Addr.mk ba 0 none))); go_loud (refine (HM1.out).mono ?_; rintro e w1 ⟨v, rfl, hv, hb1⟩; obtain ⟨A1, c1, rfl⟩ := Kd.R_slice hv; have HV1 := Aside0.mk hv; have HB1 := Aside0.mk hb1; clear hv hb1))
    | (go_at_call 33; go_loud (refine (HM2.out _ HB1.out).mono ?_; rintro e w2 ⟨v, rfl, hv, hb2⟩; obtain ⟨A2, c2, rfl⟩ := Kd.R_slice hv; have HV2 := Aside0.mk hv; have HB2 := Aside0.mk (below_step HB1.out hb2); have HW1 := Aside0.mk (Kd.R_below HV1.out hb2); clear hv hb2))
    | (go_at_call_of 37 (Value.pointer (some (Addr.mk ba 0 none))); go_loud (refine (HD1.out _ (by repeat (first | exact HB2.out | apply pw_below_drewN))).mono ?_; rintro e wd ⟨rfl, nd, rfl⟩))
    | (go_at_call 37; go_loud (refine (HD2.out _ (by repeat (first | exact HB2.out | apply pw_below_drewN))).mono ?_; rintro e wd ⟨rfl, nd, rfl⟩)))
  go_ret
  refine ⟨?_, by repeat (first | exact HB2.out | apply pw_below_drewN | apply below_drew1)⟩
  first | rfl | (rw [← e5]; rfl) | (simp [e5]; done) | (simp; done)
set_option maxHeartbeats 2000000 in
set_option maxRecDepth 100000 in
theorem greater.wide (a b : Tr) (la ha ba lb hb bb : Nat) (w : World) (h1 : TreeIn w a la ha ba) (h2 : TreeIn w b lb hb bb) (k1 : ha ≤ w.heap.size) (k2 : hb ≤ w.heap.size) (n1 : a.leaves.length ≤ 8) (n2 : b.leaves.length ≤ 8) (hd : a.depth = b.depth) (hn : a.mems.length ≠ b.mems.length) :
    Calls Tryd.prog 49 #[.pointer (some ⟨ba, 0, none⟩), .pointer (some ⟨bb, 0, none⟩)] w (BoolOut w (decide (b.mems.length < a.mems.length))) := by
  have HM1 := Aside0.mk (members.calls a la ha ba w h1 k1 (by omega))
  have HM2 := Aside0.mk (fun w1 (hb1 : Below w.heap.size w w1) => members.calls b lb hb bb w1 (h2.below hb1 k2) (Nat.le_trans k2 hb1.size) (by omega))
  have HD1 := Aside0.mk (fun w1 (hb1 : Below w.heap.size w w1) => depth.calls a la ha ba w1 (h1.below hb1 k1) (by omega))
  have HD2 := Aside0.mk (fun w1 (hb1 : Below w.heap.size w w1) => depth.calls b lb hb bb w1 (h2.below hb1 k2) (by omega))
  have q1 := a.depth_lt; have q2 := b.depth_lt; have p1 := mems_len a
  have p2 := mems_len b
  have p3 := a.leaves_pos; have p4 := b.leaves_pos; have m1 : 0 < a.mems.length := by omega
  have m2 : 0 < b.mems.length := by omega
  have m3 : a.mems.length ≤ 8 := by omega
  have m4 : b.mems.length ≤ 8 := by omega
  have d1 : a.depth ≤ 8 := by omega
  have d2 : b.depth ≤ 8 := by omega
  generalize a.depth = x at HD1 d1 hd
  generalize b.depth = y at HD2 d2 hd
  generalize a.mems = am at HM1 m1 m3 hn ⊢
  generalize b.mems = bm at HM2 m2 m4 hn ⊢
  clear h1 h2 k1 k2 n1 n2 q1 q2 p1 p2 p3 p4; subst hd; have e1 : ((x : Int) != (x : Int)) = false := by simp
  have e2 : (x != x) = false := by simp
  have n1 : ((am.length : Int) != (bm.length : Int)) = true := bne_iff_ne.mpr (by omega)
  have n2 : (am.length != bm.length) = true := bne_iff_ne.mpr hn
  have n3 : ((am.length : Int) == (bm.length : Int)) = false := beq_eq_false_iff_ne.mpr (by omega)
  have n4 : (am.length == bm.length) = false := beq_eq_false_iff_ne.mpr hn
  have e5 : decide ((bm.length : Int) < (am.length : Int)) = decide (bm.length < am.length) := by congr 1; exact propext (by omega)
  clear hn; go_enter Tryd.func49, Tryd.ntmps49
  go_wp2_with (first
    | (go_at_call_of 33 (Value.pointer (some (Addr.mk ba 0 none))); go_loud (refine (HM1.out).mono ?_; rintro e w1 ⟨v, rfl, hv, hb1⟩; obtain ⟨A1, c1, rfl⟩ := Kd.R_slice hv; have HV1 := Aside0.mk hv; have HB1 := Aside0.mk hb1; clear hv hb1))
    | (go_at_call 33; go_loud (refine (HM2.out _ HB1.out).mono ?_; rintro e w2 ⟨v, rfl, hv, hb2⟩; obtain ⟨A2, c2, rfl⟩ := Kd.R_slice hv; have HV2 := Aside0.mk hv; have HB2 := Aside0.mk (below_step HB1.out hb2); have HW1 := Aside0.mk (Kd.R_below HV1.out hb2); clear hv hb2))
    | (go_at_call_of 37 (Value.pointer (some (Addr.mk ba 0 none))); go_loud (refine (HD1.out _ (by repeat (first | exact HB2.out | apply pw_below_drewN))).mono ?_; rintro e wd ⟨rfl, nd, rfl⟩))
    | (go_at_call 37; go_loud (refine (HD2.out _ (by repeat (first | exact HB2.out | apply pw_below_drewN))).mono ?_; rintro e wd ⟨rfl, nd, rfl⟩)))
  go_ret
  refine ⟨?_, by repeat (first | exact HB2.out | apply pw_below_drewN | apply below_drew1)⟩
  first | rfl | (rw [← e5]; rfl) | (simp [e5]; done) | (simp; done)
set_option maxHeartbeats 2000000 in
set_option maxRecDepth 100000 in
theorem greater.first (a b : Tr) (la ha ba lb hb bb : Nat) (w : World) (h1 : TreeIn w a la ha ba) (h2 : TreeIn w b lb hb bb) (k1 : ha ≤ w.heap.size) (k2 : hb ≤ w.heap.size) (n1 : a.leaves.length ≤ 8) (n2 : b.leaves.length ≤ 8) (hd : a.depth = b.depth) (hn : a.mems.length = b.mems.length) :
    Calls Tryd.prog 49 #[.pointer (some ⟨ba, 0, none⟩), .pointer (some ⟨bb, 0, none⟩)] w (BoolOut w (decide (rd a.mems 0 < rd b.mems 0))) := by
  have HM1 := Aside0.mk (members.calls a la ha ba w h1 k1 (by omega))
  have HM2 := Aside0.mk (fun w1 (hb1 : Below w.heap.size w w1) => members.calls b lb hb bb w1 (h2.below hb1 k2) (Nat.le_trans k2 hb1.size) (by omega))
  have HD1 := Aside0.mk (fun w1 (hb1 : Below w.heap.size w w1) => depth.calls a la ha ba w1 (h1.below hb1 k1) (by omega))
  have HD2 := Aside0.mk (fun w1 (hb1 : Below w.heap.size w w1) => depth.calls b lb hb bb w1 (h2.below hb1 k2) (by omega))
  have q1 := a.depth_lt; have q2 := b.depth_lt; have p1 := mems_len a
  have p2 := mems_len b
  have p3 := a.leaves_pos; have p4 := b.leaves_pos; have m1 : 0 < a.mems.length := by omega
  have m2 : 0 < b.mems.length := by omega
  have m3 : a.mems.length ≤ 8 := by omega
  have m4 : b.mems.length ≤ 8 := by omega
  have d1 : a.depth ≤ 8 := by omega
  have d2 : b.depth ≤ 8 := by omega
  generalize a.depth = x at HD1 d1 hd
  generalize b.depth = y at HD2 d2 hd
  generalize a.mems = am at HM1 m1 m3 hn ⊢
  generalize b.mems = bm at HM2 m2 m4 hn ⊢
  clear h1 h2 k1 k2 n1 n2 q1 q2 p1 p2 p3 p4; subst hd; have e1 : ((x : Int) != (x : Int)) = false := by simp
  have e2 : (x != x) = false := by simp
  have n1 : ((am.length : Int) != (bm.length : Int)) = false := bne_eq_false_iff_eq.mpr (by omega)
  have n2 : (am.length != bm.length) = false := bne_eq_false_iff_eq.mpr hn
  have n3 : ((am.length : Int) == (bm.length : Int)) = true := beq_iff_eq.mpr (by omega)
  have n4 : (am.length == bm.length) = true := beq_iff_eq.mpr hn
  have HN := Aside0.mk hn
  clear hn; go_enter Tryd.func49, Tryd.ntmps49
  go_upto_region 6 with (first
    | (go_at_call_of 33 (Value.pointer (some (Addr.mk ba 0 none))); go_loud (refine (HM1.out).mono ?_; rintro e w1 ⟨v, rfl, hv, hb1⟩; obtain ⟨A1, c1, rfl⟩ := Kd.R_slice hv; have HV1 := Aside0.mk hv; have HB1 := Aside0.mk hb1; clear hv hb1))
    | (go_at_call 33; go_loud (refine (HM2.out _ HB1.out).mono ?_; rintro e w2 ⟨v, rfl, hv, hb2⟩; obtain ⟨A2, c2, rfl⟩ := Kd.R_slice hv; have HV2 := Aside0.mk hv; have HB2 := Aside0.mk (below_step HB1.out hb2); have HW1 := Aside0.mk (Kd.R_below HV1.out hb2); clear hv hb2))
    | (go_at_call_of 37 (Value.pointer (some (Addr.mk ba 0 none))); go_loud (refine (HD1.out _ (by repeat (first | exact HB2.out | apply pw_below_drewN))).mono ?_; rintro e wd ⟨rfl, nd, rfl⟩))
    | (go_at_call 37; go_loud (refine (HD2.out _ (by repeat (first | exact HB2.out | apply pw_below_drewN))).mono ?_; rintro e wd ⟨rfl, nd, rfl⟩)))
  obtain ⟨ad1, ea1, hx1⟩ := Kd.at_int (Kd.R_reads' HW1.out).2.2 0 (by omega) (by omega)
  obtain ⟨ad2, ea2, hx2⟩ := Kd.at_int (Kd.R_reads' HV2.out).2.2 0 (by omega) (by omega)
  cases ea1
  cases ea2
  rw [show ((0 : Int)).toNat = 0 from rfl, Addr.add_zero'] at hx1 hx2
  have i1 : (0 < am.length) = True := eq_true m1
  have i2 : (0 < bm.length) = True := eq_true m2
  have i3 : (0 < (am.length : Int)) = True := eq_true (by omega)
  have i4 : (0 < (bm.length : Int)) = True := eq_true (by omega)
  go_quiet (fail)
  go_wp2; go_ret
  refine ⟨?_, by repeat (first | exact HB2.out | apply pw_below_drewN | apply below_drew1)⟩
  first | rfl | (simp; done)
theorem greater.calls (a b : Tr) (la ha ba lb hb bb : Nat) (w : World) (h1 : TreeIn w a la ha ba) (h2 : TreeIn w b lb hb bb) (k1 : ha ≤ w.heap.size) (k2 : hb ≤ w.heap.size) (n1 : a.leaves.length ≤ 8) (n2 : b.leaves.length ≤ 8) :
    Calls Tryd.prog 49 #[.pointer (some ⟨ba, 0, none⟩), .pointer (some ⟨bb, 0, none⟩)] w (BoolOut w (greaterT a b)) := by
  unfold greaterT
  by_cases c : a.depth ≠ b.depth
  · rw [if_pos c]
    exact greater.deep a b la ha ba lb hb bb w h1 h2 k1 k2 n1 n2 c
  rw [if_neg c]
  have c2 : a.depth = b.depth := Classical.byContradiction c
  by_cases d : a.mems.length ≠ b.mems.length
  · rw [if_pos d]
    exact greater.wide a b la ha ba lb hb bb w h1 h2 k1 k2 n1 n2 c2 d
  rw [if_neg d]
  exact greater.first a b la ha ba lb hb bb w h1 h2 k1 k2 n1 n2 c2 (Classical.byContradiction d)
/-- Two trees in brackets, the greater one ahead. -/
def mergeT (a b : Tr) : Tr := if greaterT a b = true then .node a b else .node b a
set_option maxHeartbeats 2000000 in
set_option maxRecDepth 100000 in
theorem merge.none1 (s u : ByteArray) (w : World) (hs : s.size ≤ 1000) (hu : u.size ≤ 1000) (ht : treeOf s = none) : Calls Tryd.prog 23 #[.string s, .string u] w (StrOut w ⟨#[]⟩ 1) := by
  have HO1 := Aside0.mk (of.calls s w hs)
  have HO2 := Aside0.mk (fun W => of.calls u W hu)
  rw [ht] at HO1
  cases hv : treeOf u with
  | none =>
    rw [hv] at HO2
    obtain ⟨tok⟩ : Nonempty (Aside0 True) := ⟨⟨trivial⟩⟩
    clear hs hu ht hv; go_enter Tryd.func23, Tryd.ntmps23
    go_wp2_with (first
      | (go_at_call 31; go_loud (refine (HO1.out).mono ?_; rintro e w1 ⟨rfl, hb1⟩; have HB1 := Aside0.mk hb1; clear hb1 HO1))
      | (go_at_call 31; go_loud (refine (HO2.out _).mono ?_; rintro e w2 ⟨rfl, hb2⟩)))
    go_ret2
    exact ⟨rfl, below_step HB1.out hb2⟩
  | some v =>
    rw [hv] at HO2
    clear hs hu ht hv; go_enter Tryd.func23, Tryd.ntmps23
    go_wp2_with (first
      | (go_at_call 31; go_loud (refine (HO1.out).mono ?_; rintro e w1 ⟨rfl, hb1⟩; have HB1 := Aside0.mk hb1; clear hb1 HO1))
      | (go_at_call 31; go_loud (refine (HO2.out _).mono ?_; rintro e w2 ⟨⟨b, rfl, ht2⟩, hb2⟩; clear ht2)))
    go_ret2
    exact ⟨rfl, below_step HB1.out hb2⟩
set_option maxHeartbeats 2000000 in
set_option maxRecDepth 100000 in
theorem merge.none2 (s u : ByteArray) (w : World) (hs : s.size ≤ 1000) (hu : u.size ≤ 1000) (t : Tr) (ht : treeOf s = some t) (hv : treeOf u = none) : Calls Tryd.prog 23 #[.string s, .string u] w (StrOut w ⟨#[]⟩ 1) := by
  have HO1 := Aside0.mk (of.calls s w hs)
  have HO2 := Aside0.mk (fun W => of.calls u W hu)
  rw [ht] at HO1
  rw [hv] at HO2
  clear hs hu ht hv; go_enter Tryd.func23, Tryd.ntmps23
  go_wp2_with (first
    | (go_at_call 31; go_loud (refine (HO1.out).mono ?_; rintro e w1 ⟨⟨b, rfl, ht1⟩, hb1⟩; have HB1 := Aside0.mk hb1; clear ht1 hb1 HO1))
    | (go_at_call 31; go_loud (refine (HO2.out _).mono ?_; rintro e w2 ⟨rfl, hb2⟩)))
  go_ret2
  exact ⟨rfl, below_step HB1.out hb2⟩
set_option maxHeartbeats 4000000 in
set_option maxRecDepth 100000 in
theorem merge.both (s u : ByteArray) (w : World) (hs : s.size ≤ 1000) (hu : u.size ≤ 1000) (a b : Tr) (ht : treeOf s = some a) (hv : treeOf u = some b) (x : Bool) (hx : (decide (0 < (a.mems.filter fun y => b.mems.contains y).length)) = x) (g : Bool) (hg : greaterT a b = g) :
    Calls Tryd.prog 23 #[.string s, .string u] w (StrOut w (if x = true then ⟨#[]⟩ else (mergeT a b).text) (if x = true then 1 else 0)) := by
  have HO1 := Aside0.mk (of.calls s w hs)
  have HO2 := Aside0.mk (fun W => of.calls u W hu)
  obtain ⟨hsa, hra⟩ := treeOf_some.mp ht; obtain ⟨hsb, hrb⟩ := treeOf_some.mp hv; have hla := right_len hra
  have hlb := right_len hrb
  rw [ht] at HO1
  rw [hv] at HO2
  have HM1 := Aside0.mk (fun (w1 w2 : World) (lo b1 : Nat) (h : TreeIn w1 a lo w1.heap.size b1) (hb : Below w1.heap.size w1 w2) => members.calls a lo w1.heap.size b1 w2 (h.below hb (Nat.le_refl _)) hb.size (by omega))
  have HM2 := Aside0.mk (fun (w1 w2 : World) (lo b1 : Nat) (h : TreeIn w1 b lo w1.heap.size b1) (hb : Below w1.heap.size w1 w2) => members.calls b lo w1.heap.size b1 w2 (h.below hb (Nat.le_refl _)) hb.size (by omega))
  have HBO := Aside0.mk (fun (W : World) A1 c1 A2 c2 h1 h2 h3 h4 => view_Both.calls A1 c1 a.mems A2 c2 b.mems _ W h1 h2 h3 h4 (if_pos (by rw [mems_len]; omega)))
  have HG := Aside0.mk (fun (W : World) lo1 h1 b1 lo2 h2 b2 q1 q2 q3 q4 => greater.calls a b lo1 h1 b1 lo2 h2 b2 W q1 q2 q3 q4 hla hlb)
  rw [hg] at HG
  have hlen : (((a.mems.filter fun y => b.mems.contains y).length : Int) > 0) ↔ x = true := by
    rw [← hx, decide_eq_true_eq]; omega
  have HMT := Aside0.mk (show (mergeT a b).text = if g = true then (⟨#[40]⟩ : ByteArray) ++ s ++ u ++ ⟨#[41]⟩ else (⟨#[40]⟩ : ByteArray) ++ u ++ s ++ ⟨#[41]⟩ by
    unfold mergeT
    rw [hg, hsa, hsb, text_node, text_node]
    split <;> rfl)
  cases x
  case true =>
    have e1 : decide (0 < ((a.mems.filter fun y => b.mems.contains y).length : Int)) = true := decide_eq_true (hlen.mpr rfl)
    have e2 : decide (0 < (a.mems.filter fun y => b.mems.contains y).length) = true := hx
    rw [if_pos rfl, if_pos rfl]
    generalize (a.mems.filter fun y => b.mems.contains y) = bo at HBO e1 e2
    clear hs hu ht hv hx hg hsa hra hsb hrb hla hlb hlen HG HMT; go_enter Tryd.func23, Tryd.ntmps23
    go_wp2_with (first
    | (go_at_call 31; go_loud (refine (HO1.out).mono ?_; rintro e w1 ⟨⟨b1, rfl, ht1⟩, hb1⟩; have HT1 := Aside0.mk ht1; have HB1 := Aside0.mk hb1; clear ht1 hb1 HO1))
    | (go_at_call 31; go_loud (refine (HO2.out _).mono ?_; rintro e w2 ⟨⟨b2, rfl, ht2⟩, hb2⟩; have HT2 := Aside0.mk ht2; have HB2 := Aside0.mk hb2; clear ht2 hb2))
    | (go_at_call_of 33 (Value.pointer (some (Addr.mk b1 0 none))); go_loud (refine (HM1.out _ _ _ _ HT1.out HB2.out).mono ?_; rintro e w3 ⟨v, rfl, hv, hb3⟩; obtain ⟨A3, c3, rfl⟩ := Kd.R_slice hv; have HV3 := Aside0.mk hv; have HB3 := Aside0.mk hb3; clear hv hb3))
    | (go_at_call 33; go_loud (refine (HM2.out _ _ _ _ HT2.out HB3.out).mono ?_; rintro e w4 ⟨v, rfl, hv, hb4⟩; obtain ⟨A4, c4, rfl⟩ := Kd.R_slice hv; have HV4 := Aside0.mk hv; have HV3b := Aside0.mk (Kd.R_below HV3.out hb4); have HB4 := Aside0.mk hb4; clear hv hb4))
    | (go_at_call 48; go_loud (refine (HBO.out _ _ _ _ _ (Kd.R_reads' HV3b.out).2.2 (Kd.R_reads' HV3b.out).2.1 (Kd.R_reads' HV4.out).2.2 (Kd.R_reads' HV4.out).2.1).mono ?_; rintro e w5 ⟨v, rfl, hv, hb5⟩; obtain ⟨A5, c5, rfl⟩ := Kd.R_slice hv; have HB5 := Aside0.mk hb5; clear hv hb5)))
    go_ret2
    exact ⟨rfl, below_step (below_step (below_step (below_step HB1.out HB2.out) HB3.out) HB4.out) HB5.out⟩
  case false =>
  have e1 : decide (0 < ((a.mems.filter fun y => b.mems.contains y).length : Int)) = false := decide_eq_false (fun h => absurd (hlen.mp h) (by decide))
  have e2 : decide (0 < (a.mems.filter fun y => b.mems.contains y).length) = false := hx
  rw [if_neg (by decide), if_neg (by decide)]
  generalize (a.mems.filter fun y => b.mems.contains y) = bo at HBO e1 e2
  generalize (mergeT a b).text = mt at HMT ⊢
  clear hx hlen hsa hra hsb hrb hla hlb ht hv hg; cases g
  case true =>
    rw [if_pos rfl] at HMT
    have x1 : (9223372036854775807 < 1 + s.size) = False := eq_false (by omega)
    have x2 : (9223372036854775807 < 1 + s.size + u.size) = False := eq_false (by omega)
    have x3 : (9223372036854775807 < 1 + s.size + u.size + 1) = False := eq_false (by omega)
    clear hs hu; go_enter Tryd.func23, Tryd.ntmps23
    go_wp2_with (first
    | (go_at_call 31; go_loud (refine (HO1.out).mono ?_; rintro e w1 ⟨⟨b1, rfl, ht1⟩, hb1⟩; have HT1 := Aside0.mk ht1; have HB1 := Aside0.mk hb1; clear ht1 hb1 HO1))
    | (go_at_call 31; go_loud (refine (HO2.out _).mono ?_; rintro e w2 ⟨⟨b2, rfl, ht2⟩, hb2⟩; have HT2 := Aside0.mk ht2; have HB2 := Aside0.mk hb2; clear ht2 hb2))
    | (go_at_call_of 33 (Value.pointer (some (Addr.mk b1 0 none))); go_loud (refine (HM1.out _ _ _ _ HT1.out HB2.out).mono ?_; rintro e w3 ⟨v, rfl, hv, hb3⟩; obtain ⟨A3, c3, rfl⟩ := Kd.R_slice hv; have HV3 := Aside0.mk hv; have HB3 := Aside0.mk hb3; clear hv hb3))
    | (go_at_call 33; go_loud (refine (HM2.out _ _ _ _ HT2.out HB3.out).mono ?_; rintro e w4 ⟨v, rfl, hv, hb4⟩; obtain ⟨A4, c4, rfl⟩ := Kd.R_slice hv; have HV4 := Aside0.mk hv; have HV3b := Aside0.mk (Kd.R_below HV3.out hb4); have HB4 := Aside0.mk hb4; clear hv hb4))
    | (go_at_call 48; go_loud (refine (HBO.out _ _ _ _ _ (Kd.R_reads' HV3b.out).2.2 (Kd.R_reads' HV3b.out).2.1 (Kd.R_reads' HV4.out).2.2 (Kd.R_reads' HV4.out).2.1).mono ?_; rintro e w5 ⟨v, rfl, hv, hb5⟩; obtain ⟨A5, c5, rfl⟩ := Kd.R_slice hv; have HB5 := Aside0.mk hb5; clear hv hb5))
    | (go_at_call 49; go_loud (refine (HG.out _ _ _ _ _ _ _ ((HT1.out.below HB2.out (Nat.le_refl _)).below (below_step (below_step HB3.out HB4.out) HB5.out) HB2.out.size) (HT2.out.below (below_step (below_step HB3.out HB4.out) HB5.out) (Nat.le_refl _)) (Nat.le_trans HB2.out.size (below_step (below_step HB3.out HB4.out) HB5.out).size) (below_step (below_step HB3.out HB4.out) HB5.out).size).mono ?_; rintro e w6 ⟨rfl, hb6⟩; have HB6 := Aside0.mk hb6; clear hb6)))
    go_ret2
    exact ⟨by rw [HMT.out]; rfl, by repeat (first | exact below_step (below_step (below_step (below_step (below_step HB1.out HB2.out) HB3.out) HB4.out) HB5.out) HB6.out | apply below_drew1)⟩
  case false =>
    rw [if_neg (by decide)] at HMT
    have x1 : (9223372036854775807 < 1 + u.size) = False := eq_false (by omega)
    have x2 : (9223372036854775807 < 1 + u.size + s.size) = False := eq_false (by omega)
    have x3 : (9223372036854775807 < 1 + u.size + s.size + 1) = False := eq_false (by omega)
    clear hs hu; go_enter Tryd.func23, Tryd.ntmps23
    go_wp2_with (first
    | (go_at_call 31; go_loud (refine (HO1.out).mono ?_; rintro e w1 ⟨⟨b1, rfl, ht1⟩, hb1⟩; have HT1 := Aside0.mk ht1; have HB1 := Aside0.mk hb1; clear ht1 hb1 HO1))
    | (go_at_call 31; go_loud (refine (HO2.out _).mono ?_; rintro e w2 ⟨⟨b2, rfl, ht2⟩, hb2⟩; have HT2 := Aside0.mk ht2; have HB2 := Aside0.mk hb2; clear ht2 hb2))
    | (go_at_call_of 33 (Value.pointer (some (Addr.mk b1 0 none))); go_loud (refine (HM1.out _ _ _ _ HT1.out HB2.out).mono ?_; rintro e w3 ⟨v, rfl, hv, hb3⟩; obtain ⟨A3, c3, rfl⟩ := Kd.R_slice hv; have HV3 := Aside0.mk hv; have HB3 := Aside0.mk hb3; clear hv hb3))
    | (go_at_call 33; go_loud (refine (HM2.out _ _ _ _ HT2.out HB3.out).mono ?_; rintro e w4 ⟨v, rfl, hv, hb4⟩; obtain ⟨A4, c4, rfl⟩ := Kd.R_slice hv; have HV4 := Aside0.mk hv; have HV3b := Aside0.mk (Kd.R_below HV3.out hb4); have HB4 := Aside0.mk hb4; clear hv hb4))
    | (go_at_call 48; go_loud (refine (HBO.out _ _ _ _ _ (Kd.R_reads' HV3b.out).2.2 (Kd.R_reads' HV3b.out).2.1 (Kd.R_reads' HV4.out).2.2 (Kd.R_reads' HV4.out).2.1).mono ?_; rintro e w5 ⟨v, rfl, hv, hb5⟩; obtain ⟨A5, c5, rfl⟩ := Kd.R_slice hv; have HB5 := Aside0.mk hb5; clear hv hb5))
    | (go_at_call 49; go_loud (refine (HG.out _ _ _ _ _ _ _ ((HT1.out.below HB2.out (Nat.le_refl _)).below (below_step (below_step HB3.out HB4.out) HB5.out) HB2.out.size) (HT2.out.below (below_step (below_step HB3.out HB4.out) HB5.out) (Nat.le_refl _)) (Nat.le_trans HB2.out.size (below_step (below_step HB3.out HB4.out) HB5.out).size) (below_step (below_step HB3.out HB4.out) HB5.out).size).mono ?_; rintro e w6 ⟨rfl, hb6⟩; have HB6 := Aside0.mk hb6; clear hb6)))
    go_ret2
    exact ⟨by rw [HMT.out]; rfl, by repeat (first | exact below_step (below_step (below_step (below_step (below_step HB1.out HB2.out) HB3.out) HB4.out) HB5.out) HB6.out | apply below_drew1)⟩
/-- Two trees merged, or what is wrong. -/
def mergeS (s u : ByteArray) : ByteArray × Int := match treeOf s, treeOf u with
  | some a, some b => if 0 < (a.mems.filter fun y => b.mems.contains y).length then (⟨#[]⟩, 1) else ((mergeT a b).text, 0)
  | _, _ => (⟨#[]⟩, 1)
def tree_Merge.f (s u : ByteArray) : Option (ByteArray × Int) := if s.size ≤ 1000 ∧ u.size ≤ 1000 then some (mergeS s u) else none
theorem tree_Merge.calls (a0 a1 : ByteArray) (r1 : ByteArray) (r2 : Int) (w : World) (h : tree_Merge.f a0 a1 = some (r1, r2)) :
    Calls Tryd.prog 23 #[.string a0, .string a1] w fun e w' => e = .returned (.tuple #[.string r1, .int .i64 r2]) ∧ Below w.heap.size w w' := by
  unfold tree_Merge.f at h
  split at h
  case isFalse => cases h
  rename_i hs
  have h2 := Option.some.inj h
  unfold mergeS at h2
  cases ht : treeOf a0 with
  | none =>
    rw [ht] at h2
    cases h2
    exact merge.none1 a0 a1 w hs.1 hs.2 ht
  | some a =>
    rw [ht] at h2
    cases hv : treeOf a1 with
    | none =>
      rw [hv] at h2
      cases h2
      exact merge.none2 a0 a1 w hs.1 hs.2 a ht hv
    | some b =>
      rw [hv] at h2
      simp only at h2
      have h3 := merge.both a0 a1 w hs.1 hs.2 a b ht hv _ rfl _ rfl
      by_cases c : 0 < (a.mems.filter fun y => b.mems.contains y).length
      · rw [if_pos c] at h2
        cases h2
        rw [decide_eq_true c] at h3
        exact h3
      · rw [if_neg c] at h2
        cases h2
        rw [decide_eq_false c] at h3
        exact h3

end Go.Proofs.YtiofobdmkkbmlaaDoor.F
