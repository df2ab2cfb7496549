-- Laid by mk.py (a program of this session) over the seat's translation.
import Derived.Test.YtiofobdmkkbmlaaDoorWX
import Derived.Test.YtiofobdmkkbmlaaDoorF0
import Derived.Test.YtiofobdmkkbmlaaDoorF34
import Derived.Test.YtiofobdmkkbmlaaDoorF53
import Derived.Laws.NewBlocks
import Derived.Laws.EntriesVeiled
import Derived.StillTailTactics
import Derived.RegionTactic
import Derived.BigRegion
import Derived.Deep.RegionLaw
import Derived.Deep.AppendLies
import Derived.Deep.QuietTactic
import Derived.BigQuiet
import Derived.Sort.OwnSorted
import Derived.Sort.OwnSortedInts
import Derived.Lib.OwnBridge
import Derived.Test.YtiofobdmkkbmlaaDoorShelf
import Derived.Test.YtiofobdmkkbmlaaDoorLTree
namespace Go.Proofs.YtiofobdmkkbmlaaDoor.F
open Go.RowKit Go.Proofs.YtiofobdmkkbmlaaDoorW.PrintWords Go.Proofs.YtiofobdmkkbmlaaDoorW.PrintLast Go.Proofs.YtiofobdmkkbmlaaDoorW.PrintMore
attribute [local go_sem] max2_int min2_int max_two min_two max_three min_three max_four min_four
set_option linter.unusedVariables false
set_option linter.unusedSimpArgs false

/-! ### tree_node_members: function 33 -/
open Go.Proofs.YtiofobdmkkbmlaaDoor.Pure Go.Deep Go.Sort
/-- What was met of leaves, in a variable's block. -/
def Coll (g : Nat) (s : List Int) (W : World) : Prop := ∃ v, W.heap[g]? = some (.cells #[v] 34 (0, 0)) ∧ (Kd.int .i64).R 3 W (g + 1) (fun k => g < k) v s
def goM (_ : BT) (_ : List Int) : Bool := true
def nextM : BT → List Int → List Int
  | .leaf _ p, s => s ++ [p]
  | .node _ _ _, s => s
def PM (T : BT) (s : List Int) : Prop := s.length + T.tr.leaves.length ≤ 1000
theorem walkM : ∀ (T : BT) (s : List Int), walkS goM nextM T s = s ++ T.tr.leaves.reverse
  | .leaf b p, s => rfl
  | .node b l r, s => by
    have h : goM (.node b l r) s = true := rfl
    rw [walkS, if_pos h, walkM r, walkM l]
    show (s ++ _) ++ _ = s ++ (l.tr.leaves ++ r.tr.leaves).reverse
    rw [List.reverse_append, List.append_assoc]
theorem PM_step (b : Nat) (l r : BT) (s : List Int) (h : PM (.node b l r) s) : PM r (nextM (.node b l r) s) ∧ PM l (walkS goM nextM r (nextM (.node b l r) s)) := by
  unfold PM at h ⊢
  rw [walkM]
  simp only [BT.tr, Tr.leaves, List.length_append, List.length_reverse, nextM] at h ⊢
  omega
def AddOut (g : Nat) (s : List Int) (B pd pw : Nat) (W : World) (e : Ending) (w' : World) : Prop := e = .returned (.bool true) ∧ Coll g s w' ∧ Went B pd pw W w'
set_option maxHeartbeats 2000000 in
set_option maxRecDepth 100000 in
theorem members1.node (b bl br g : Nat) (s : List Int) (B pd pw : Nat) (W : World) (h : W.heap[b]? = some (nodeO 0 (.pointer (some ⟨bl, 0, none⟩)) (.pointer (some ⟨br, 0, none⟩)))) (hi : Coll g s W) :
    Calls Tryd.prog 55 #[.pointer (some ⟨b, 0, none⟩), .pointer (some ⟨g, 0, none⟩)] W (AddOut g s B pd pw W) := by
  have hc1 : W.cell? ⟨b, 1, none⟩ = some (.pointer (some ⟨bl, 0, none⟩)) := (blk_cell h 1).trans rfl
  have HI := Aside0.mk hi
  clear h hi
  go_enter Tryd.func55, Tryd.ntmps55
  go_wp2
  go_ret
  exact ⟨rfl, HI.out, Went.refl _ _ _ _⟩
set_option maxHeartbeats 2000000 in
set_option maxRecDepth 100000 in
theorem members1.leaf (b : Nat) (p : Int) (g : Nat) (s : List Int) (B pd pw : Nat) (W : World) (h : W.heap[b]? = some (nodeO p (.pointer none) (.pointer none))) (hi : Coll g s W) (hs : s.length ≤ 999) (hgB : B ≤ g) {cd cw : Array Value}
    (hd : W.heap[pd]? = some (.cells cd 55 (0, 0))) (hw : W.heap[pw]? = some (.cells cw 67 (0, 0))) :
    Calls Tryd.prog 55 #[.pointer (some ⟨b, 0, none⟩), .pointer (some ⟨g, 0, none⟩)] W (AddOut g (s ++ [p]) B pd pw W) := by
  obtain ⟨v, hv, hR⟩ := hi
  have hc0 : W.cell? ⟨b, 0, none⟩ = some (.int .i64 p) := (blk_cell h 0).trans rfl
  have hc1 : W.cell? ⟨b, 1, none⟩ = some (.pointer none) := (blk_cell h 1).trans rfl
  have hg0 : W.cell? ⟨g, 0, none⟩ = some v := (blk_cell hv 0).trans rfl
  have HV := Aside0.mk hv
  have HR := Aside0.mk hR
  have HNE := Aside0.mk (show some g ≠ v.ownBlock from fun e => absurd (hR.1 g e.symm) (Nat.lt_irrefl g))
  have HND := Aside0.mk (show some pd ≠ v.ownBlock from own_ne (Kd.own_of_R hR) hd (show 3 ≠ 55 by decide))
  have HNW := Aside0.mk (show some pw ≠ v.ownBlock from own_ne (Kd.own_of_R hR) hw (show 3 ≠ 67 by decide))
  have HD := Aside0.mk hd
  have HW := Aside0.mk hw
  have HGL := Aside0.mk (show g + 1 ≤ W.heap.size from blk_lt hv)
  have HGB := Aside0.mk hgB
  have hpd : g ≠ pd := blk_ne hv hd (by decide)
  have hpw : g ≠ pw := blk_ne hv hw (by decide)
  have HPD := Aside0.mk hpd
  have HPW := Aside0.mk hpw
  have hga : ∀ o : Obj, (W.alloc o).cell? ⟨g, 0, none⟩ = some v := fun o => (blk_cell (blk_alloc hv o) 0).trans rfl
  clear h hv hR hd hw hgB hpd hpw
  go_enter Tryd.func55, Tryd.ntmps55
  go_upto_region 2 with (fail)
  go_region_law ((rw [show (W.alloc (.cells #[.int .i64 p] 3)).drew = W.drew.alloc (.cells #[.int .i64 p] 3) from rfl]; (refine Kd.R_append_step (Kd.int .i64) (w0 := W) (g + 1) (by rfl) (.tmp 9) (.tmp 14) 34 3 (.int .i64 0) 8 rfl Tryd.underlying34 info3 rfl (by decide) (by decide) v s p [.int .i64 p] (fun k_ => g < k_) (fun _ => False) rfl rfl rfl (fun _ hk => hk.elim) (fun k_ hk => Nat.lt_of_lt_of_le HGL.out (by simpa using hk)) (by (with_reducible repeat (first | apply Kd.R_alloc | apply Kd.R_drewN | apply Kd.R_drew)); exact HR.out) (by repeat (first | (with_reducible first | exact Below.refl _ _ | apply below_drew1))) (by have := HGL.out; simpa using this) (by have := hs; omega) ?_); intro v1 w1 ho1 hb1 hg1 _; obtain ⟨A1, c1, rfl⟩ := Kd.R_slice ho1; have HO := Aside0.mk ho1; have HG := Aside0.mk hg1; have HB := Aside0.mk hb1; have hbg : w1.heap[g]? = some (.cells #[v] 34 (0, 0)) := blk_grown (w := W.drew) HV.out hg1 HNE.out; have hc : w1.cell? ⟨g, 0, none⟩ = some v := (blk_cell hbg 0).trans rfl; have hf := blk_frozen hbg 0; have HBG := Aside0.mk hbg; clear hbg; clear ho1 hg1 hb1))
  all_goals
    go_wp2
    go_ret
    have ho := HO.out
    simp only [List.length_append, List.length_cons, List.length_nil, Nat.zero_add] at ho
    refine ⟨rfl, ⟨.slice A1 (s.length + 1) c1, blk_put HBG.out 0 _ rfl, Kd.R_far ho (fun k hk => Nat.ne_of_gt hk) _⟩, ⟨?_, ?_, ?_⟩⟩
    · exact (HB.out.mono (Nat.le_trans HGB.out (Nat.le_succ _))).setCell HGB.out _
    · exact (Below.heap_setCell w1 ⟨g, 0, none⟩ _ pd (Ne.symm HPD.out)).trans (HG.out.block pd (blk_lt HD.out) HND.out)
    · exact (Below.heap_setCell w1 ⟨g, 0, none⟩ _ pw (Ne.symm HPW.out)).trans (HG.out.block pw (blk_lt HW.out) HNW.out)
theorem members1.ent : Entered 55 := fun args W => by
  go_simp
theorem members1.doing (g B pd pw : Nat) (hgB : B ≤ g) : Doing PM 55 #[.pointer (some ⟨g, 0, none⟩)] (Coll g) goM nextM B pd pw
  | .leaf b p, lo, hi, s, W, h, hB, hp, hi0, hd, hw => by
    unfold PM at hp
    exact members1.leaf b p g s B pd pw W h.2.2 hi0 (by simp only [BT.tr, Tr.leaves, List.length_cons, List.length_nil] at hp; omega) hgB hd hw
  | .node b l r, lo, hi, s, W, h, hB, hp, hi0, hd, hw => by
    obtain ⟨m, h1, h2, h3, h4, h5, h6⟩ := h
    exact members1.node b l.at_ r.at_ g s B pd pw W h4 hi0
def MemOut (w : World) (l : List Int) (e : Ending) (w' : World) : Prop := ∃ v, e = .returned v ∧ (Kd.int .i64).R 3 w' w.heap.size (fun _ => True) v l ∧ Below w.heap.size w w'
theorem sort_out {w2 : World} {g r cap : Nat} {cur : Array Value} {ss : List Int} (hbase : g + 1 ≤ r) (hb : w2.heap[r]? = some (.cells cur 3 (0, 0))) (h1 : ss.length ≤ cap) (h2 : cap ≤ maxLen) (h3 : cur.size = cap * 1) (n : Nat) (os : Array Obj) :
    (Kd.int .i64).R 3 (grow (putRow (Value.int .i64) (Sort.ahead w2 n) r 0 (ss.mergeSort fun x y => decide (x ≤ y)).toArray) os) (g + 1) (fun _ => True) (.slice (some ⟨r, 0, none⟩) ss.length cap) (ss.mergeSort fun x y => decide (x ≤ y)) := by
  have hl : (ss.mergeSort fun x y => decide (x ≤ y)).length = ss.length := by simp
  have := ownsRow_sortedI (n := n) (os := os) (ts := ss.mergeSort fun x y => decide (x ≤ y)) hl hbase hb h1 h2 h3
  refine Kd.R_of_own ?_ (fun _ _ => trivial)
  rw [hl]
  exact this
theorem mems_rev (t : Tr) : (t.leaves.reverse.mergeSort fun x y => decide (x ≤ y)) = t.mems := by
  unfold Tr.mems
  have hle : ∀ a b : Int, (decide (a ≤ b) || decide (b ≤ a)) = true := fun a b => by simp; omega
  have htr : ∀ a b c : Int, decide (a ≤ b) = true → decide (b ≤ c) = true → decide (a ≤ c) = true := fun a b c h1 h2 => by simp at h1 h2 ⊢; omega
  refine List.Perm.eq_of_pairwise (le := fun a b => decide (a ≤ b) = true) (fun a b _ _ h1 h2 => ?_) (List.pairwise_mergeSort htr hle _) (List.pairwise_mergeSort htr hle _) (((List.mergeSort_perm _ _).trans (List.reverse_perm _)).trans (List.mergeSort_perm _ _).symm)
  simp at h1 h2
  omega
set_option maxHeartbeats 2000000 in
set_option maxRecDepth 100000 in
/-- The members of a tree, in order. -/
theorem members.calls (t : Tr) (lo hi b : Nat) (w : World) (h : TreeIn w t lo hi b) (hw : hi ≤ w.heap.size) (hn : t.leaves.length ≤ 1000) :
    Calls Tryd.prog 33 #[.pointer (some ⟨b, 0, none⟩)] w (MemOut w t.mems) := by
  obtain ⟨T, rfl, rfl, hT⟩ := TreeIn.bt h
  have hz : (w.alloc (.cells #[.slice none 0 0] 34)).heap.size = w.heap.size + 1 := by simp
  have HE := Aside0.mk (each.calls (P := PM) (B := w.heap.size) (Inv := Coll w.heap.size) (go := goM) (next := nextM) (caps := #[.pointer (some ⟨w.heap.size, 0, none⟩)]) (fun s W ⟨v, q1, q2⟩ => ⟨v, q1, Kd.R_drew q2⟩) members1.ent T lo hi [] (w.alloc (.cells #[.slice none 0 0] 34)) (hT.below (below_alloc (Below.refl _ _) _) hw) hw (by omega) (fun b l r s hp _ => PM_step b l r s hp) (by unfold PM; simpa using hn)
    (fun pd pw _ _ => members1.doing w.heap.size w.heap.size pd pw (Nat.le_refl _)) (fun W' hb => ⟨.slice none 0 0, blk_below (blk_new w _) hb, Kd.R_nil _ _ _ _ _⟩))
  rw [walkM, List.nil_append] at HE
  have HM := Aside0.mk (mems_rev T.tr)
  have HL := Aside0.mk (show 0 < T.tr.leaves.reverse.length by rw [List.length_reverse]; exact T.tr.leaves_pos)
  have HN := Aside0.mk (show T.tr.leaves.reverse.length ≤ 1000 by rw [List.length_reverse]; exact hn)
  generalize T.tr.leaves.reverse = ss at HE HM HL HN
  generalize T.tr.mems = mm at HM ⊢
  have HB := Aside0.mk (below_alloc (Below.refl w.heap.size w) (.cells #[.slice none 0 0] 34))
  clear h hw hn hT hz
  go_enter Tryd.func33, Tryd.ntmps33
  go_upto_region 3 with (go_at_call 34; go_loud (refine (HE.out).mono ?_; rintro e w2 ⟨rfl, hi2, hb2⟩))
  obtain ⟨v, hv, hR⟩ := hi2
  have hb3 := HB.out.trans hb2
  obtain ⟨hok, _⟩ := id hR
  rcases (Kd.own_of_R hR).2 with ⟨rfl, hn0⟩ | ⟨r, cap, cur, rfl, hbase, hb, h1, h2, h3, h4⟩
  · exact absurd HL.out (by omega)
  have hne : w.heap.size ≠ r := by omega
  have hc : w2.cell? ⟨w.heap.size, 0, none⟩ = some (.slice (some ⟨r, 0, none⟩) ss.length cap) := (blk_cell hv 0).trans rfl
  have HS := Aside0.mk (Tryd.slices_Sort_int r 0 cap ss w2 (holds_of_blockI hb (by have := h4; rw [Nat.mul_one] at this; exact this)) (blk_lt hb) (by have := HN.out; omega))
  have HO := Aside0.mk (fun n os => sort_out (ss := ss) hbase hb h1 h2 h3 n os)
  have HV := Aside0.mk hv
  have HR2 := Aside0.mk hb3
  have HNE := Aside0.mk hne
  have HBS := Aside0.mk hbase
  clear hv hR hb2 hb3 hok hbase hb h1 h2 h3 h4 hne
  go_upto_region 4 with (go_at_call 56; go_loud (refine (HS.out).mono ?_; rintro e w3 ⟨rfl, n3, os3, rfl⟩))
  have hg := grownBy_sortedI (w := w2) (g := r) (n := n3) (os := os3) (ss.mergeSort fun x y => decide (x ≤ y)).toArray
  have ho := HO.out n3 os3
  have hc3 := (blk_cell (blk_grown HV.out hg (fun e => HNE.out (by injection e))) 0).trans rfl
  clear hc
  generalize grow (putRow (Value.int .i64) (Sort.ahead w2 n3) r 0 (ss.mergeSort fun x y => decide (x ≤ y)).toArray) os3 = w3 at hg ho hc3 ⊢
  have HG := Aside0.mk hg
  have HOO := Aside0.mk ho
  clear hg ho
  go_wp2
  go_ret
  refine ⟨_, rfl, ?_, HR2.out.grown HG.out HR2.out.size (fun j hj => by cases hj; have := HBS.out; omega)⟩
  rw [← HM.out]
  exact Kd.R_lower HOO.out (Nat.le_succ _)

end Go.Proofs.YtiofobdmkkbmlaaDoor.F
