-- Laid by mk.py (a program of this session) over the seat's translation.
import Derived.Test.YtiofobdmkkbmlaaDoorF0
import Derived.Test.YtiofobdmkkbmlaaDoorF53
import Derived.Laws.EntriesVeiled
import Derived.StillTailTactics
import Derived.RegionTactic
import Derived.BigRegion
import Derived.Deep.QuietTactic
import Derived.BigQuiet
import Derived.Test.YtiofobdmkkbmlaaDoorLTree
import Derived.Test.YtiofobdmkkbmlaaDoorF38
namespace Go.Proofs.YtiofobdmkkbmlaaDoor.F
open Go.RowKit Go.Proofs.YtiofobdmkkbmlaaDoorW.PrintWords Go.Proofs.YtiofobdmkkbmlaaDoorW.PrintLast Go.Proofs.YtiofobdmkkbmlaaDoorW.PrintMore
attribute [local go_sem] max2_int min2_int max_two min_two max_three min_three max_four min_four
set_option linter.unusedVariables false
set_option linter.unusedSimpArgs false

/-! ### tree_node_each: function 34 -/
open Go.Proofs.YtiofobdmkkbmlaaDoor.Pure Go.Deep
/-- A tree with the blocks in which its nodes lie. -/
inductive BT where
  | leaf (b : Nat) (p : Int) : BT
  | node (b : Nat) (l r : BT) : BT
def BT.tr : BT → Tr
  | .leaf _ p => .leaf p
  | .node _ l r => .node l.tr r.tr
def BT.at_ : BT → Nat
  | .leaf b _ => b
  | .node b _ _ => b
def BTIn (w : World) : BT → Nat → Nat → Prop
  | .leaf b p, lo, hi => lo ≤ b ∧ b < hi ∧ w.heap[b]? = some (nodeO p (.pointer none) (.pointer none))
  | .node b l r, lo, hi => ∃ m, lo ≤ b ∧ b < m ∧ m ≤ hi ∧ w.heap[b]? = some (nodeO 0 (.pointer (some ⟨l.at_, 0, none⟩)) (.pointer (some ⟨r.at_, 0, none⟩))) ∧ BTIn w l (b + 1) m ∧ BTIn w r m hi
theorem TreeIn.bt {w : World} : ∀ {t : Tr} {lo hi b : Nat}, TreeIn w t lo hi b → ∃ T : BT, T.tr = t ∧ T.at_ = b ∧ BTIn w T lo hi
  | .leaf p, lo, hi, b, h => ⟨.leaf b p, rfl, rfl, h⟩
  | .node l r, lo, hi, b, ⟨m, bl, br, h1, h2, h3, h4, h5, h6⟩ => by
    obtain ⟨L, rfl, rfl, k1⟩ := TreeIn.bt h5
    obtain ⟨R, rfl, rfl, k2⟩ := TreeIn.bt h6
    exact ⟨.node b L R, rfl, rfl, m, h1, h2, h3, h4, k1, k2⟩
theorem BTIn.tree {w : World} : ∀ {T : BT} {lo hi : Nat}, BTIn w T lo hi → TreeIn w T.tr lo hi T.at_
  | .leaf b p, lo, hi, h => h
  | .node b l r, lo, hi, ⟨m, h1, h2, h3, h4, h5, h6⟩ => ⟨m, l.at_, r.at_, h1, h2, h3, h4, BTIn.tree h5, BTIn.tree h6⟩
theorem BTIn.kept {w w' : World} : ∀ {T : BT} {lo hi : Nat}, BTIn w T lo hi → (∀ k, lo ≤ k → k < hi → w'.heap[k]? = w.heap[k]?) → BTIn w' T lo hi
  | .leaf b p, lo, hi, h, hk => ⟨h.1, h.2.1, (hk b h.1 h.2.1).trans h.2.2⟩
  | .node b l r, lo, hi, ⟨m, h1, h2, h3, h4, h5, h6⟩, hk =>
    ⟨m, h1, h2, h3, (hk b h1 (by omega)).trans h4, h5.kept fun k k1 k2 => hk k (by omega) (by omega), h6.kept fun k k1 k2 => hk k (by omega) (by omega)⟩
theorem BTIn.below {w w' : World} {T : BT} {lo hi B : Nat} (h : BTIn w T lo hi) (hb : Below B w w') (hB : hi ≤ B) : BTIn w' T lo hi := h.kept fun k _ h2 => hb.block k (by omega)
/-- What going over a tree, from the right, makes of a state. -/
def walkS {S : Type} (go : BT → S → Bool) (next : BT → S → S) : BT → S → S
  | .leaf b p, s => next (.leaf b p) s
  | .node b l r, s => if go (.node b l r) s = true then walkS go next l (walkS go next r (next (.node b l r) s)) else next (.node b l r) s
abbrev doO (gd : FuncId) (caps : Array Value) : Obj := .cells #[.func (.func gd) #[] caps] 55 (0, 0)
abbrev walkO (pd pw : Nat) : Obj := .cells #[.func (.func 57) #[] #[.pointer (some ⟨pd, 0, none⟩), .pointer (some ⟨pw, 0, none⟩)]] 67 (0, 0)
structure Went (B pd pw : Nat) (W w' : World) : Prop where
  below : Below B W w'
  pd : w'.heap[pd]? = W.heap[pd]?
  pw : w'.heap[pw]? = W.heap[pw]?
theorem Went.trans {B pd pw : Nat} {W w1 w2 : World} (h : Went B pd pw W w1) (k : Went B pd pw w1 w2) : Went B pd pw W w2 := ⟨h.below.trans k.below, k.pd.trans h.pd, k.pw.trans h.pw⟩
theorem Went.drew {B pd pw : Nat} {W w1 : World} (h : Went B pd pw W w1) : Went B pd pw W w1.drew := ⟨below_drew h.below, h.pd, h.pw⟩
theorem Went.refl (B pd pw : Nat) (W : World) : Went B pd pw W W := ⟨Below.refl _ _, rfl, rfl⟩
/-- What a function that is called at each node does. -/
def Doing {S : Type} (P : BT → S → Prop) (gd : FuncId) (caps : Array Value) (Inv : S → World → Prop) (go : BT → S → Bool) (next : BT → S → S) (B pd pw : Nat) : Prop :=
  ∀ (T : BT) (lo hi : Nat) (s : S) (W : World), BTIn W T lo hi → hi ≤ B → P T s → Inv s W → W.heap[pd]? = some (doO gd caps) → W.heap[pw]? = some (walkO pd pw) → Calls Tryd.prog gd (#[.pointer (some ⟨T.at_, 0, none⟩)] ++ caps) W fun e w' => e = .returned (.bool (go T s)) ∧ Inv (next T s) w' ∧ Went B pd pw W w'
/-- A call of a function comes to its body. -/
def Entered (gd : FuncId) : Prop := ∀ (args : Array Value) (W : World), (callFunc gd args).run Tryd.prog W = .ok (.enter gd args) W
def WentTo {S : Type} (Inv : S → World → Prop) (s : S) (B pd pw : Nat) (W : World) (e : Ending) (w' : World) : Prop := e = .returned (.tuple #[]) ∧ Inv s w' ∧ Went B pd pw W w'
set_option maxHeartbeats 2000000 in
set_option maxRecDepth 100000 in
theorem each1.no {S : Type} {P : BT → S → Prop} {gd : FuncId} {caps : Array Value} {Inv : S → World → Prop} {go : BT → S → Bool} {next : BT → S → S} {B pd pw : Nat} (hent : Entered gd) (hdo : Doing P gd caps Inv go next B pd pw)
    (T : BT) (lo hi : Nat) (s : S) (W : World) (h : BTIn W T lo hi) (hB : hi ≤ B) (hp : P T s) (hi0 : Inv s W) (hd : W.heap[pd]? = some (doO gd caps)) (hw : W.heap[pw]? = some (walkO pd pw)) (hg : go T s = false) :
    Calls Tryd.prog 57 #[.pointer (some ⟨T.at_, 0, none⟩), .pointer (some ⟨pd, 0, none⟩), .pointer (some ⟨pw, 0, none⟩)] W (WentTo Inv (next T s) B pd pw W) := by
  have H := Aside0.mk (hdo T lo hi s W h hB hp hi0 hd hw)
  rw [hg] at H
  have hc : W.cell? ⟨pd, 0, none⟩ = some (.func (.func gd) #[] caps) := (blk_cell hd 0).trans rfl
  clear hdo h hB hp hi0 hd hw hg
  unfold Entered at hent
  go_enter Tryd.func57, Tryd.ntmps57
  go_wp2_with (refine (H.out).mono ?_; rintro e w1 ⟨rfl, hi1, hw1⟩)
  go_end0
  exact ⟨rfl, hi1, hw1⟩
set_option maxHeartbeats 2000000 in
set_option maxRecDepth 100000 in
theorem each1.leaf {S : Type} {P : BT → S → Prop} {gd : FuncId} {caps : Array Value} {Inv : S → World → Prop} {go : BT → S → Bool} {next : BT → S → S} {B pd pw : Nat} (hent : Entered gd) (hdo : Doing P gd caps Inv go next B pd pw)
    (b : Nat) (p : Int) (lo hi : Nat) (s : S) (W : World) (h : BTIn W (.leaf b p) lo hi) (hB : hi ≤ B) (hp : P (.leaf b p) s) (hi0 : Inv s W) (hd : W.heap[pd]? = some (doO gd caps)) (hw : W.heap[pw]? = some (walkO pd pw)) (hg : go (.leaf b p) s = true) :
    Calls Tryd.prog 57 #[.pointer (some ⟨b, 0, none⟩), .pointer (some ⟨pd, 0, none⟩), .pointer (some ⟨pw, 0, none⟩)] W (WentTo Inv (next (.leaf b p) s) B pd pw W) := by
  have H := Aside0.mk (hdo (.leaf b p) lo hi s W h hB hp hi0 hd hw)
  rw [hg] at H
  have HN := Aside0.mk (fun (w1 : World) (hw : Below B W w1) => show w1.cell? ⟨b, 1, none⟩ = some (.pointer none) from (blk_cell ((hw.block b (by have := h.2.1; omega)).trans h.2.2) 1).trans rfl)
  have hc : W.cell? ⟨pd, 0, none⟩ = some (.func (.func gd) #[] caps) := (blk_cell hd 0).trans rfl
  clear hdo h hB hp hi0 hd hw hg
  unfold Entered at hent
  go_enter Tryd.func57, Tryd.ntmps57
  go_wp2_with (refine (H.out).mono ?_; rintro e w1 ⟨rfl, hi1, hw1⟩; have hn := HN.out w1 hw1.below)
  go_end0
  exact ⟨rfl, hi1, hw1⟩
set_option maxHeartbeats 2000000 in
set_option maxRecDepth 100000 in
theorem each1.node {S : Type} {P : BT → S → Prop} {gd : FuncId} {caps : Array Value} {Inv : S → World → Prop} {go : BT → S → Bool} {next : BT → S → S} {B pd pw : Nat} (hdr : ∀ s w, Inv s w → Inv s w.drew) (hent : Entered gd) (hdo : Doing P gd caps Inv go next B pd pw)
    (b : Nat) (l r : BT) (lo hi : Nat) (s s2 s3 : S) (W : World) (h : BTIn W (.node b l r) lo hi) (hB : hi ≤ B) (hp : P (.node b l r) s) (hi0 : Inv s W) (hd : W.heap[pd]? = some (doO gd caps)) (hw : W.heap[pw]? = some (walkO pd pw)) (hg : go (.node b l r) s = true)
    (hR : ∀ w1 : World, Inv (next (.node b l r) s) w1 → Went B pd pw W w1 → Calls Tryd.prog 57 #[.pointer (some ⟨r.at_, 0, none⟩), .pointer (some ⟨pd, 0, none⟩), .pointer (some ⟨pw, 0, none⟩)] w1 (WentTo Inv s2 B pd pw w1))
    (hL : ∀ w1 : World, Inv s2 w1 → Went B pd pw W w1 → Calls Tryd.prog 57 #[.pointer (some ⟨l.at_, 0, none⟩), .pointer (some ⟨pd, 0, none⟩), .pointer (some ⟨pw, 0, none⟩)] w1 (WentTo Inv s3 B pd pw w1)) :
    Calls Tryd.prog 57 #[.pointer (some ⟨b, 0, none⟩), .pointer (some ⟨pd, 0, none⟩), .pointer (some ⟨pw, 0, none⟩)] W (WentTo Inv s3 B pd pw W) := by
  have H := Aside0.mk (hdo (.node b l r) lo hi s W h hB hp hi0 hd hw)
  rw [hg] at H
  have hlt := h.tree.lt
  obtain ⟨m, h1, h2, h3, h4, h5, h6⟩ := h
  have HN := Aside0.mk (fun (w1 : World) (hw : Below B W w1) => show w1.cell? ⟨b, 1, none⟩ = some (.pointer (some ⟨l.at_, 0, none⟩)) ∧ w1.cell? ⟨b, 2, none⟩ = some (.pointer (some ⟨r.at_, 0, none⟩)) from
    have hb := (hw.block b (by omega)).trans h4
    ⟨(blk_cell hb 1).trans rfl, (blk_cell hb 2).trans rfl⟩)
  have HW := Aside0.mk (fun (w1 : World) (hq : w1.heap[pw]? = W.heap[pw]?) => show w1.cell? ⟨pw, 0, none⟩ = some (.func (.func 57) #[] #[.pointer (some ⟨pd, 0, none⟩), .pointer (some ⟨pw, 0, none⟩)]) from (blk_cell (hq.trans hw) 0).trans rfl)
  have hc : W.cell? ⟨pd, 0, none⟩ = some (.func (.func gd) #[] caps) := (blk_cell hd 0).trans rfl
  have HR := Aside0.mk hR
  have HL := Aside0.mk hL
  have HD := Aside0.mk hdr
  clear hdr hdo h1 h2 h3 h4 h5 h6 hlt hB hp hi0 hd hw hg hR hL
  unfold Entered at hent
  go_enter Tryd.func57, Tryd.ntmps57
  go_upto_region 1 with (refine (H.out).mono ?_; rintro e w1 ⟨rfl, hi1, hw1⟩; have hn := (HN.out w1 hw1.below).1; have hn2 := (HN.out w1 hw1.below).2; have hpw := HW.out w1 hw1.pw)
  have HI1 := Aside0.mk hi1
  have HW1 := Aside0.mk hw1
  clear hc hn hi1 hw1
  go_still_tail 5, (by kernel_rfl)
  go_upto_region 2 with (go_at_call 57; go_loud (refine (HR.out _ (HD.out _ _ HI1.out) HW1.out.drew).mono ?_; rintro e w2 ⟨rfl, hi2, hw2⟩; have HI2 := Aside0.mk hi2; have HW2 := Aside0.mk (HW1.out.drew.trans hw2); have hn3 := (HN.out w2 HW2.out.below).1; have hpw2 := HW.out w2 HW2.out.pw; clear hi2 hw2 hpw hn2))
  go_still_tail 5, (by kernel_rfl)
  go_wp2_with (go_at_call 57; go_loud (refine (HL.out _ (HD.out _ _ HI2.out) HW2.out.drew).mono ?_; rintro e w3 ⟨rfl, hi3, hw3⟩))
  go_end0
  exact ⟨rfl, hi3, HW2.out.drew.trans hw3⟩
theorem each1.calls {S : Type} {P : BT → S → Prop} {gd : FuncId} {caps : Array Value} {Inv : S → World → Prop} {go : BT → S → Bool} {next : BT → S → S} {B pd pw : Nat} (hdr : ∀ s w, Inv s w → Inv s w.drew) (hent : Entered gd) (hdo : Doing P gd caps Inv go next B pd pw)
    (hP : ∀ b l r s, P (.node b l r) s → go (.node b l r) s = true → P r (next (.node b l r) s) ∧ P l (walkS go next r (next (.node b l r) s))) :
    ∀ (T : BT) (lo hi : Nat) (s : S) (W : World), BTIn W T lo hi → hi ≤ B → P T s → Inv s W → W.heap[pd]? = some (doO gd caps) → W.heap[pw]? = some (walkO pd pw) →
    Calls Tryd.prog 57 #[.pointer (some ⟨T.at_, 0, none⟩), .pointer (some ⟨pd, 0, none⟩), .pointer (some ⟨pw, 0, none⟩)] W (WentTo Inv (walkS go next T s) B pd pw W)
  | .leaf b p, lo, hi, s, W, h, hB, hp, hi0, hd, hw => by
    cases hg : go (.leaf b p) s with
    | false => exact each1.no hent hdo (.leaf b p) lo hi s W h hB hp hi0 hd hw hg
    | true => exact each1.leaf hent hdo b p lo hi s W h hB hp hi0 hd hw hg
  | .node b l r, lo, hi, s, W, h, hB, hp, hi0, hd, hw => by
    cases hg : go (.node b l r) s with
    | false =>
      rw [walkS, if_neg (by rw [hg]; decide)]
      exact each1.no hent hdo (.node b l r) lo hi s W h hB hp hi0 hd hw hg
    | true =>
      rw [walkS, if_pos hg]
      have hlt := h.tree.lt
      obtain ⟨m, h1, h2, h3, h4, h5, h6⟩ := h
      refine each1.node hdr hent hdo b l r lo hi s (walkS go next r (next (.node b l r) s)) _ W ⟨m, h1, h2, h3, h4, h5, h6⟩ hB hp hi0 hd hw hg (fun w1 q1 q2 => ?_) (fun w1 q1 q2 => ?_)
      · exact each1.calls hdr hent hdo hP r m hi _ w1 (h6.below q2.below hB) hB (hP b l r s hp hg).1 q1 (q2.pd.trans hd) (q2.pw.trans hw)
      · have h7 := h6.tree.lt
        exact each1.calls hdr hent hdo hP l (b + 1) m _ w1 (h5.below q2.below (by omega)) (by omega) (hP b l r s hp hg).2 q1 (q2.pd.trans hd) (q2.pw.trans hw)
def EachOut {S : Type} (Inv : S → World → Prop) (s : S) (B : Nat) (W : World) (e : Ending) (w' : World) : Prop := e = .returned (.tuple #[]) ∧ Inv s w' ∧ Below B W w'
set_option maxHeartbeats 2000000 in
set_option maxRecDepth 100000 in
/-- Going over a tree. -/
theorem each.calls {S : Type} {P : BT → S → Prop} {gd : FuncId} {caps : Array Value} {Inv : S → World → Prop} {go : BT → S → Bool} {next : BT → S → S} {B : Nat} (hdr : ∀ s w, Inv s w → Inv s w.drew) (hent : Entered gd) (T : BT) (lo hi : Nat) (s : S) (W : World) (h : BTIn W T lo hi) (hB : hi ≤ B) (hBW : B ≤ W.heap.size)
    (hP : ∀ b l r s, P (.node b l r) s → go (.node b l r) s = true → P r (next (.node b l r) s) ∧ P l (walkS go next r (next (.node b l r) s))) (hp : P T s)
    (hdo : ∀ pd pw, W.heap.size ≤ pd → W.heap.size ≤ pw → Doing P gd caps Inv go next B pd pw) (hi0 : ∀ W', Below W.heap.size W W' → Inv s W') :
    Calls Tryd.prog 34 #[.pointer (some ⟨T.at_, 0, none⟩), .func (.func gd) #[] caps] W (EachOut Inv (walkS go next T s) B W) := by
  have hz : (W.alloc (doO gd caps)).heap.size = W.heap.size + 1 := by simp
  have hb1 : Below W.heap.size W ((W.alloc (doO gd caps)).alloc (walkO W.heap.size (W.heap.size + 1))) := below_alloc (below_alloc (Below.refl _ _) _) _
  have hb2 : Below B W ((W.alloc (doO gd caps)).alloc (walkO W.heap.size (W.heap.size + 1))) := ((Below.refl B W).alloc hBW _).alloc (by omega) _
  have hw : ((W.alloc (doO gd caps)).alloc (walkO W.heap.size (W.heap.size + 1))).heap[W.heap.size + 1]? = some (walkO W.heap.size (W.heap.size + 1)) := by
    have := blk_new (W.alloc (doO gd caps)) (walkO W.heap.size (W.heap.size + 1))
    rwa [hz] at this
  have HC := Aside0.mk (each1.calls hdr hent (hdo W.heap.size (W.heap.size + 1) (Nat.le_refl _) (Nat.le_succ _)) hP T lo hi s _ (h.below hb2 hB) hB hp (hi0 _ hb1) (blk_alloc (blk_new W _) _) hw)
  have HB := Aside0.mk hb2
  clear hP hp hdr hent h hB hBW hdo hi0 hz hb1 hb2 hw
  go_enter Tryd.func34, Tryd.ntmps34
  go_wp2_with (go_at_call 57; go_loud (refine (HC.out).mono ?_; rintro e w1 ⟨rfl, hi1, hw1⟩))
  go_end0
  exact ⟨rfl, hi1, HB.out.trans hw1.below⟩

end Go.Proofs.YtiofobdmkkbmlaaDoor.F
