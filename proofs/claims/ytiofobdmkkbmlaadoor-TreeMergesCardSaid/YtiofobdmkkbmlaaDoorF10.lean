-- Laid by mk.py (a program of this session) over the seat's translation.
import Derived.Test.YtiofobdmkkbmlaaDoorWX
import Derived.Test.YtiofobdmkkbmlaaDoorF0
import Derived.Test.YtiofobdmkkbmlaaDoorF14
import Derived.Test.YtiofobdmkkbmlaaDoorF31
import Derived.Test.YtiofobdmkkbmlaaDoorF32
import Derived.Test.YtiofobdmkkbmlaaDoorF33
import Derived.Test.YtiofobdmkkbmlaaDoorF34
import Derived.Test.YtiofobdmkkbmlaaDoorF38
import Derived.Test.YtiofobdmkkbmlaaDoorF44
import Derived.Test.YtiofobdmkkbmlaaDoorF53
import Derived.Test.YtiofobdmkkbmlaaDoorF54
import Derived.Laws.EntriesVeiled
import Derived.StillTailTactics
import Derived.RegionTactic
import Derived.BigRegion
import Derived.Deep.QuietTactic
import Derived.BigQuiet
import Derived.Test.YtiofobdmkkbmlaaDoorLTree
namespace Go.Proofs.YtiofobdmkkbmlaaDoor.F
open Go.RowKit Go.Proofs.YtiofobdmkkbmlaaDoorW.PrintWords Go.Proofs.YtiofobdmkkbmlaaDoorW.PrintLast Go.Proofs.YtiofobdmkkbmlaaDoorW.PrintMore
attribute [local go_sem] max2_int min2_int max_two min_two max_three min_three max_four min_four
set_option linter.unusedVariables false
set_option linter.unusedSimpArgs false

/-! ### tree_Join: function 10 -/
open Go.Proofs.YtiofobdmkkbmlaaDoor.Pure Go.Deep
def BoolOut (w : World) (r : Bool) (e : Ending) (w' : World) : Prop := e = .returned (.bool r) ∧ Below w.heap.size w w'
theorem full_dec (t : Tr) : t.full = ((t.mems.length : Int) == (2 ^ t.depth : Nat)) := by
  unfold Tr.full
  rw [mems_len, Bool.eq_iff_iff, decide_eq_true_eq, beq_iff_eq]
  omega
theorem pow_wrap {d : Nat} (h : d ≤ 8) : wrap64 ((2 : Int) ^ d) = ((2 ^ d : Nat) : Int) := by
  have h1 : (2 : Nat) ^ d ≤ 2 ^ 8 := Nat.pow_le_pow_right (by decide) h
  have h2 : ((2 : Int) ^ d) = ((2 ^ d : Nat) : Int) := by simp
  have h0 : (0 : Int) ≤ ((2 ^ d : Nat) : Int) := Int.natCast_nonneg _
  rw [h2]
  generalize 2 ^ d = x at h1 h0
  unfold wrap64
  omega
set_option maxHeartbeats 2000000 in
set_option maxRecDepth 100000 in
theorem full.calls (t : Tr) (lo hi b : Nat) (w : World) (h : TreeIn w t lo hi b) (hw : hi ≤ w.heap.size) (hn : t.leaves.length ≤ 9) :
    Calls Tryd.prog 36 #[.pointer (some ⟨b, 0, none⟩)] w (BoolOut w t.full) := by
  have HM := Aside0.mk (members.calls t lo hi b w h hw (by omega))
  have HD := Aside0.mk (fun (W : World) (hb : Below w.heap.size w W) => depth.calls t lo hi b W (h.below hb hw) (by omega))
  have hd := t.depth_lt; have hdn : t.depth ≤ 8 := by omega
  have HF := Aside0.mk (full_dec t)
  have hml : t.mems.length ≤ 9 := by rw [mems_len]; exact hn
  generalize t.mems = mm at HM HF hml
  generalize t.full = ff at HF ⊢
  generalize t.depth = d at HD HF hdn
  clear h hw hn hd; go_enter Tryd.func36, Tryd.ntmps36
  go_wp2_with (first
    | (go_at_call 33; go_loud (refine (HM.out).mono ?_; rintro e w1 ⟨v, rfl, hv, hb1⟩; obtain ⟨A1, c1, rfl⟩ := Kd.R_slice hv; have HB1 := Aside0.mk hb1; clear hv hb1))
    | (go_at_call 37; go_loud (refine (HD.out _ HB1.out).mono ?_; rintro e w2 ⟨rfl, n2, rfl⟩)))
  go_ret
  refine ⟨?_, below_step HB1.out (pw_below_drewN (Below.refl _ _) n2)⟩
  rw [HF.out, ← pow_wrap hdn]
  rfl
/-! where one joins -/
def plcV : Option BT → Value
  | none => .pointer none
  | some X => .pointer (some ⟨X.at_, 0, none⟩)
/-- The place that was met so far, in a variable's block. -/
def Plc (g B : Nat) (s : Option BT) (W : World) : Prop := W.heap[g]? = some (.cells #[plcV s] 50 (0, 0)) ∧ ∀ X, s = some X → X.tr.leaves.length ≤ 9 ∧ ∃ lo hi, BTIn W X lo hi ∧ hi ≤ B
def goJ (T : BT) (_ : Option BT) : Bool := !T.tr.full
def nextJ (T : BT) (s : Option BT) : Option BT := if T.tr.full = true then (match s with
  | none => some T
  | some X => if T.tr.depth < X.tr.depth then some T else some X) else s
def PJ (T : BT) (_ : Option BT) : Prop := T.tr.leaves.length ≤ 9
theorem Plc.keep {g B : Nat} {s : Option BT} {W w' : World} (h : Plc g B s W) (hb : Below W.heap.size W w') (hB : B ≤ W.heap.size) : Plc g B s w' :=
  ⟨blk_below h.1 hb, fun X e => by obtain ⟨h1, lo, hi, h2, h3⟩ := h.2 X e; exact ⟨h1, lo, hi, h2.below hb (by omega), h3⟩⟩
theorem Plc.put {g B : Nat} {s : Option BT} {W : World} (h : Plc g B s W) (hgB : B ≤ g) (T : BT) {lo hi : Nat} (hT : BTIn W T lo hi) (hi2 : hi ≤ B) (hn : T.tr.leaves.length ≤ 9) : Plc g B (some T) (W.setCell ⟨g, 0, none⟩ (.pointer (some ⟨T.at_, 0, none⟩))) := by
  refine ⟨blk_put h.1 0 _ rfl, fun X e => ?_⟩
  cases e
  exact ⟨hn, lo, hi, hT.kept fun k _ k2 => Below.heap_setCell W ⟨g, 0, none⟩ _ k (by show k ≠ g; omega), hi2⟩
theorem went_below {B pd pw : Nat} {W w' : World} (hb : Below W.heap.size W w') (hB : B ≤ W.heap.size) {o1 o2 : Obj} (hd : W.heap[pd]? = some o1) (hw : W.heap[pw]? = some o2) : Went B pd pw W w' :=
  ⟨hb.mono hB, hb.block pd (blk_lt hd), hb.block pw (blk_lt hw)⟩
def SeenOut (r : Bool) (g B : Nat) (s : Option BT) (pd pw : Nat) (W : World) (e : Ending) (w' : World) : Prop := e = .returned (.bool r) ∧ Plc g B s w' ∧ Went B pd pw W w'
set_option maxHeartbeats 2000000 in
set_option maxRecDepth 100000 in
theorem join1.no (T : BT) (lo hi g B pd pw : Nat) (s : Option BT) (W : World) (h : BTIn W T lo hi) (hiB : hi ≤ B) (hB : B ≤ W.heap.size) (hn : T.tr.leaves.length ≤ 9) (hp : Plc g B s W) {o1 o2 : Obj} (hd : W.heap[pd]? = some o1) (hw : W.heap[pw]? = some o2) (hf : T.tr.full = false) :
    Calls Tryd.prog 35 #[.pointer (some ⟨T.at_, 0, none⟩), .pointer (some ⟨g, 0, none⟩)] W (SeenOut true g B s pd pw W) := by
  have HF := Aside0.mk (full.calls T.tr lo hi T.at_ W h.tree (Nat.le_trans hiB hB) hn)
  rw [hf] at HF
  have HP := Aside0.mk (fun w1 (hb : Below W.heap.size W w1) => show Plc g B s w1 ∧ Went B pd pw W w1 from ⟨hp.keep hb hB, went_below hb hB hd hw⟩)
  clear h hiB hB hn hp hd hw hf; go_enter Tryd.func35, Tryd.ntmps35
  go_wp2_with (go_at_call 36; go_loud (refine (HF.out).mono ?_; rintro e w1 ⟨rfl, hb1⟩))
  go_ret
  exact ⟨rfl, HP.out _ hb1⟩
set_option maxHeartbeats 2000000 in
set_option maxRecDepth 100000 in
theorem join1.first (T : BT) (lo hi g B pd pw : Nat) (W : World) (h : BTIn W T lo hi) (hiB : hi ≤ B) (hB : B ≤ W.heap.size) (hgB : B ≤ g) (hn : T.tr.leaves.length ≤ 9) (hp : Plc g B none W) {o1 o2 : Obj} (hd : W.heap[pd]? = some o1) (hw : W.heap[pw]? = some o2) (hgd : g ≠ pd) (hgw : g ≠ pw) (hf : T.tr.full = true) :
    Calls Tryd.prog 35 #[.pointer (some ⟨T.at_, 0, none⟩), .pointer (some ⟨g, 0, none⟩)] W (SeenOut false g B (some T) pd pw W) := by
  have HF := Aside0.mk (full.calls T.tr lo hi T.at_ W h.tree (Nat.le_trans hiB hB) hn)
  rw [hf] at HF
  have HP := Aside0.mk (fun w1 (hb : Below W.heap.size W w1) => show (w1.cell? ⟨g, 0, none⟩ = some (.pointer none) ∧ w1.frozen? ⟨g, 0, none⟩ = false) ∧ Plc g B (some T) (w1.setCell ⟨g, 0, none⟩ (.pointer (some ⟨T.at_, 0, none⟩))) ∧ Went B pd pw W (w1.setCell ⟨g, 0, none⟩ (.pointer (some ⟨T.at_, 0, none⟩))) from
    have h1 := hp.keep hb hB
    have h2 := went_below hb hB hd hw
    ⟨⟨(blk_cell h1.1 0).trans rfl, blk_frozen h1.1 0⟩, h1.put hgB T (h.below hb (Nat.le_trans hiB hB)) hiB hn,
      h2.below.setCell hgB _, (Below.heap_setCell w1 ⟨g, 0, none⟩ _ pd (Ne.symm hgd)).trans h2.pd, (Below.heap_setCell w1 ⟨g, 0, none⟩ _ pw (Ne.symm hgw)).trans h2.pw⟩)
  clear h hiB hB hgB hn hp hd hw hf hgd hgw; go_enter Tryd.func35, Tryd.ntmps35
  go_upto_region 3 with (go_at_call 36; go_loud (refine (HF.out).mono ?_; rintro e w1 ⟨rfl, hb1⟩; have hc := (HP.out w1 hb1).1.1; have hfr := (HP.out w1 hb1).1.2; have HB1 := Aside0.mk hb1; clear hb1))
  go_quiet (fail)
  go_wp2; go_ret
  exact ⟨rfl, (HP.out _ (pw_below_drewN HB1.out nq)).2⟩
set_option maxHeartbeats 2000000 in
set_option maxRecDepth 100000 in
theorem join1.better (T X : BT) (lo hi g B pd pw : Nat) (W : World) (h : BTIn W T lo hi) (hiB : hi ≤ B) (hB : B ≤ W.heap.size) (hgB : B ≤ g) (hn : T.tr.leaves.length ≤ 9) (hp : Plc g B (some X) W) {o1 o2 : Obj} (hd : W.heap[pd]? = some o1) (hw : W.heap[pw]? = some o2) (hgd : g ≠ pd) (hgw : g ≠ pw) (hf : T.tr.full = true) (hlt : T.tr.depth < X.tr.depth) :
    Calls Tryd.prog 35 #[.pointer (some ⟨T.at_, 0, none⟩), .pointer (some ⟨g, 0, none⟩)] W (SeenOut false g B (some T) pd pw W) := by
  have HF := Aside0.mk (full.calls T.tr lo hi T.at_ W h.tree (Nat.le_trans hiB hB) hn)
  rw [hf] at HF
  obtain ⟨hxn, xlo, xhi, hX, hxB⟩ := hp.2 X rfl
  have HDT0 := Aside0.mk (fun w1 (hb : Below W.heap.size W w1) n => depth.calls T.tr lo hi T.at_ (w1.drewN n) ((h.below hb (Nat.le_trans hiB hB)).tree.drewN n) (by omega))
  have HDX0 := Aside0.mk (fun w1 (hb : Below W.heap.size W w1) n => depth.calls X.tr xlo xhi X.at_ (w1.drewN n) ((hX.below hb (Nat.le_trans hxB hB)).tree.drewN n) (by omega))
  have HC := Aside0.mk (fun w1 (hb : Below W.heap.size W w1) => show w1.cell? ⟨g, 0, none⟩ = some (.pointer (some ⟨X.at_, 0, none⟩)) ∧ w1.frozen? ⟨g, 0, none⟩ = false from ⟨(blk_cell (hp.keep hb hB).1 0).trans rfl, blk_frozen (hp.keep hb hB).1 0⟩)
  have HP := Aside0.mk (fun w1 (hb : Below W.heap.size W w1) => show Plc g B (some T) (w1.setCell ⟨g, 0, none⟩ (.pointer (some ⟨T.at_, 0, none⟩))) ∧ Went B pd pw W (w1.setCell ⟨g, 0, none⟩ (.pointer (some ⟨T.at_, 0, none⟩))) from
    have h1 := hp.keep hb hB
    have h2 := went_below hb hB hd hw
    ⟨h1.put hgB T (h.below hb (Nat.le_trans hiB hB)) hiB hn,
      h2.below.setCell hgB _, (Below.heap_setCell w1 ⟨g, 0, none⟩ _ pd (Ne.symm hgd)).trans h2.pd, (Below.heap_setCell w1 ⟨g, 0, none⟩ _ pw (Ne.symm hgw)).trans h2.pw⟩)
  have ht1 : T.tr.depth ≤ 100 := by have := T.tr.depth_lt; omega
  have hx1 : X.tr.depth ≤ 100 := by have := X.tr.depth_lt; omega
  generalize T.tr.depth = x at HDT0 hlt ht1
  generalize X.tr.depth = y at HDX0 hlt hx1
  have q1 : decide ((x : Int) < (y : Int)) = true := decide_eq_true (by omega)
  have q2 : decide (x < y) = true := decide_eq_true hlt
  clear h hiB hB hgB hn hp hd hw hf hgd hgw hxn hX hxB hlt ht1 hx1; go_enter Tryd.func35, Tryd.ntmps35
  go_upto_region 3 with (go_at_call 36; go_loud (refine (HF.out).mono ?_; rintro e w1 ⟨rfl, hb1⟩; have hc := (HC.out w1 hb1).1; have hfr := (HC.out w1 hb1).2; have HDT := Aside0.mk (HDT0.out w1 hb1); have HDX := Aside0.mk (HDX0.out w1 hb1); have HB1 := Aside0.mk hb1; clear hb1))
  go_quiet ((first | (go_at_call_of 37 (Value.pointer (some (Addr.mk T.at_ 0 none))); exact Calls.quiet_of (HDT.out _)) | (go_at_call 37; exact Calls.quiet_of (HDX.out _))))
  go_wp2; go_ret
  exact ⟨rfl, HP.out _ (pw_below_drewN HB1.out nq)⟩
set_option maxHeartbeats 2000000 in
set_option maxRecDepth 100000 in
theorem join1.worse (T X : BT) (lo hi g B pd pw : Nat) (W : World) (h : BTIn W T lo hi) (hiB : hi ≤ B) (hB : B ≤ W.heap.size) (hgB : B ≤ g) (hn : T.tr.leaves.length ≤ 9) (hp : Plc g B (some X) W) {o1 o2 : Obj} (hd : W.heap[pd]? = some o1) (hw : W.heap[pw]? = some o2) (hgd : g ≠ pd) (hgw : g ≠ pw) (hf : T.tr.full = true) (hlt : ¬ T.tr.depth < X.tr.depth) :
    Calls Tryd.prog 35 #[.pointer (some ⟨T.at_, 0, none⟩), .pointer (some ⟨g, 0, none⟩)] W (SeenOut false g B (some X) pd pw W) := by
  have HF := Aside0.mk (full.calls T.tr lo hi T.at_ W h.tree (Nat.le_trans hiB hB) hn)
  rw [hf] at HF
  obtain ⟨hxn, xlo, xhi, hX, hxB⟩ := hp.2 X rfl
  have HDT0 := Aside0.mk (fun w1 (hb : Below W.heap.size W w1) n => depth.calls T.tr lo hi T.at_ (w1.drewN n) ((h.below hb (Nat.le_trans hiB hB)).tree.drewN n) (by omega))
  have HDX0 := Aside0.mk (fun w1 (hb : Below W.heap.size W w1) n => depth.calls X.tr xlo xhi X.at_ (w1.drewN n) ((hX.below hb (Nat.le_trans hxB hB)).tree.drewN n) (by omega))
  have HC := Aside0.mk (fun w1 (hb : Below W.heap.size W w1) => show w1.cell? ⟨g, 0, none⟩ = some (.pointer (some ⟨X.at_, 0, none⟩)) ∧ w1.frozen? ⟨g, 0, none⟩ = false from ⟨(blk_cell (hp.keep hb hB).1 0).trans rfl, blk_frozen (hp.keep hb hB).1 0⟩)
  have HP := Aside0.mk (fun w1 (hb : Below W.heap.size W w1) => show Plc g B (some X) w1 ∧ Went B pd pw W w1 from ⟨hp.keep hb hB, went_below hb hB hd hw⟩)
  have ht1 : T.tr.depth ≤ 100 := by have := T.tr.depth_lt; omega
  have hx1 : X.tr.depth ≤ 100 := by have := X.tr.depth_lt; omega
  generalize T.tr.depth = x at HDT0 hlt ht1
  generalize X.tr.depth = y at HDX0 hlt hx1
  have q1 : decide ((x : Int) < (y : Int)) = false := decide_eq_false (by omega)
  have q2 : decide (x < y) = false := decide_eq_false hlt
  clear h hiB hB hgB hn hp hd hw hf hgd hgw hxn hX hxB hlt ht1 hx1; go_enter Tryd.func35, Tryd.ntmps35
  go_upto_region 3 with (go_at_call 36; go_loud (refine (HF.out).mono ?_; rintro e w1 ⟨rfl, hb1⟩; have hc := (HC.out w1 hb1).1; have hfr := (HC.out w1 hb1).2; have HDT := Aside0.mk (HDT0.out w1 hb1); have HDX := Aside0.mk (HDX0.out w1 hb1); have HB1 := Aside0.mk hb1; clear hb1))
  go_quiet ((first | (go_at_call_of 37 (Value.pointer (some (Addr.mk T.at_ 0 none))); exact Calls.quiet_of (HDT.out _)) | (go_at_call 37; exact Calls.quiet_of (HDX.out _))))
  go_wp2; go_ret
  exact ⟨rfl, HP.out _ (pw_below_drewN HB1.out nq)⟩
theorem join1.ent : Entered 35 := fun args W => by
  go_simp
theorem join1.doing (g B pd pw : Nat) (hgB : B ≤ g) : Doing PJ 35 #[.pointer (some ⟨g, 0, none⟩)] (Plc g B) goJ nextJ B pd pw := by
  intro T lo hi s W h hB hp hi0 hd hw; have hBW : B ≤ W.heap.size := Nat.le_trans hgB (Nat.le_of_lt (blk_lt hi0.1))
  have hgd : g ≠ pd := blk_ne hi0.1 hd (by decide)
  have hgw : g ≠ pw := blk_ne hi0.1 hw (by decide)
  unfold PJ at hp
  unfold goJ nextJ
  by_cases hf : T.tr.full = true
  case neg =>
    have hf2 := Bool.eq_false_iff.mpr hf
    rw [hf2, if_neg (by decide)]
    exact join1.no T lo hi g B pd pw s W h hB hBW hp hi0 hd hw hf2
  rw [if_pos hf, hf]
  cases s with
  | none => exact join1.first T lo hi g B pd pw W h hB hBW hgB hp hi0 hd hw hgd hgw hf
  | some X =>
    simp only
    by_cases hlt : T.tr.depth < X.tr.depth
    · rw [if_pos hlt]
      exact join1.better T X lo hi g B pd pw W h hB hBW hgB hp hi0 hd hw hgd hgw hf hlt
    · rw [if_neg hlt]
      exact join1.worse T X lo hi g B pd pw W h hB hBW hgB hp hi0 hd hw hgd hgw hf hlt
/-- The node at which one joins. -/
def plc : BT → BT
  | .leaf b p => .leaf b p
  | .node b l r => if (BT.node b l r).tr.full = true then .node b l r else if (plc l).tr.depth < (plc r).tr.depth then plc l else plc r
theorem plc_full {T : BT} (h : T.tr.full = true) : plc T = T := by
  cases T with
  | leaf b p => rfl
  | node b l r => rw [plc, if_pos h]
theorem plc_depth : ∀ T : BT, (plc T).tr.depth = T.tr.place
  | .leaf b p => rfl
  | .node b l r => by
    by_cases h : (BT.node b l r).tr.full = true
    · rw [plc_full h, place_full h]
    · rw [plc, if_neg h]
      show _ = (Tr.node l.tr r.tr).place
      have h2 : ¬ (Tr.node l.tr r.tr).full = true := h
      rw [Tr.place, if_neg h2, ← plc_depth l, ← plc_depth r]
      split <;> omega
def pick2J (T : BT) (s : Option BT) : Option BT := match s with
  | none => some (plc T)
  | some X => if (plc T).tr.depth < X.tr.depth then some (plc T) else some X
theorem walkJ : ∀ (T : BT) (s : Option BT), walkS goJ nextJ T s = pick2J T s
  | .leaf b p, s => by
    rw [walkS]
    unfold nextJ pick2J
    rw [if_pos (show (BT.leaf b p).tr.full = true from rfl)]
    rfl
  | .node b l r, s => by
    by_cases h : (BT.node b l r).tr.full = true
    · have hg : goJ (.node b l r) s = false := by unfold goJ; rw [h]; rfl
      rw [walkS, if_neg (by rw [hg]; decide)]
      unfold nextJ pick2J
      rw [if_pos h, plc_full h]
    · have hg : goJ (.node b l r) s = true := by unfold goJ; rw [Bool.eq_false_iff.mpr h]; rfl
      have hn : nextJ (.node b l r) s = s := by unfold nextJ; rw [if_neg h]
      rw [walkS, if_pos hg, hn, walkJ r, walkJ l]
      have hp : plc (.node b l r) = if (plc l).tr.depth < (plc r).tr.depth then plc l else plc r := by rw [plc, if_neg h]
      unfold pick2J
      rw [hp]
      cases s with
      | none => simp only; split <;> rfl
      | some X =>
        simp only
        by_cases c1 : (plc r).tr.depth < X.tr.depth
        · rw [if_pos c1]
          simp only
          by_cases c2 : (plc l).tr.depth < (plc r).tr.depth
          · rw [if_pos c2, if_pos c2, if_pos (by omega)]
          · rw [if_neg c2, if_neg c2, if_pos c1]
        · rw [if_neg c1]
          simp only
          by_cases c2 : (plc l).tr.depth < (plc r).tr.depth
          · rw [if_pos c2]
          · rw [if_neg c2, if_neg c1, if_neg (by omega)]
theorem plc_in {w : World} : ∀ {T : BT} {lo hi : Nat}, BTIn w T lo hi → ∃ lo' hi', lo ≤ lo' ∧ hi' ≤ hi ∧ BTIn w (plc T) lo' hi'
  | .leaf b p, lo, hi, h => ⟨lo, hi, Nat.le_refl _, Nat.le_refl _, h⟩
  | .node b l r, lo, hi, h => by
    by_cases hf : (BT.node b l r).tr.full = true
    · rw [plc_full hf]; exact ⟨lo, hi, Nat.le_refl _, Nat.le_refl _, h⟩
    · obtain ⟨m, h1, h2, h3, h4, h5, h6⟩ := h; rw [plc, if_neg hf]
      split
      · obtain ⟨lo', hi', k1, k2, k3⟩ := plc_in h5; exact ⟨lo', hi', by omega, by omega, k3⟩
      · obtain ⟨lo', hi', k1, k2, k3⟩ := plc_in h6; exact ⟨lo', hi', by omega, by omega, k3⟩
theorem BTIn.tree_at {w w' : World} : ∀ {T : BT} {lo hi : Nat}, BTIn w T lo hi → (∀ k, lo ≤ k → k < hi → w'.heap[k]? = w.heap[k]?) → TreeAt w' T.tr T.at_ := fun h hk => (h.kept hk).tree.at_
/-- A tree's root lies in another block, and the rest where it lay. -/
theorem moved {w w' : World} {T : BT} {lo hi B1 : Nat} (h : BTIn w T lo hi) (hk : ∀ k, lo ≤ k → k < hi → k ≠ T.at_ → w'.heap[k]? = w.heap[k]?) (hb : w'.heap[B1]? = w.heap[T.at_]?) : TreeAt w' T.tr B1 := by
  cases T with
  | leaf b p => exact hb.trans h.2.2
  | node b l r =>
    obtain ⟨m, h1, h2, h3, h4, h5, h6⟩ := h; exact ⟨l.at_, r.at_, hb.trans h4, h5.tree_at fun k k1 k2 => hk k (by omega) (by omega) (by show k ≠ b; omega), h6.tree_at fun k k1 k2 => hk k (by omega) (by omega) (by show k ≠ b; omega)⟩
theorem joined {w w' : World} {B1 B2 : Nat} {p : Int} : ∀ {T : BT} {lo hi : Nat}, BTIn w T lo hi → (∀ k, lo ≤ k → k < hi → k ≠ (plc T).at_ → w'.heap[k]? = w.heap[k]?) → w'.heap[B1]? = w.heap[(plc T).at_]? → w'.heap[B2]? = some (nodeO p (.pointer none) (.pointer none)) →
    w'.heap[(plc T).at_]? = some (nodeO 0 (.pointer (some ⟨B1, 0, none⟩)) (.pointer (some ⟨B2, 0, none⟩))) → TreeAt w' (T.tr.put T.tr.place p) T.at_
  | T, lo, hi, h, hk, hb1, hb2, hx => by
    by_cases hf : T.tr.full = true
    · rw [plc_full hf] at hk hb1 hx
      rw [put_full hf]
      exact ⟨B1, B2, hx, moved h hk hb1, hb2⟩
    · cases T with
      | leaf b q => exact absurd rfl hf
      | node b l r =>
        obtain ⟨m, h1, h2, h3, h4, h5, h6⟩ := h; have hf2 : ¬ (Tr.node l.tr r.tr).full = true := hf
        have hpl : (BT.node b l r).tr.place = min l.tr.place r.tr.place := by
          show (Tr.node l.tr r.tr).place = _
          rw [Tr.place, if_neg hf2]
        rw [hpl]
        show TreeAt w' ((Tr.node l.tr r.tr).put _ p) b
        rw [Tr.put, if_neg hf2]
        have hp : plc (.node b l r) = if (plc l).tr.depth < (plc r).tr.depth then plc l else plc r := by rw [plc, if_neg hf]
        rw [plc_depth, plc_depth] at hp
        by_cases c : l.tr.place < r.tr.place
        · rw [if_pos c] at hp
          rw [hp] at hk hb1 hx
          obtain ⟨lo', hi', k1, k2, k3⟩ := plc_in h5; have hin := k3.tree.lt; rw [if_neg (by omega), show min l.tr.place r.tr.place = l.tr.place by omega]
          refine ⟨l.at_, r.at_, (hk b h1 (by omega) (by omega)).trans h4, joined h5 (fun k q1 q2 q3 => hk k (by omega) (by omega) q3) hb1 hb2 hx, h6.tree_at fun k q1 q2 => hk k (by omega) (by omega) (by omega)⟩
        · rw [if_neg c] at hp
          rw [hp] at hk hb1 hx
          obtain ⟨lo', hi', k1, k2, k3⟩ := plc_in h6; have hin := k3.tree.lt; rw [if_pos (by omega), show min l.tr.place r.tr.place = r.tr.place by omega]
          refine ⟨l.at_, r.at_, (hk b h1 (by omega) (by omega)).trans h4, h5.tree_at fun k q1 q2 => hk k (by omega) (by omega) (by omega), joined h6 (fun k q1 q2 q3 => hk k (by omega) (by omega) q3) hb1 hb2 hx⟩
def StrOut (w : World) (r : ByteArray) (c : Int) (e : Ending) (w' : World) : Prop := e = .returned (.tuple #[.string r, .int .i64 c]) ∧ Below w.heap.size w w'
theorem leaf_bad {p : Int} (h : ¬ (1 ≤ p ∧ p ≤ 8)) : tree_Leaf.f p = some (⟨#[]⟩, 1) := by
  unfold tree_Leaf.f
  by_cases c : p < 1
  · rw [if_pos c]
  · rw [if_neg c, if_pos (by omega)]
theorem leaf_good {p : Int} (h : 1 ≤ p ∧ p ≤ 8) : tree_Leaf.f p = some (digT p, 0) := by
  unfold tree_Leaf.f strconv_Itoa_44.f
  rw [if_neg (by omega), if_neg (by omega), if_pos ⟨by omega, by omega⟩]
  rfl
theorem right_len {t : Tr} (h : t.Right) : t.leaves.length ≤ 8 := by
  have h1 : t.mems.Nodup := (mems_perm t).nodup_iff.mpr h.2
  have h2 : ∀ x ∈ t.mems, 1 ≤ x ∧ x ≤ 8 := fun x hx => h.1 x (mems_mem.mp hx)
  have h3 := strict_of _ (mems_sorted t) h1
  have h4 : ∀ (l : List Int) (a : Int), (a :: l).Pairwise (· < ·) → (∀ x ∈ l, x ≤ 8) → a ≤ 8 → (l.length : Int) ≤ 8 - a := by
    intro l; induction l with
    | nil => intro a _ _ h; simp; omega
    | cons x l ih =>
      intro a hp hx ha; have h5 := (List.pairwise_cons.mp hp).1 x List.mem_cons_self
      have h6 := ih x (List.pairwise_cons.mp hp).2 (fun y hy => hx y (List.mem_cons_of_mem _ hy)) (hx x List.mem_cons_self)
      rw [List.length_cons]
      omega
  have h5 := h4 t.mems 0 (List.pairwise_cons.mpr ⟨fun x hx => by have := h2 x hx; omega, h3⟩) (fun x hx => (h2 x hx).2) (by omega)
  rw [mems_len] at h5
  omega
set_option maxHeartbeats 2000000 in
set_option maxRecDepth 100000 in
theorem join.none_ (s : ByteArray) (p : Int) (w : World) (hs : s.size ≤ 1000) (ht : treeOf s = none) : Calls Tryd.prog 10 #[.string s, .int .i64 p] w (StrOut w ⟨#[]⟩ 1) := by
  have HO := Aside0.mk (of.calls s w hs)
  rw [ht] at HO
  have HL : ∃ r1 r2, tree_Leaf.f p = some (r1, r2) := by
    by_cases h : 1 ≤ p ∧ p ≤ 8
    · exact ⟨_, _, leaf_good h⟩
    · exact ⟨_, _, leaf_bad h⟩
  obtain ⟨r1, r2, hl⟩ := HL; have HL := Aside0.mk (fun W => tree_Leaf.calls p r1 r2 W hl)
  clear hs ht hl; go_enter Tryd.func10, Tryd.ntmps10
  go_wp2_with (first
    | (go_at_call 31; go_loud (refine (HO.out).mono ?_; rintro e w1 ⟨rfl, hb1⟩))
    | (go_at_call 14; go_loud (refine (HL.out _).mono ?_; rintro e w2 ⟨rfl, hd2⟩)))
  go_ret2
  exact ⟨rfl, below_step hb1 hd2.below⟩
set_option maxHeartbeats 2000000 in
set_option maxRecDepth 100000 in
theorem join.arg (s : ByteArray) (p : Int) (w : World) (hs : s.size ≤ 1000) (t : Tr) (ht : treeOf s = some t) (hp : ¬ (1 ≤ p ∧ p ≤ 8)) : Calls Tryd.prog 10 #[.string s, .int .i64 p] w (StrOut w ⟨#[]⟩ 1) := by
  have HO := Aside0.mk (of.calls s w hs)
  rw [ht] at HO
  have HL := Aside0.mk (fun W => tree_Leaf.calls p _ _ W (leaf_bad hp))
  clear hs ht hp; go_enter Tryd.func10, Tryd.ntmps10
  go_wp2_with (first
    | (go_at_call 31; go_loud (refine (HO.out).mono ?_; rintro e w1 ⟨⟨b, rfl, ht1⟩, hb1⟩; clear ht1))
    | (go_at_call 14; go_loud (refine (HL.out _).mono ?_; rintro e w2 ⟨rfl, hd2⟩)))
  go_ret2
  exact ⟨rfl, below_step hb1 hd2.below⟩
set_option maxHeartbeats 2000000 in
set_option maxRecDepth 100000 in
theorem join.has (s : ByteArray) (p : Int) (w : World) (hs : s.size ≤ 1000) (t : Tr) (ht : treeOf s = some t) (hp : 1 ≤ p ∧ p ≤ 8) (hm : p ∈ t.leaves) : Calls Tryd.prog 10 #[.string s, .int .i64 p] w (StrOut w ⟨#[]⟩ 1) := by
  have HO := Aside0.mk (of.calls s w hs)
  have hr := right_len (treeOf_some.mp ht).2
  rw [ht] at HO
  have HL := Aside0.mk (fun W => tree_Leaf.calls p _ _ W (leaf_good hp))
  have HM := Aside0.mk (fun (w1 w2 : World) (b lo : Nat) (h : TreeIn w1 t lo w1.heap.size b) (hd : Drawn0 w1 w2) => members.calls t lo w1.heap.size b w2 (h.below hd.below (Nat.le_refl _)) hd.below.size (by omega))
  have HV := Aside0.mk (fun (w2 : World) A c hr hc => view_Has.calls A c t.mems p true w2 hr hc (show view_Has.f t.mems p = some true by unfold view_Has.f slices_Contains_int_int.f; rw [Option.bind_some]; congr 1; rw [List.contains_iff_mem]; exact mems_mem.mpr hm))
  clear hs ht hp hm hr; go_enter Tryd.func10, Tryd.ntmps10
  go_wp2_with (first
    | (go_at_call 31; go_loud (refine (HO.out).mono ?_; rintro e w1 ⟨⟨b, rfl, ht1⟩, hb1⟩; have HT := Aside0.mk ht1; have HB1 := Aside0.mk hb1; clear ht1 hb1))
    | (go_at_call 14; go_loud (refine (HL.out _).mono ?_; rintro e w2 ⟨rfl, hd2⟩; have HD2 := Aside0.mk hd2; clear hd2))
    | (go_at_call 33; go_loud (refine (HM.out _ _ _ _ HT.out HD2.out).mono ?_; rintro e w3 ⟨v, rfl, hv, hb3⟩; obtain ⟨A1, c1, rfl⟩ := Kd.R_slice hv; have HV3 := Aside0.mk hv; have HB3 := Aside0.mk hb3; clear hv hb3))
    | (go_at_call 32; go_loud (refine (HV.out _ _ _ (Kd.R_reads' HV3.out).2.2 (Kd.R_reads' HV3.out).2.1).mono ?_; rintro e w4 ⟨rfl, hd4⟩)))
  go_ret2
  exact ⟨rfl, below_step (below_step (below_step HB1.out HD2.out.below) HB3.out) hd4.below⟩
theorem Plc.drew {g B : Nat} {s : Option BT} {W : World} (h : Plc g B s W) : Plc g B s W.drew := ⟨h.1, fun X e => by obtain ⟨h1, lo, hi, h2, h3⟩ := h.2 X e; exact ⟨h1, lo, hi, h2.kept fun _ _ _ => rfl, h3⟩⟩
theorem PJ_step (b : Nat) (l r : BT) (s : Option BT) (h : PJ (.node b l r) s) (s1 s2 : Option BT) : PJ r s1 ∧ PJ l s2 := by
  unfold PJ at h ⊢
  simp only [BT.tr, Tr.leaves, List.length_append] at h; omega
theorem root_obj {w : World} {T : BT} {lo hi : Nat} (h : BTIn w T lo hi) : ∃ (q : Int) (pl pr : Option Addr), w.heap[T.at_]? = some (nodeO q (.pointer pl) (.pointer pr)) := by
  cases T with
  | leaf b p => exact ⟨p, none, none, h.2.2⟩
  | node b l r => obtain ⟨m, h1, h2, h3, h4, h5, h6⟩ := h; exact ⟨0, _, _, h4⟩
theorem join.each (T : BT) (lo hi : Nat) (w4 : World) (h : BTIn w4 T lo hi) (hi4 : hi ≤ w4.heap.size) (hn : T.tr.leaves.length ≤ 9) :
    Calls Tryd.prog 34 #[.pointer (some ⟨T.at_, 0, none⟩), .func (.func 35) #[] #[.pointer (some ⟨w4.heap.size, 0, none⟩)]] (w4.alloc (.cells #[.pointer none] 50)) (EachOut (Plc w4.heap.size w4.heap.size) (some (plc T)) w4.heap.size (w4.alloc (.cells #[.pointer none] 50))) := by
  have hz : (w4.alloc (.cells #[.pointer none] 50)).heap.size = w4.heap.size + 1 := by simp
  have h1 := each.calls (P := PJ) (B := w4.heap.size) (Inv := Plc w4.heap.size w4.heap.size) (go := goJ) (next := nextJ) (caps := #[.pointer (some ⟨w4.heap.size, 0, none⟩)]) (fun s W q => q.drew) join1.ent T lo hi none (w4.alloc (.cells #[.pointer none] 50)) (h.below (below_alloc (Below.refl _ _) _) hi4) hi4 (by omega)
    (fun b l r s hp _ => PJ_step b l r s hp _ _) hn (fun pd pw _ _ => join1.doing w4.heap.size w4.heap.size pd pw (Nat.le_refl _)) (fun W' hb => ⟨blk_below (blk_new w4 _) hb, fun X e => by cases e⟩)
  rw [walkJ] at h1
  exact h1
theorem joined_world {w6 w7 : World} {T : BT} {lo hi x : Nat} {q p : Int} {pl pr : Option Addr} (hT : BTIn w6 T lo hi) (hh : hi ≤ w6.heap.size) (hx : w6.heap[x]? = some (nodeO q (.pointer pl) (.pointer pr))) (hxx : x = (plc T).at_)
    (hz7 : w7.heap.size = w6.heap.size + 1) (hn7 : w7.heap[w6.heap.size]? = some (nodeO q (.pointer pl) (.pointer pr))) (hb67 : Below w6.heap.size w6 w7) :
    TreeAt ((((w7.alloc (nodeO p (.pointer none) (.pointer none))).setCell ⟨x, 0, none⟩ (.int .i64 0)).setCell ⟨x, 1, none⟩ (.pointer (some ⟨w6.heap.size, 0, none⟩))).setCell ⟨x, 2, none⟩ (.pointer (some ⟨w7.heap.size, 0, none⟩))) (T.tr.join p) T.at_ := by
  have hxl : x < w6.heap.size := blk_lt hx
  have h8 : ∀ k, k < w6.heap.size → (w7.alloc (nodeO p (.pointer none) (.pointer none))).heap[k]? = w6.heap[k]? := fun k hk => ((below_alloc (Below.refl w7.heap.size w7) _).block k (by omega)).trans (hb67.block k hk)
  have hset : ∀ k, k ≠ x → ((((w7.alloc (nodeO p (.pointer none) (.pointer none))).setCell ⟨x, 0, none⟩ (.int .i64 0)).setCell ⟨x, 1, none⟩ (.pointer (some ⟨w6.heap.size, 0, none⟩))).setCell ⟨x, 2, none⟩ (.pointer (some ⟨w7.heap.size, 0, none⟩))).heap[k]? = (w7.alloc (nodeO p (.pointer none) (.pointer none))).heap[k]? := fun k hk =>
    (Below.heap_setCell _ ⟨x, 2, none⟩ _ k hk).trans ((Below.heap_setCell _ ⟨x, 1, none⟩ _ k hk).trans (Below.heap_setCell _ ⟨x, 0, none⟩ _ k hk))
  unfold Tr.join
  refine joined (B1 := w6.heap.size) (B2 := w7.heap.size) hT (fun k k1 k2 k3 => ?_) ?_ ?_ ?_
  · rw [← hxx] at k3
    exact (hset k k3).trans (h8 k (by omega))
  · rw [← hxx, hx]
    exact (hset _ (by omega)).trans (((below_alloc (Below.refl w7.heap.size w7) _).block _ (by omega)).trans hn7)
  · exact (hset _ (by omega)).trans (blk_new w7 _)
  · rw [← hxx]
    exact blk_put (blk_put (blk_put ((h8 x hxl).trans hx) 0 (.int .i64 0) rfl) 1 (.pointer (some ⟨w6.heap.size, 0, none⟩)) rfl) 2 (.pointer (some ⟨w7.heap.size, 0, none⟩)) rfl
set_option maxHeartbeats 4000000 in
set_option maxRecDepth 100000 in
theorem join.good (s : ByteArray) (p : Int) (w : World) (hs : s.size ≤ 1000) (t : Tr) (ht : treeOf s = some t) (hp : 1 ≤ p ∧ p ≤ 8) (hm : p ∉ t.leaves) : Calls Tryd.prog 10 #[.string s, .int .i64 p] w (StrOut w (t.join p).text 0) := by
  have HO := Aside0.mk (of.calls s w hs)
  have htr := (treeOf_some.mp ht).2
  have hr := right_len htr
  have hj := join_right htr hp hm
  have HJ := Aside0.mk hj
  have HJL := Aside0.mk (right_len hj)
  have HR := Aside0.mk hr
  rw [ht] at HO
  have HL := Aside0.mk (fun W => tree_Leaf.calls p _ _ W (leaf_good hp))
  have HM := Aside0.mk (fun (w1 w2 : World) (b lo : Nat) (h : TreeIn w1 t lo w1.heap.size b) (hd : Drawn0 w1 w2) => members.calls t lo w1.heap.size b w2 (h.below hd.below (Nat.le_refl _)) hd.below.size (by omega))
  have HV := Aside0.mk (fun (w2 : World) A c hr hc => view_Has.calls A c t.mems p false w2 hr hc (show view_Has.f t.mems p = some false by unfold view_Has.f slices_Contains_int_int.f; rw [Option.bind_some]; congr 1; rw [Bool.eq_false_iff]; exact fun h => hm (mems_mem.mp (List.contains_iff_mem.mp h))))
  clear hs ht hp hm hr htr hj; go_enter Tryd.func10, Tryd.ntmps10
  go_upto_region 5 with (first
    | (go_at_call 31; go_loud (refine (HO.out).mono ?_; rintro e w1 ⟨⟨b, rfl, ht1⟩, hb1⟩; have HT := Aside0.mk ht1; have HB1 := Aside0.mk hb1; clear ht1 hb1))
    | (go_at_call 14; go_loud (refine (HL.out _).mono ?_; rintro e w2 ⟨rfl, hd2⟩; have HD2 := Aside0.mk hd2; clear hd2))
    | (go_at_call 33; go_loud (refine (HM.out _ _ _ _ HT.out HD2.out).mono ?_; rintro e w3 ⟨v, rfl, hv, hb3⟩; obtain ⟨A1, c1, rfl⟩ := Kd.R_slice hv; have HV3 := Aside0.mk hv; have HB3 := Aside0.mk hb3; clear hv hb3))
    | (go_at_call 32; go_loud (refine (HV.out _ _ _ (Kd.R_reads' HV3.out).2.2 (Kd.R_reads' HV3.out).2.1).mono ?_; rintro e w4 ⟨rfl, hd4⟩)))
  have hb14 := below_step (below_step HD2.out.below HB3.out) hd4.below
  have HT4 := HT.out.below hb14 (Nat.le_refl _)
  have HB4 := Aside0.mk (below_step HB1.out hb14)
  have HS4 := Aside0.mk hb14.size
  clear hb14 hd4; obtain ⟨T, rfl, rfl, hT⟩ := TreeIn.bt HT4; have HE := Aside0.mk (join.each T _ _ w4 hT HS4.out (by have := HR.out; omega))
  have HTT := Aside0.mk hT
  clear hT HT4; go_upto_region 7 with (go_at_call 34; go_loud (refine (HE.out).mono ?_; rintro e w6 ⟨rfl, hi6, hb6⟩))
  have hb46 : Below w4.heap.size w4 w6 := (below_alloc (Below.refl _ _) _).trans hb6
  have hT6 := HTT.out.below hb46 HS4.out
  obtain ⟨lo', hi', k1, k2, k3⟩ := plc_in hT6; have hxl := k3.tree.lt; obtain ⟨q, pl, pr, hx⟩ := root_obj k3; obtain ⟨x, hxx⟩ : ∃ x, x = (plc T).at_ := ⟨_, rfl⟩
  have hcg : w6.cell? ⟨w4.heap.size, 0, none⟩ = some (.pointer (some ⟨x, 0, none⟩)) := by rw [hxx]; exact (blk_cell hi6.1 0).trans rfl
  rw [← hxx] at hx hxl
  have hc0 : w6.cell? ⟨x, 0, none⟩ = some (.int .i64 q) := (blk_cell hx 0).trans rfl
  have hc1 : w6.cell? ⟨x, 1, none⟩ = some (.pointer pl) := (blk_cell hx 1).trans rfl
  have hc2 : w6.cell? ⟨x, 2, none⟩ = some (.pointer pr) := (blk_cell hx 2).trans rfl
  have HX := Aside0.mk hx
  have HXX := Aside0.mk hxx
  have HI6 := Aside0.mk hi6
  have HXL := Aside0.mk hxl
  have HT6 := Aside0.mk hT6
  have HB46 := Aside0.mk hb46
  have HK1 := Aside0.mk k1
  have HK2 := Aside0.mk k2
  clear hx hxx hi6 hxl hT6 hb46 hb6 k1 k2 k3; go_upto_region 8 with (fail)
  have hn7 : (w6.alloc (nodeO q (.pointer pl) (.pointer pr))).heap[w6.heap.size]? = some (nodeO q (.pointer pl) (.pointer pr)) := blk_new w6 _
  have hb67 : Below w6.heap.size w6 (w6.alloc (nodeO q (.pointer pl) (.pointer pr))) := below_alloc (Below.refl _ _) _
  have hz7 : (w6.alloc (nodeO q (.pointer pl) (.pointer pr))).heap.size = w6.heap.size + 1 := by simp
  have HN7 := Aside0.mk hn7
  have HB67 := Aside0.mk hb67
  have HZ7 := Aside0.mk hz7
  have HX7 := Aside0.mk (blk_below HX.out hb67)
  have HG7 := Aside0.mk (blk_below HI6.out.1 hb67)
  clear hn7 hb67 hz7 hcg hc0 hc1 hc2; generalize w6.alloc (nodeO q (.pointer pl) (.pointer pr)) = w7 at HN7 HB67 HZ7 HX7 HG7 ⊢
  have hcg : w7.cell? ⟨w4.heap.size, 0, none⟩ = some (.pointer (some ⟨x, 0, none⟩)) := by rw [HXX.out]; exact (blk_cell HG7.out 0).trans rfl
  have hx0 : ∀ o : Obj, (w7.alloc o).cell? ⟨x, 0, none⟩ = some (.int .i64 q) := fun o => (blk_cell (blk_alloc HX7.out o) 0).trans rfl
  have hx1 : ∀ o : Obj, (w7.alloc o).cell? ⟨x, 1, none⟩ = some (.pointer pl) := fun o => (blk_cell (blk_alloc HX7.out o) 1).trans rfl
  have hx2 : ∀ o : Obj, (w7.alloc o).cell? ⟨x, 2, none⟩ = some (.pointer pr) := fun o => (blk_cell (blk_alloc HX7.out o) 2).trans rfl
  have f0 : ∀ o : Obj, (w7.alloc o).frozen? ⟨x, 0, none⟩ = false := fun o => blk_frozen (blk_alloc HX7.out o) 0
  have f1 : ∀ o : Obj, (w7.alloc o).frozen? ⟨x, 1, none⟩ = false := fun o => blk_frozen (blk_alloc HX7.out o) 1
  have f2 : ∀ o : Obj, (w7.alloc o).frozen? ⟨x, 2, none⟩ = false := fun o => blk_frozen (blk_alloc HX7.out o) 2
  go_upto_region 9 with (fail)
  have hta := joined_world (p := p) HT6.out (Nat.le_trans HS4.out HB46.out.size) HX.out HXX.out HZ7.out HN7.out HB67.out
  have hxw : w.heap.size ≤ x := Nat.le_trans HK1.out HXL.out.1
  have hbl := (((below_alloc (below_step (below_step HB4.out HB46.out) HB67.out) (nodeO p (.pointer none) (.pointer none))).setCell (p := ⟨x, 0, none⟩) hxw (.int .i64 0)).setCell (p := ⟨x, 1, none⟩) hxw (.pointer (some ⟨w6.heap.size, 0, none⟩))).setCell (p := ⟨x, 2, none⟩) hxw (.pointer (some ⟨w7.heap.size, 0, none⟩))
  clear hcg hx0 hx1 hx2 f0 f1 f2; generalize (((w7.alloc (nodeO p (.pointer none) (.pointer none))).setCell ⟨x, 0, none⟩ (.int .i64 0)).setCell ⟨x, 1, none⟩ (.pointer (some ⟨w6.heap.size, 0, none⟩))).setCell ⟨x, 2, none⟩ (.pointer (some ⟨w7.heap.size, 0, none⟩)) = W9 at hta hbl ⊢
  have HTX := Aside0.mk (text.calls (T.tr.join p) T.at_ W9 hta HJ.out.1 (by have := HJL.out; omega))
  have HBL := Aside0.mk hbl
  clear hta hbl hxw; go_wp2_with (go_at_call 38; go_loud (refine (HTX.out).mono ?_; rintro e w10 ⟨rfl, n10, rfl⟩))
  go_ret2
  exact ⟨rfl, by first | exact pw_below_drewN HBL.out n10 | exact below_drew1 (pw_below_drewN HBL.out n10)⟩
/-- A tree in which one joins, or what is wrong. -/
def joinT (s : ByteArray) (p : Int) : ByteArray × Int := match treeOf s with
  | none => (⟨#[]⟩, 1)
  | some t => if (1 ≤ p ∧ p ≤ 8) ∧ p ∉ t.leaves then ((t.join p).text, 0) else (⟨#[]⟩, 1)
def tree_Join.f (s : ByteArray) (p : Int) : Option (ByteArray × Int) := if s.size ≤ 1000 then some (joinT s p) else none
theorem tree_Join.calls (a0 : ByteArray) (a1 : Int) (r1 : ByteArray) (r2 : Int) (w : World) (h : tree_Join.f a0 a1 = some (r1, r2)) :
    Calls Tryd.prog 10 #[.string a0, .int .i64 a1] w fun e w' => e = .returned (.tuple #[.string r1, .int .i64 r2]) ∧ Below w.heap.size w w' := by
  unfold tree_Join.f at h
  split at h
  case isFalse => cases h
  rename_i hs
  have h2 := Option.some.inj h
  unfold joinT at h2
  cases ht : treeOf a0 with
  | none =>
    rw [ht] at h2
    cases h2
    exact join.none_ a0 a1 w hs ht
  | some t =>
    rw [ht] at h2
    simp only at h2
    by_cases c : (1 ≤ a1 ∧ a1 ≤ 8) ∧ a1 ∉ t.leaves
    · rw [if_pos c] at h2
      cases h2
      exact join.good a0 a1 w hs t ht c.1 c.2
    · rw [if_neg c] at h2
      cases h2
      by_cases d : 1 ≤ a1 ∧ a1 ≤ 8
      · exact join.has a0 a1 w hs t ht d (Classical.byContradiction fun h => c ⟨d, h⟩)
      · exact join.arg a0 a1 w hs t ht d

end Go.Proofs.YtiofobdmkkbmlaaDoor.F
