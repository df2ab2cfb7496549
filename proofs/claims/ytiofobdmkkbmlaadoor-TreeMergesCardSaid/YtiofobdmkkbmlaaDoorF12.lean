-- Laid by mk.py (a program of this session) over the seat's translation.
import Derived.Test.YtiofobdmkkbmlaaDoorF0
import Derived.Test.YtiofobdmkkbmlaaDoorF10
import Derived.Test.YtiofobdmkkbmlaaDoorF31
import Derived.Test.YtiofobdmkkbmlaaDoorF32
import Derived.Test.YtiofobdmkkbmlaaDoorF33
import Derived.Test.YtiofobdmkkbmlaaDoorF34
import Derived.Test.YtiofobdmkkbmlaaDoorF38
import Derived.Test.YtiofobdmkkbmlaaDoorF53
import Derived.Test.YtiofobdmkkbmlaaDoorF54
import Derived.Laws.EntriesVeiled
import Derived.StillTailTactics
import Derived.RegionTactic
import Derived.BigRegion
import Derived.Deep.QuietTactic
import Derived.BigQuiet
import Derived.Deep.RegionWith
import Derived.Test.YtiofobdmkkbmlaaDoorLTree
namespace Go.Proofs.YtiofobdmkkbmlaaDoor.F
open Go.RowKit Go.Proofs.YtiofobdmkkbmlaaDoorW.PrintWords Go.Proofs.YtiofobdmkkbmlaaDoorW.PrintLast Go.Proofs.YtiofobdmkkbmlaaDoorW.PrintMore
attribute [local go_sem] max2_int min2_int max_two min_two max_three min_three max_four min_four
set_option linter.unusedVariables false
set_option linter.unusedSimpArgs false

/-! ### tree_Leave: function 12 -/
open Go.Proofs.YtiofobdmkkbmlaaDoor.Pure Go.Deep
/-! a walk whose function writes -/
def DoneQ (v : Value) (Q : World → Prop) (e : Ending) (w' : World) : Prop := e = .returned v ∧ Q w'
set_option maxHeartbeats 2000000 in
set_option maxRecDepth 100000 in
theorem each1.stopQ {gd : FuncId} {caps : Array Value} {b pd pw : Nat} {W : World} {Q : World → Prop} (hent : Entered gd) (hd : W.heap[pd]? = some (doO gd caps)) (H0 : Calls Tryd.prog gd (#[.pointer (some ⟨b, 0, none⟩)] ++ caps) W (DoneQ (.bool false) Q)) :
    Calls Tryd.prog 57 #[.pointer (some ⟨b, 0, none⟩), .pointer (some ⟨pd, 0, none⟩), .pointer (some ⟨pw, 0, none⟩)] W (DoneQ (.tuple #[]) Q) := by
  have H := Aside0.mk H0
  have hc : W.cell? ⟨pd, 0, none⟩ = some (.func (.func gd) #[] caps) := (blk_cell hd 0).trans rfl
  clear H0 hd; unfold Entered at hent
  go_enter Tryd.func57, Tryd.ntmps57
  go_wp2_with (refine (H.out).mono ?_; rintro e w1 ⟨rfl, hq1⟩)
  go_end0
  exact ⟨rfl, hq1⟩
set_option maxHeartbeats 2000000 in
set_option maxRecDepth 100000 in
theorem each1.endQ {gd : FuncId} {caps : Array Value} {b pd pw : Nat} {W : World} {Q : World → Prop} (hent : Entered gd) (hd : W.heap[pd]? = some (doO gd caps)) (H0 : Calls Tryd.prog gd (#[.pointer (some ⟨b, 0, none⟩)] ++ caps) W (DoneQ (.bool true) Q)) (hq : ∀ w1, Q w1 → w1.cell? ⟨b, 1, none⟩ = some (.pointer none)) :
    Calls Tryd.prog 57 #[.pointer (some ⟨b, 0, none⟩), .pointer (some ⟨pd, 0, none⟩), .pointer (some ⟨pw, 0, none⟩)] W (DoneQ (.tuple #[]) Q) := by
  have H := Aside0.mk H0
  have HQ := Aside0.mk hq
  have hc : W.cell? ⟨pd, 0, none⟩ = some (.func (.func gd) #[] caps) := (blk_cell hd 0).trans rfl
  clear H0 hd hq; unfold Entered at hent
  go_enter Tryd.func57, Tryd.ntmps57
  go_wp2_with (refine (H.out).mono ?_; rintro e w1 ⟨rfl, hq1⟩; have hn := HQ.out w1 hq1)
  go_end0
  exact ⟨rfl, hq1⟩
set_option maxHeartbeats 2000000 in
set_option maxRecDepth 100000 in
theorem each1.goQ {gd : FuncId} {caps : Array Value} {b bl br pd pw : Nat} {W : World} {Q1 Q2 Q3 : World → Prop} (hent : Entered gd) (hd : W.heap[pd]? = some (doO gd caps)) (H0 : Calls Tryd.prog gd (#[.pointer (some ⟨b, 0, none⟩)] ++ caps) W (DoneQ (.bool true) Q1))
    (h1 : ∀ w1, Q1 w1 → w1.cell? ⟨b, 1, none⟩ = some (.pointer (some ⟨bl, 0, none⟩)) ∧ w1.cell? ⟨b, 2, none⟩ = some (.pointer (some ⟨br, 0, none⟩)) ∧ w1.cell? ⟨pw, 0, none⟩ = some (.func (.func 57) #[] #[.pointer (some ⟨pd, 0, none⟩), .pointer (some ⟨pw, 0, none⟩)]))
    (h2 : ∀ w1, Q2 w1 → w1.cell? ⟨b, 1, none⟩ = some (.pointer (some ⟨bl, 0, none⟩)) ∧ w1.cell? ⟨pw, 0, none⟩ = some (.func (.func 57) #[] #[.pointer (some ⟨pd, 0, none⟩), .pointer (some ⟨pw, 0, none⟩)]))
    (hR : ∀ w1 : World, Q1 w1 → Calls Tryd.prog 57 #[.pointer (some ⟨br, 0, none⟩), .pointer (some ⟨pd, 0, none⟩), .pointer (some ⟨pw, 0, none⟩)] w1.drew (DoneQ (.tuple #[]) Q2))
    (hL : ∀ w1 : World, Q2 w1 → Calls Tryd.prog 57 #[.pointer (some ⟨bl, 0, none⟩), .pointer (some ⟨pd, 0, none⟩), .pointer (some ⟨pw, 0, none⟩)] w1.drew (DoneQ (.tuple #[]) Q3)) :
    Calls Tryd.prog 57 #[.pointer (some ⟨b, 0, none⟩), .pointer (some ⟨pd, 0, none⟩), .pointer (some ⟨pw, 0, none⟩)] W (DoneQ (.tuple #[]) Q3) := by
  have H := Aside0.mk H0
  have K1 := Aside0.mk h1
  have K2 := Aside0.mk h2
  have HR := Aside0.mk hR
  have HL := Aside0.mk hL
  have hc : W.cell? ⟨pd, 0, none⟩ = some (.func (.func gd) #[] caps) := (blk_cell hd 0).trans rfl
  clear H0 hd h1 h2 hR hL; unfold Entered at hent
  go_enter Tryd.func57, Tryd.ntmps57
  go_upto_region 1 with (refine (H.out).mono ?_; rintro e w1 ⟨rfl, hq1⟩; have hn := (K1.out w1 hq1).1; have hn2 := (K1.out w1 hq1).2.1; have hpw := (K1.out w1 hq1).2.2; have HQ1 := Aside0.mk hq1; clear hq1)
  clear hc hn; go_still_tail 5, (by kernel_rfl)
  go_upto_region 2 with (go_at_call 57; go_loud (refine (HR.out _ HQ1.out).mono ?_; rintro e w2 ⟨rfl, hq2⟩; have hn3 := (K2.out w2 hq2).1; have hpw2 := (K2.out w2 hq2).2; have HQ2 := Aside0.mk hq2; clear hq2 hpw hn2))
  go_still_tail 5, (by kernel_rfl)
  go_wp2_with (go_at_call 57; go_loud (refine (HL.out _ HQ2.out).mono ?_; rintro e w3 ⟨rfl, hq3⟩))
  go_end0
  exact ⟨rfl, hq3⟩
/-! what is called at each node -/
set_option maxHeartbeats 2000000 in
set_option maxRecDepth 100000 in
theorem leave1.leaf (b g : Nat) (q : Int) (W : World) (h : W.heap[b]? = some (nodeO q (.pointer none) (.pointer none))) :
    Calls Tryd.prog 42 #[.pointer (some ⟨b, 0, none⟩), .pointer (some ⟨g, 0, none⟩)] W (Gives W (.bool true)) := by
  have hc1 : W.cell? ⟨b, 1, none⟩ = some (.pointer none) := (blk_cell h 1).trans rfl
  clear h; go_enter Tryd.func42, Tryd.ntmps42
  go_wp2; go_ret
  exact ⟨rfl, ⟨0, rfl⟩⟩
set_option maxHeartbeats 2000000 in
set_option maxRecDepth 100000 in
theorem leave1.none_ (b bl br g : Nat) (p x y : Int) (l1 l2 r1 r2 : Option Addr) (W : World) (h : W.heap[b]? = some (nodeO 0 (.pointer (some ⟨bl, 0, none⟩)) (.pointer (some ⟨br, 0, none⟩)))) (hl : W.heap[bl]? = some (nodeO x (.pointer l1) (.pointer l2))) (hr : W.heap[br]? = some (nodeO y (.pointer r1) (.pointer r2)))
    (hg : W.heap[g]? = some (.cells #[.int .i64 p] 3 (0, 0))) (hx : x ≠ p) (hy : y ≠ p) :
    Calls Tryd.prog 42 #[.pointer (some ⟨b, 0, none⟩), .pointer (some ⟨g, 0, none⟩)] W (Gives W (.bool true)) := by
  have hc1 : W.cell? ⟨b, 1, none⟩ = some (.pointer (some ⟨bl, 0, none⟩)) := (blk_cell h 1).trans rfl
  have hc2 : W.cell? ⟨b, 2, none⟩ = some (.pointer (some ⟨br, 0, none⟩)) := (blk_cell h 2).trans rfl
  have hcl : W.cell? ⟨bl, 0, none⟩ = some (.int .i64 x) := (blk_cell hl 0).trans rfl
  have hcr : W.cell? ⟨br, 0, none⟩ = some (.int .i64 y) := (blk_cell hr 0).trans rfl
  have hcg : W.cell? ⟨g, 0, none⟩ = some (.int .i64 p) := (blk_cell hg 0).trans rfl
  have e1 : (x == p) = false := beq_eq_false_iff_ne.mpr hx
  have e2 : (y == p) = false := beq_eq_false_iff_ne.mpr hy
  clear h hl hr hg hx hy; go_enter Tryd.func42, Tryd.ntmps42
  go_wp2; go_quiet (fail)
  go_wp2; go_quiet (fail)
  go_wp2; go_ret
  first | exact ⟨rfl, ⟨_, rfl⟩⟩ | exact ⟨rfl, ⟨_, World.drewN_drewN _ _ _⟩⟩
/-- A node's cells are written. -/
def PutQ (W : World) (b : Nat) (q : Int) (pl pr : Option Addr) (w' : World) : Prop := ∃ n, w' = (((W.drewN n).setCell ⟨b, 0, none⟩ (.int .i64 q)).setCell ⟨b, 1, none⟩ (.pointer pl)).setCell ⟨b, 2, none⟩ (.pointer pr)
set_option maxHeartbeats 2000000 in
set_option maxRecDepth 100000 in
theorem leave1.left (b bl br g : Nat) (p q : Int) (l1 l2 pl pr : Option Addr) (W : World) (h : W.heap[b]? = some (nodeO 0 (.pointer (some ⟨bl, 0, none⟩)) (.pointer (some ⟨br, 0, none⟩)))) (hl : W.heap[bl]? = some (nodeO p (.pointer l1) (.pointer l2))) (hr : W.heap[br]? = some (nodeO q (.pointer pl) (.pointer pr)))
    (hg : W.heap[g]? = some (.cells #[.int .i64 p] 3 (0, 0))) :
    Calls Tryd.prog 42 #[.pointer (some ⟨b, 0, none⟩), .pointer (some ⟨g, 0, none⟩)] W (DoneQ (.bool false) (PutQ W b q pl pr)) := by
  have hc0 : W.cell? ⟨b, 0, none⟩ = some (.int .i64 0) := (blk_cell h 0).trans rfl
  have hc1 : W.cell? ⟨b, 1, none⟩ = some (.pointer (some ⟨bl, 0, none⟩)) := (blk_cell h 1).trans rfl
  have hc2 : W.cell? ⟨b, 2, none⟩ = some (.pointer (some ⟨br, 0, none⟩)) := (blk_cell h 2).trans rfl
  have f0 := blk_frozen h 0; have f1 := blk_frozen h 1; have f2 := blk_frozen h 2; have hcl : W.cell? ⟨bl, 0, none⟩ = some (.int .i64 p) := (blk_cell hl 0).trans rfl
  have hr0 : W.cell? ⟨br, 0, none⟩ = some (.int .i64 q) := (blk_cell hr 0).trans rfl
  have hr1 : W.cell? ⟨br, 1, none⟩ = some (.pointer pl) := (blk_cell hr 1).trans rfl
  have hr2 : W.cell? ⟨br, 2, none⟩ = some (.pointer pr) := (blk_cell hr 2).trans rfl
  have hcg : W.cell? ⟨g, 0, none⟩ = some (.int .i64 p) := (blk_cell hg 0).trans rfl
  clear h hl hr hg; go_enter Tryd.func42, Tryd.ntmps42
  go_wp2; go_quiet (fail)
  go_wp2; go_ret
  first | exact ⟨rfl, ⟨_, rfl⟩⟩ | exact ⟨rfl, ⟨_, World.drewN_drewN _ _ _⟩⟩
set_option maxHeartbeats 2000000 in
set_option maxRecDepth 100000 in
theorem leave1.right (b bl br g : Nat) (p x q : Int) (pl pr r1 r2 : Option Addr) (W : World) (h : W.heap[b]? = some (nodeO 0 (.pointer (some ⟨bl, 0, none⟩)) (.pointer (some ⟨br, 0, none⟩)))) (hl : W.heap[bl]? = some (nodeO x (.pointer pl) (.pointer pr))) (hr : W.heap[br]? = some (nodeO p (.pointer r1) (.pointer r2)))
    (hg : W.heap[g]? = some (.cells #[.int .i64 p] 3 (0, 0))) (hx : x ≠ p) :
    Calls Tryd.prog 42 #[.pointer (some ⟨b, 0, none⟩), .pointer (some ⟨g, 0, none⟩)] W (DoneQ (.bool false) (PutQ W b x pl pr)) := by
  have hc0 : W.cell? ⟨b, 0, none⟩ = some (.int .i64 0) := (blk_cell h 0).trans rfl
  have hc1 : W.cell? ⟨b, 1, none⟩ = some (.pointer (some ⟨bl, 0, none⟩)) := (blk_cell h 1).trans rfl
  have hc2 : W.cell? ⟨b, 2, none⟩ = some (.pointer (some ⟨br, 0, none⟩)) := (blk_cell h 2).trans rfl
  have f0 := blk_frozen h 0; have f1 := blk_frozen h 1; have f2 := blk_frozen h 2; have hcl : W.cell? ⟨bl, 0, none⟩ = some (.int .i64 x) := (blk_cell hl 0).trans rfl
  have hcl1 : W.cell? ⟨bl, 1, none⟩ = some (.pointer pl) := (blk_cell hl 1).trans rfl
  have hcl2 : W.cell? ⟨bl, 2, none⟩ = some (.pointer pr) := (blk_cell hl 2).trans rfl
  have hcr : W.cell? ⟨br, 0, none⟩ = some (.int .i64 p) := (blk_cell hr 0).trans rfl
  have hcg : W.cell? ⟨g, 0, none⟩ = some (.int .i64 p) := (blk_cell hg 0).trans rfl
  have e1 : (x == p) = false := beq_eq_false_iff_ne.mpr hx
  clear h hl hr hg hx; go_enter Tryd.func42, Tryd.ntmps42
  go_wp2; go_quiet (fail)
  go_wp2; go_quiet (fail)
  go_wp2; go_ret
  first | exact ⟨rfl, ⟨_, rfl⟩⟩ | exact ⟨rfl, ⟨_, by rw [World.drewN_drewN]⟩⟩
theorem leave1.ent : Entered 42 := fun args W => by
  go_simp
def LeftQ (W : World) (lo hi : Nat) (o : Option Tr) (b : Nat) (w' : World) : Prop := ∃ u, o = some u ∧ TreeIn w' u lo hi b ∧ Below lo W w' ∧ ∀ k, (k < lo ∨ hi ≤ k) → w'.heap[k]? = W.heap[k]?
theorem root_of {w : World} {T : BT} {lo hi : Nat} {p : Int} (h : BTIn w T lo hi) (hp : 1 ≤ p) : ∃ (q : Int) (pl pr : Option Addr), w.heap[T.at_]? = some (nodeO q (.pointer pl) (.pointer pr)) ∧ (T.tr ≠ .leaf p → q ≠ p) := by
  cases T with
  | leaf b q => exact ⟨q, none, none, h.2.2, fun hn e => hn (by rw [← e]; rfl)⟩
  | node b l r => obtain ⟨m, h1, h2, h3, h4, h5, h6⟩ := h; exact ⟨0, _, _, h4, fun _ => by omega⟩
theorem put_heap {W w' : World} {b : Nat} {q : Int} {pl pr : Option Addr} {q0 : Int} {l0 r0 : Value} (h : W.heap[b]? = some (nodeO q0 l0 r0)) (hq : PutQ W b q pl pr w') {lo : Nat} (hlo : lo ≤ b) :
    w'.heap[b]? = some (nodeO q (.pointer pl) (.pointer pr)) ∧ (∀ k, k ≠ b → w'.heap[k]? = W.heap[k]?) ∧ Below lo W w' := by
  obtain ⟨n, rfl⟩ := hq; have h0 : (W.drewN n).heap[b]? = some (nodeO q0 l0 r0) := h
  refine ⟨blk_put (blk_put (blk_put h0 0 (.int .i64 q) rfl) 1 (.pointer pl) rfl) 2 (.pointer pr) rfl, fun k hk => ?_, ?_⟩
  · exact (Below.heap_setCell _ ⟨b, 2, none⟩ _ k hk).trans ((Below.heap_setCell _ ⟨b, 1, none⟩ _ k hk).trans (Below.heap_setCell _ ⟨b, 0, none⟩ _ k hk))
  · exact (((pw_below_drewN (Below.refl lo W) n).setCell (p := ⟨b, 0, none⟩) hlo _).setCell (p := ⟨b, 1, none⟩) hlo _).setCell (p := ⟨b, 2, none⟩) hlo _
/-- A tree's root comes to stand further ahead. -/
theorem moved_in {w w' : World} {T : BT} {lo hi lo' hi' b : Nat} (h : BTIn w T lo hi) (hk : ∀ k, k ≠ b → w'.heap[k]? = w.heap[k]?) (hb : w'.heap[b]? = w.heap[T.at_]?) (h1 : lo' ≤ b) (h2 : b < lo) (h3 : hi ≤ hi') : TreeIn w' T.tr lo' hi' b := by
  have hlt := h.tree.lt; cases T with
  | leaf c p => exact ⟨h1, by omega, hb.trans h.2.2⟩
  | node c l r =>
    obtain ⟨m, g1, g2, g3, g4, g5, g6⟩ := h; refine ⟨m, l.at_, r.at_, h1, by omega, by omega, hb.trans g4, ?_, ?_⟩
    · exact (g5.kept fun k k1 k2 => hk k (by omega)).tree.wide (by omega) (Nat.le_refl _)
    · exact (g6.kept fun k k1 k2 => hk k (by omega)).tree.wide (Nat.le_refl _) h3
theorem BTIn.same {w w' : World} {T : BT} {lo hi : Nat} (h : BTIn w T lo hi) (hh : w'.heap = w.heap) : BTIn w' T lo hi := h.kept fun k _ _ => by rw [hh]
theorem leave.walk (p : Int) (hp : 1 ≤ p) (g pd pw : Nat) : ∀ (T : BT) (lo hi : Nat) (W : World), BTIn W T lo hi → T.tr.leaves.Nodup → T.tr ≠ .leaf p → (g < lo ∨ hi ≤ g) → (pd < lo ∨ hi ≤ pd) → (pw < lo ∨ hi ≤ pw) →
    W.heap[g]? = some (.cells #[.int .i64 p] 3 (0, 0)) → W.heap[pd]? = some (doO 42 #[.pointer (some ⟨g, 0, none⟩)]) → W.heap[pw]? = some (walkO pd pw) →
    Calls Tryd.prog 57 #[.pointer (some ⟨T.at_, 0, none⟩), .pointer (some ⟨pd, 0, none⟩), .pointer (some ⟨pw, 0, none⟩)] W (DoneQ (.tuple #[]) (LeftQ W lo hi (T.tr.out p) T.at_))
  | .leaf b q, lo, hi, W, h, hn, ht, g1, g2, g3, hg, hd, hw => by
    have hq : q ≠ p := fun e => ht (by rw [← e]; rfl)
    refine (each1.endQ (Q := fun w1 => ∃ m, w1 = W.drewN m) leave1.ent hd ((leave1.leaf b g q W h.2.2).mono fun e w' hh => hh) (fun w1 ⟨m, hm⟩ => by subst hm; exact (blk_cell (w := W.drewN m) h.2.2 1).trans rfl)).mono ?_
    rintro e w' ⟨he, m, rfl⟩; refine ⟨he, .leaf q, ?_, (h.tree.drewN m), pw_below_drewN (Below.refl _ _) m, fun k _ => rfl⟩
    show (Tr.leaf q).out p = _
    rw [Tr.out, if_neg hq]
  | .node b l r, lo, hi, W, h, hn, ht, g1, g2, g3, hg, hd, hw => by
    obtain ⟨m, h1, h2, h3, h4, h5, h6⟩ := h; have hlt := h6.tree.lt; have hnl : l.tr.leaves.Nodup := (List.nodup_append.mp hn).1
    have hnr : r.tr.leaves.Nodup := (List.nodup_append.mp hn).2.1
    have hdis := (List.nodup_append.mp hn).2.2
    obtain ⟨x, xl, xr, hl, hxl⟩ := root_of h5 hp
    obtain ⟨y, yl, yr, hr, hyr⟩ := root_of h6 hp
    by_cases cl : l.tr = .leaf p
    · -- the left one is gone
      have hx : x = p := by
        cases l with
        | leaf c q =>
          have e1 : q = p := by injection cl
          have h7 := h5.2.2; rw [show (BT.leaf c q).at_ = c from rfl, h7] at hl
          injection hl with e2
          injection e2 with e3
          have e4 := congrArg (fun a : Array Value => a[0]?) e3
          simp at e4
          omega
        | node c a d => cases cl
      rw [hx] at hl
      have hpr : p ∉ r.tr.leaves := fun hm => hdis p (by rw [cl]; exact List.mem_singleton.mpr rfl) p hm rfl
      refine (each1.stopQ (Q := PutQ W b y yl yr) leave1.ent hd (leave1.left b l.at_ r.at_ g p y xl xr yl yr W h4 hl hr hg)).mono ?_
      rintro e w' ⟨he, hq⟩; obtain ⟨q1, q2, q3⟩ := put_heap h4 hq h1
      refine ⟨he, r.tr, ?_, moved_in (b := b) h6 q2 (q1.trans hr.symm) h1 (by omega) (Nat.le_refl _), q3, fun k hk => q2 k (by omega)⟩
      show (Tr.node l.tr r.tr).out p = _
      rw [Tr.out, cl, Tr.out, if_pos rfl]
      exact out_not hpr
    by_cases cr : r.tr = .leaf p
    · have hy : y = p := by
        cases r with
        | leaf c q =>
          have e1 : q = p := by injection cr
          have h7 := h6.2.2; rw [show (BT.leaf c q).at_ = c from rfl, h7] at hr
          injection hr with e2
          injection e2 with e3
          have e4 := congrArg (fun a : Array Value => a[0]?) e3
          simp at e4
          omega
        | node c a d => cases cr
      rw [hy] at hr
      have hpl : p ∉ l.tr.leaves := fun hm => hdis p hm p (by rw [cr]; exact List.mem_singleton.mpr rfl) rfl
      refine (each1.stopQ (Q := PutQ W b x xl xr) leave1.ent hd (leave1.right b l.at_ r.at_ g p x 0 xl xr yl yr W h4 hl hr hg (hxl cl))).mono ?_
      rintro e w' ⟨he, hq⟩; obtain ⟨q1, q2, q3⟩ := put_heap h4 hq h1
      refine ⟨he, l.tr, ?_, moved_in (b := b) h5 q2 (q1.trans hl.symm) h1 (by omega) h3, q3, fun k hk => q2 k (by omega)⟩
      show (Tr.node l.tr r.tr).out p = _
      rw [Tr.out, cr, out_not hpl, Tr.out, if_pos rfl]
    · refine each1.goQ (Q1 := fun w1 => ∃ n, w1 = W.drewN n) (Q2 := LeftQ W m hi (r.tr.out p) r.at_) (bl := l.at_) (br := r.at_) leave1.ent hd ((leave1.none_ b l.at_ r.at_ g p x y xl xr yl yr W h4 hl hr hg (hxl cl) (hyr cr)).mono fun e w' hh => hh) ?_ ?_ ?_ ?_
      · rintro w1 ⟨n, rfl⟩; exact ⟨(blk_cell (w := W.drewN n) h4 1).trans rfl, (blk_cell (w := W.drewN n) h4 2).trans rfl, (blk_cell (w := W.drewN n) hw 0).trans rfl⟩
      · rintro w1 ⟨u, _, _, _, hk⟩; exact ⟨(blk_cell ((hk b (by omega)).trans h4) 1).trans rfl, (blk_cell ((hk pw (by omega)).trans hw) 0).trans rfl⟩
      · rintro w1 ⟨n, rfl⟩; refine (leave.walk p hp g pd pw r m hi (W.drewN n).drew (h6.same rfl) hnr cr (by omega) (by omega) (by omega) hg hd hw).mono ?_
        rintro e w' ⟨he, u, q1, q2, q3, q4⟩; exact ⟨he, u, q1, q2, (below_drew (pw_below_drewN (Below.refl m W) n)).trans q3, q4⟩
      · rintro w2 ⟨u, q1, q2, q3, q4⟩; have h5b : BTIn w2.drew l (b + 1) m := h5.kept fun k k1 k2 => q4 k (by omega)
        refine (leave.walk p hp g pd pw l (b + 1) m w2.drew h5b hnl cl (by omega) (by omega) (by omega) ((q4 g (by omega)).trans hg) ((q4 pd (by omega)).trans hd) ((q4 pw (by omega)).trans hw)).mono ?_
        rintro e w' ⟨he, ul, s1, s2, s3, s4⟩; have q4d : ∀ k, (k < b + 1 ∨ m ≤ k) → w'.heap[k]? = w2.heap[k]? := fun k hk => s4 k hk
        refine ⟨he, .node ul u, ?_, ⟨m, l.at_, r.at_, h1, h2, h3, ((q4d b (by omega)).trans (q4 b (by omega))).trans h4, s2, q2.kept fun k k1 k2 => q4d k (by omega)⟩, ?_, fun k hk => (q4d k (by omega)).trans (q4 k (by omega))⟩
        · show (Tr.node l.tr r.tr).out p = _
          rw [Tr.out, s1, q1]
        · exact (q3.mono (by omega)).trans ((below_drew (Below.refl lo w2)).trans (s3.mono (by omega)))
def OutQ (lo : Nat) (W : World) (o : Option Tr) (b : Nat) (w' : World) : Prop := ∃ u, o = some u ∧ TreeAt w' u b ∧ Below lo W w'
set_option maxHeartbeats 2000000 in
set_option maxRecDepth 100000 in
theorem leave.each (p : Int) (hp : 1 ≤ p) (g : Nat) (T : BT) (lo hi : Nat) (W : World) (h : BTIn W T lo hi) (hh : hi ≤ W.heap.size) (hn : T.tr.leaves.Nodup) (ht : T.tr ≠ .leaf p) (hgl : g < lo) (hg : W.heap[g]? = some (.cells #[.int .i64 p] 3 (0, 0))) :
    Calls Tryd.prog 34 #[.pointer (some ⟨T.at_, 0, none⟩), .func (.func 42) #[] #[.pointer (some ⟨g, 0, none⟩)]] W (DoneQ (.tuple #[]) (OutQ lo W (T.tr.out p) T.at_)) := by
  have hz : (W.alloc (doO 42 #[.pointer (some ⟨g, 0, none⟩)])).heap.size = W.heap.size + 1 := by simp
  have hb1 : Below W.heap.size W ((W.alloc (doO 42 #[.pointer (some ⟨g, 0, none⟩)])).alloc (walkO W.heap.size (W.heap.size + 1))) := below_alloc (below_alloc (Below.refl _ _) _) _
  have hw : ((W.alloc (doO 42 #[.pointer (some ⟨g, 0, none⟩)])).alloc (walkO W.heap.size (W.heap.size + 1))).heap[W.heap.size + 1]? = some (walkO W.heap.size (W.heap.size + 1)) := by
    have := blk_new (W.alloc (doO 42 #[.pointer (some ⟨g, 0, none⟩)])) (walkO W.heap.size (W.heap.size + 1))
    rwa [hz] at this
  have hlt := h.tree.lt; have HC := Aside0.mk (leave.walk p hp g W.heap.size (W.heap.size + 1) T lo hi _ (h.below hb1 hh) hn ht (.inl hgl) (.inr hh) (.inr (by omega)) (blk_below hg hb1) (blk_alloc (blk_new W _) _) hw)
  have HB := Aside0.mk (hb1.mono (show lo ≤ W.heap.size by omega))
  clear h hh hn ht hgl hg hz hb1 hw hlt; go_enter Tryd.func34, Tryd.ntmps34
  go_wp2_with (go_at_call 57; go_loud (refine (HC.out).mono ?_; rintro e w1 ⟨rfl, u, q1, q2, q3, q4⟩))
  go_end0
  exact ⟨rfl, u, q1, q2.at_, HB.out.trans q3⟩
set_option maxHeartbeats 2000000 in
set_option maxRecDepth 100000 in
theorem leave.none_ (s : ByteArray) (p : Int) (w : World) (hs : s.size ≤ 1000) (ht : treeOf s = none) : Calls Tryd.prog 12 #[.string s, .int .i64 p] w (StrOut w ⟨#[]⟩ 1) := by
  have HO := Aside0.mk (of.calls s (w.alloc (.cells #[.int .i64 p] 3)) hs)
  rw [ht] at HO
  have HB := Aside0.mk (below_alloc (Below.refl w.heap.size w) (.cells #[.int .i64 p] 3))
  clear hs ht; go_enter Tryd.func12, Tryd.ntmps12
  go_wp2_with (go_at_call 31; go_loud (refine (HO.out).mono ?_; rintro e w1 ⟨rfl, hb1⟩))
  go_ret2
  exact ⟨rfl, below_step HB.out hb1⟩
set_option maxHeartbeats 2000000 in
set_option maxRecDepth 100000 in
theorem leave.leaf (s : ByteArray) (p : Int) (w : World) (hs : s.size ≤ 1000) (q : Int) (ht : treeOf s = some (.leaf q)) : Calls Tryd.prog 12 #[.string s, .int .i64 p] w (StrOut w ⟨#[]⟩ 8) := by
  have HO := Aside0.mk (of.calls s (w.alloc (.cells #[.int .i64 p] 3)) hs)
  rw [ht] at HO
  have HB := Aside0.mk (below_alloc (Below.refl w.heap.size w) (.cells #[.int .i64 p] 3))
  clear hs ht; go_enter Tryd.func12, Tryd.ntmps12
  go_upto_region 4 with (go_at_call 31; go_loud (refine (HO.out).mono ?_; rintro e w1 ⟨⟨b, rfl, ht1⟩, hb1⟩; have hc1 : w1.cell? ⟨b, 1, none⟩ = some (.pointer none) := (blk_cell ht1.2.2 1).trans rfl; have HB1 := Aside0.mk hb1; clear ht1 hb1))
  go_quiet (fail)
  go_wp2; go_ret2
  exact ⟨rfl, by first | exact below_step HB.out HB1.out | exact pw_below_drewN (below_step HB.out HB1.out) _⟩
set_option maxHeartbeats 2000000 in
set_option maxRecDepth 100000 in
theorem leave.not (s : ByteArray) (p : Int) (w : World) (hs : s.size ≤ 1000) (l r : Tr) (ht : treeOf s = some (.node l r)) (hm : p ∉ (Tr.node l r).leaves) : Calls Tryd.prog 12 #[.string s, .int .i64 p] w (StrOut w ⟨#[]⟩ 8) := by
  have HO := Aside0.mk (of.calls s (w.alloc (.cells #[.int .i64 p] 3)) hs)
  have hrl := right_len (treeOf_some.mp ht).2
  rw [ht] at HO
  have HB := Aside0.mk (below_alloc (Below.refl w.heap.size w) (.cells #[.int .i64 p] 3))
  have HM := Aside0.mk (fun (w1 w2 : World) (b lo : Nat) (h : TreeIn w1 (.node l r) lo w1.heap.size b) (hd : Below w1.heap.size w1 w2) => members.calls (.node l r) lo w1.heap.size b w2 (h.below hd (Nat.le_refl _)) hd.size (by omega))
  have HV := Aside0.mk (fun (w2 : World) A c hr hc => view_Has.calls A c (Tr.node l r).mems p false w2 hr hc (show view_Has.f (Tr.node l r).mems p = some false by unfold view_Has.f slices_Contains_int_int.f; rw [Option.bind_some]; congr 1; rw [Bool.eq_false_iff]; exact fun h => hm (mems_mem.mp (List.contains_iff_mem.mp h))))
  have HG := Aside0.mk (fun w1 (hb : Below (w.alloc (.cells #[.int .i64 p] 3)).heap.size (w.alloc (.cells #[.int .i64 p] 3)) w1) => blk_below (blk_new w (.cells #[.int .i64 p] 3)) hb)
  clear hs ht hm hrl; go_enter Tryd.func12, Tryd.ntmps12
  go_upto_region 4 with (go_at_call 31; go_loud (refine (HO.out).mono ?_; rintro e w1 ⟨⟨b, rfl, ht1⟩, hb1⟩; have HT1 := Aside0.mk ht1; have HB1 := Aside0.mk hb1; clear ht1 hb1))
  obtain ⟨m, bl, br, k1, k2, k3, k4, k5, k6⟩ := id HT1.out; have hc1 : w1.cell? ⟨b, 1, none⟩ = some (.pointer (some ⟨bl, 0, none⟩)) := (blk_cell k4 1).trans rfl
  have hcg : w1.cell? ⟨w.heap.size, 0, none⟩ = some (.int .i64 p) := (blk_cell (HG.out w1 HB1.out) 0).trans rfl
  clear k1 k2 k3 k4 k5 k6
  go_region_with (first
    | (go_at_call 33; go_loud (refine (HM.out w1 _ _ _ HT1.out (by repeat (first | with_reducible exact Below.refl _ _ | apply below_drew1))).mono ?_; rintro e w2 ⟨v, rfl, hv, hb2⟩; obtain ⟨A1, c1, rfl⟩ := Kd.R_slice hv; have HV2 := Aside0.mk hv; have hb12 : Below w1.heap.size w1 w2 := Below.trans (by repeat (first | with_reducible exact Below.refl _ _ | apply below_drew1)) hb2; have HB2 := Aside0.mk hb12; have hcg2 : w2.cell? ⟨w.heap.size, 0, none⟩ = some (.int .i64 p) := (blk_cell (blk_below (HG.out w1 HB1.out) hb12) 0).trans rfl; clear hv hb2 hb12))
    | (go_at_call 32; go_loud (refine (HV.out _ _ _ (by repeat (first | exact (Kd.R_reads' HV2.out).2.2 | (with_reducible refine Kd.C_drew ?_) | (with_reducible refine Kd.C_drewN ?_ _))) (Kd.R_reads' HV2.out).2.1).mono ?_; rintro e w3 ⟨rfl, hd3⟩; have HB3 : Aside0 (Below w2.heap.size w2 w3) := ⟨Below.trans (by repeat (first | with_reducible exact Below.refl _ _ | apply below_drew1)) hd3.below⟩; clear hd3)))
  all_goals
    go_wp2; go_ret2
    exact ⟨rfl, by repeat (first | exact below_step (below_step (below_step HB.out HB1.out) HB2.out) HB3.out | apply below_drew1)⟩
set_option maxHeartbeats 2000000 in
set_option maxRecDepth 100000 in
theorem leave.good (s : ByteArray) (p : Int) (w : World) (hs : s.size ≤ 1000) (l r : Tr) (ht : treeOf s = some (.node l r)) (hm : p ∈ (Tr.node l r).leaves) (u : Tr) (hu : (Tr.node l r).out p = some u) : Calls Tryd.prog 12 #[.string s, .int .i64 p] w (StrOut w u.text 0) := by
  have HO := Aside0.mk (of.calls s (w.alloc (.cells #[.int .i64 p] 3)) hs)
  have htr := (treeOf_some.mp ht).2
  have hrl := right_len htr
  have hur := (out_right htr hu).1
  have HU := Aside0.mk hu
  have HUO := Aside0.mk hur.1
  have HUL := Aside0.mk (right_len hur)
  have HND := Aside0.mk htr.2
  have HP1 := Aside0.mk (htr.1 p hm).1
  rw [ht] at HO
  have HB := Aside0.mk (below_alloc (Below.refl w.heap.size w) (.cells #[.int .i64 p] 3))
  have HM := Aside0.mk (fun (w1 w2 : World) (b lo : Nat) (h : TreeIn w1 (.node l r) lo w1.heap.size b) (hd : Below w1.heap.size w1 w2) => members.calls (.node l r) lo w1.heap.size b w2 (h.below hd (Nat.le_refl _)) hd.size (by omega))
  have HV := Aside0.mk (fun (w2 : World) A c hr hc => view_Has.calls A c (Tr.node l r).mems p true w2 hr hc (show view_Has.f (Tr.node l r).mems p = some true by unfold view_Has.f slices_Contains_int_int.f; rw [Option.bind_some]; congr 1; rw [List.contains_iff_mem]; exact mems_mem.mpr hm))
  have HG := Aside0.mk (fun w1 (hb : Below (w.alloc (.cells #[.int .i64 p] 3)).heap.size (w.alloc (.cells #[.int .i64 p] 3)) w1) => blk_below (blk_new w (.cells #[.int .i64 p] 3)) hb)
  clear hs ht hm hrl htr hur hu; go_enter Tryd.func12, Tryd.ntmps12
  go_upto_region 4 with (go_at_call 31; go_loud (refine (HO.out).mono ?_; rintro e w1 ⟨⟨b, rfl, ht1⟩, hb1⟩; have HT1 := Aside0.mk ht1; have HB1 := Aside0.mk hb1; clear ht1 hb1))
  obtain ⟨m, bl, br, k1, k2, k3, k4, k5, k6⟩ := id HT1.out; have hc1 : w1.cell? ⟨b, 1, none⟩ = some (.pointer (some ⟨bl, 0, none⟩)) := (blk_cell k4 1).trans rfl
  have hcg : w1.cell? ⟨w.heap.size, 0, none⟩ = some (.int .i64 p) := (blk_cell (HG.out w1 HB1.out) 0).trans rfl
  clear k1 k2 k3 k4 k5 k6
  go_region_with (first
    | (go_at_call 33; go_loud (refine (HM.out w1 _ _ _ HT1.out (by repeat (first | with_reducible exact Below.refl _ _ | apply below_drew1))).mono ?_; rintro e w2 ⟨v, rfl, hv, hb2⟩; obtain ⟨A1, c1, rfl⟩ := Kd.R_slice hv; have HV2 := Aside0.mk hv; have hb12 : Below w1.heap.size w1 w2 := Below.trans (by repeat (first | with_reducible exact Below.refl _ _ | apply below_drew1)) hb2; have HB2 := Aside0.mk hb12; have hcg2 : w2.cell? ⟨w.heap.size, 0, none⟩ = some (.int .i64 p) := (blk_cell (blk_below (HG.out w1 HB1.out) hb12) 0).trans rfl; clear hv hb2 hb12))
    | (go_at_call 32; go_loud (refine (HV.out _ _ _ (by repeat (first | exact (Kd.R_reads' HV2.out).2.2 | (with_reducible refine Kd.C_drew ?_) | (with_reducible refine Kd.C_drewN ?_ _))) (Kd.R_reads' HV2.out).2.1).mono ?_; rintro e w3 ⟨rfl, hd3⟩; have HB3 : Aside0 (Below w2.heap.size w2 w3) := ⟨Below.trans (by repeat (first | with_reducible exact Below.refl _ _ | apply below_drew1)) hd3.below⟩; clear hd3)))
  all_goals
    go_upto_region 6 with (fail)
    have hb13 := below_step HB2.out HB3.out
    have HT3 := HT1.out.below hb13 (Nat.le_refl _)
    obtain ⟨T, hTt, rfl, hT⟩ := TreeIn.bt HT3; have hz : (w.alloc (.cells #[.int .i64 p] 3)).heap.size = w.heap.size + 1 := by simp
    have he := leave.each p HP1.out w.heap.size T _ _ w3 hT hb13.size (by rw [hTt]; exact HND.out) (by rw [hTt]; intro e; cases e) (by rw [hz]; exact Nat.lt_succ_self _) (blk_below (HG.out w1 HB1.out) hb13)
    rw [hTt, HU.out] at he
    have HE := Aside0.mk he
    have HB03 := Aside0.mk (below_step (below_step (below_step HB.out HB1.out) HB2.out) HB3.out)
    have HZ := Aside0.mk (show w.heap.size ≤ (w.alloc (.cells #[.int .i64 p] 3)).heap.size by rw [hz]; exact Nat.le_succ _)
    clear hb13 HT3 hTt hT hz he; go_upto_region 7 with (go_at_call 34; go_loud (refine (HE.out).mono ?_; rintro e w5 ⟨rfl, u2, q1, q2, q3⟩))
    cases q1
    have HTX := Aside0.mk (text.calls u T.at_ w5 q2 HUO.out (by have := HUL.out; omega))
    have HBL := Aside0.mk (HB03.out.trans (q3.mono HZ.out))
    clear q2 q3; go_wp2_with (go_at_call 38; go_loud (refine (HTX.out).mono ?_; rintro e w6 ⟨rfl, n6, rfl⟩))
    go_ret2
    exact ⟨rfl, by first | exact pw_below_drewN HBL.out n6 | exact below_drew1 (pw_below_drewN HBL.out n6)⟩
/-- A tree that one leaves, or what is wrong. -/
def leaveT (s : ByteArray) (p : Int) : ByteArray × Int := match treeOf s with
  | none => (⟨#[]⟩, 1)
  | some (.leaf _) => (⟨#[]⟩, 8)
  | some (.node l r) => if p ∈ (Tr.node l r).leaves then ((((Tr.node l r).out p).map Tr.text).getD ⟨#[]⟩, 0) else (⟨#[]⟩, 8)
def tree_Leave.f (s : ByteArray) (p : Int) : Option (ByteArray × Int) := if s.size ≤ 1000 then some (leaveT s p) else none
theorem tree_Leave.calls (a0 : ByteArray) (a1 : Int) (r1 : ByteArray) (r2 : Int) (w : World) (h : tree_Leave.f a0 a1 = some (r1, r2)) :
    Calls Tryd.prog 12 #[.string a0, .int .i64 a1] w fun e w' => e = .returned (.tuple #[.string r1, .int .i64 r2]) ∧ Below w.heap.size w w' := by
  unfold tree_Leave.f at h
  split at h
  case isFalse => cases h
  rename_i hs
  have h2 := Option.some.inj h
  unfold leaveT at h2
  cases ht : treeOf a0 with
  | none =>
    rw [ht] at h2
    cases h2
    exact leave.none_ a0 a1 w hs ht
  | some t =>
    rw [ht] at h2
    cases t with
    | leaf q =>
      cases h2
      exact leave.leaf a0 a1 w hs q ht
    | node l r =>
      simp only at h2
      by_cases c : a1 ∈ (Tr.node l r).leaves
      · rw [if_pos c] at h2
        have hr := (treeOf_some.mp ht).2
        obtain ⟨u, hu⟩ := out_some (p := a1) (t := .node l r) (by simp only [Tr.leaves, List.length_append]; have := l.leaves_pos; have := r.leaves_pos; omega) hr.2
        rw [hu] at h2
        cases h2
        exact leave.good a0 a1 w hs l r ht c u hu
      · rw [if_neg c] at h2
        cases h2
        exact leave.not a0 a1 w hs l r ht c

end Go.Proofs.YtiofobdmkkbmlaaDoor.F
