-- Laid by mk.py (a program of this session) over the seat's translation.
import Derived.Test.YtiofobdmkkbmlaaDoorF0
import Derived.Test.YtiofobdmkkbmlaaDoorF10
import Derived.Test.YtiofobdmkkbmlaaDoorF31
import Derived.Test.YtiofobdmkkbmlaaDoorF38
import Derived.Test.YtiofobdmkkbmlaaDoorF53
import Derived.RegionTactic
import Derived.BigRegion
import Derived.Deep.QuietTactic
import Derived.BigQuiet
import Derived.Test.YtiofobdmkkbmlaaDoorLTree
namespace Go.Proofs.YtiofobdmkkbmlaaDoor.F
open Go.RowKit Go.Proofs.YtiofobdmkkbmlaaDoorW.PrintWords Go.Proofs.YtiofobdmkkbmlaaDoorW.PrintLast Go.Proofs.YtiofobdmkkbmlaaDoorW.PrintMore
attribute [local go_sem] max2_int min2_int max_two min_two max_three min_three max_four min_four
set_option linter.unusedVariables false
set_option linter.unusedSimpArgs false

/-! ### tree_Depth: function 21 -/
open Go.Proofs.YtiofobdmkkbmlaaDoor.Pure Go.Deep
/-- The depth of a text's tree. -/
def depthT (s : ByteArray) : Int := match treeOf s with
  | none => -1
  | some t => (t.depth : Int)
def IntOut (w : World) (r : Int) (e : Ending) (w' : World) : Prop := e = .returned (.int .i64 r) ∧ Below w.heap.size w w'
def tree_Depth.f (s : ByteArray) : Option Int := if s.size ≤ 1000 then some (depthT s) else none
set_option maxHeartbeats 2000000 in
set_option maxRecDepth 100000 in
theorem tree_Depth.any (s : ByteArray) (w : World) (hs : s.size ≤ 1000) : Calls Tryd.prog 21 #[.string s] w (IntOut w (depthT s)) := by
  have HO := Aside0.mk (of.calls s w hs)
  unfold depthT
  cases ht : treeOf s with
  | none =>
    rw [ht] at HO
    clear hs ht
    go_enter Tryd.func21, Tryd.ntmps21
    go_wp2_with (go_at_call 31; go_loud (refine (HO.out).mono ?_; rintro e w1 ⟨rfl, hb1⟩))
    go_ret
    exact ⟨rfl, hb1⟩
  | some t =>
    have hl := right_len (treeOf_some.mp ht).2
    rw [ht] at HO
    have HM := Aside0.mk (fun (w1 : World) (b lo hi : Nat) (h : TreeIn w1 t lo hi b) => depth.calls t lo hi b w1 h (by omega))
    clear hs ht hl
    simp only
    generalize t.depth = d at HM ⊢
    go_enter Tryd.func21, Tryd.ntmps21
    go_wp2_with (first
      | (go_at_call 31; go_loud (refine (HO.out).mono ?_; rintro e w1 ⟨⟨b, rfl, ht1⟩, hb1⟩; have HT := Aside0.mk ht1; have HB1 := Aside0.mk hb1; clear ht1 hb1))
      | (go_at_call 37; go_loud (refine (HM.out _ _ _ _ HT.out).mono ?_; rintro e w2 ⟨rfl, n2, rfl⟩)))
    go_ret
    exact ⟨rfl, pw_below_drewN HB1.out n2⟩
theorem tree_Depth.calls (a0 : ByteArray) (r : Int) (w : World) (h : tree_Depth.f a0 = some r) : Calls Tryd.prog 21 #[.string a0] w fun e w' => e = .returned (.int .i64 r) ∧ Below w.heap.size w w' := by
  unfold tree_Depth.f at h
  split at h
  case isFalse => cases h
  rename_i hs
  cases h
  exact tree_Depth.any a0 w hs

end Go.Proofs.YtiofobdmkkbmlaaDoor.F
