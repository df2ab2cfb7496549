-- Laid by mk.py (a program of this session) over the seat's translation.
import Derived.Test.YtiofobdmkkbmlaaDoorF0
import Derived.Test.YtiofobdmkkbmlaaDoorF31
import Derived.RegionTactic
import Derived.BigRegion
import Derived.Deep.QuietTactic
import Derived.BigQuiet
import Derived.Test.YtiofobdmkkbmlaaDoorLTree
namespace Go.Proofs.YtiofobdmkkbmlaaDoor.F
open Go.RowKit Go.Proofs.YtiofobdmkkbmlaaDoorW.PrintWords Go.Proofs.YtiofobdmkkbmlaaDoorW.PrintLast Go.Proofs.YtiofobdmkkbmlaaDoorW.PrintMore
attribute [local go_sem] max2_int min2_int max_two min_two max_three min_three max_four min_four
set_option linter.unusedVariables false
set_option linter.unusedSimpArgs false

/-! ### tree_Right: function 16 -/
open Go.Proofs.YtiofobdmkkbmlaaDoor.Pure Go.Deep
def BoolGot (w : World) (r : Bool) (e : Ending) (w' : World) : Prop := e = .returned (.bool r) ∧ Below w.heap.size w w'
def tree_Right.f (s : ByteArray) : Option Bool := if s.size ≤ 1000 then some (treeOf s).isSome else none
set_option maxHeartbeats 2000000 in
set_option maxRecDepth 100000 in
theorem tree_Right.any (s : ByteArray) (w : World) (hs : s.size ≤ 1000) : Calls Tryd.prog 16 #[.string s] w (BoolGot w (treeOf s).isSome) := by
  have HO := Aside0.mk (of.calls s w hs)
  cases ht : treeOf s
  · rw [ht] at HO
    clear hs ht
    go_enter Tryd.func16, Tryd.ntmps16
    go_wp2_with (go_at_call 31; go_loud (refine (HO.out).mono ?_; rintro e w1 ⟨rfl, hb1⟩))
    go_ret
    exact ⟨rfl, hb1⟩
  · rw [ht] at HO
    clear hs ht
    go_enter Tryd.func16, Tryd.ntmps16
    go_wp2_with (go_at_call 31; go_loud (refine (HO.out).mono ?_; rintro e w1 ⟨⟨b, rfl, ht1⟩, hb1⟩; clear ht1))
    go_ret
    exact ⟨rfl, hb1⟩
theorem tree_Right.calls (a0 : ByteArray) (r : Bool) (w : World) (h : tree_Right.f a0 = some r) : Calls Tryd.prog 16 #[.string a0] w fun e w' => e = .returned (.bool r) ∧ Below w.heap.size w w' := by
  unfold tree_Right.f at h
  split at h
  case isFalse => cases h
  rename_i hs
  cases h
  exact tree_Right.any a0 w hs

end Go.Proofs.YtiofobdmkkbmlaaDoor.F
