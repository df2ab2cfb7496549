-- Laid by mk.py (a program of this session) over the seat's translation.
import Derived.Test.YtiofobdmkkbmlaaDoorF0
import Derived.Test.YtiofobdmkkbmlaaDoorF31
import Derived.Test.YtiofobdmkkbmlaaDoorF33
import Derived.Test.YtiofobdmkkbmlaaDoorF38
import Derived.Test.YtiofobdmkkbmlaaDoorF53
import Derived.RegionTactic
import Derived.BigRegion
import Derived.Deep.QuietTactic
import Derived.BigQuiet
import Derived.Test.YtiofobdmkkbmlaaDoorLTree
namespace Go.Proofs.YtiofobdmkkbmlaaDoor.F
open Go.RowKit Go.Proofs.YtiofobdmkkbmlaaDoorW.PrintWords Go.Proofs.YtiofobdmkkbmlaaDoorW.PrintLast Go.Proofs.YtiofobdmkkbmlaaDoorW.PrintMore
attribute [local go_sem] max2_int min2_int max_two min_two max_three min_three max_four min_four
set_option linter.unusedVariables false
set_option linter.unusedSimpArgs false

/-! ### tree_Members: function 19 -/
open Go.Proofs.YtiofobdmkkbmlaaDoor.Pure Go.Deep
/-- The members of a text's tree. -/
def memsT (s : ByteArray) : List Int := match treeOf s with
  | none => []
  | some t => t.mems
def tree_Members.f (s : ByteArray) : Option (List Int) := if s.size ≤ 1000 then some (memsT s) else none
theorem of_len {s : ByteArray} {t : Tr} (h : treeOf s = some t) (hs : s.size ≤ 1000) : t.leaves.length ≤ 1000 := by
  have h1 := (treeOf_some.mp h).1
  have h2 := congrArg ByteArray.size h1
  rw [text_size] at h2
  have h3 := t.bytes_len
  omega
set_option maxHeartbeats 2000000 in
set_option maxRecDepth 100000 in
theorem tree_Members.any (s : ByteArray) (w : World) (hs : s.size ≤ 1000) : Calls Tryd.prog 19 #[.string s] w (MemOut w (memsT s)) := by
  have HO := Aside0.mk (of.calls s w hs)
  unfold memsT
  cases ht : treeOf s with
  | none =>
    rw [ht] at HO
    clear hs ht
    go_enter Tryd.func19, Tryd.ntmps19
    go_wp2_with (go_at_call 31; go_loud (refine (HO.out).mono ?_; rintro e w1 ⟨rfl, hb1⟩))
    go_ret
    exact ⟨_, rfl, Kd.R_nil _ _ _ _ _, hb1⟩
  | some t =>
    have hl := of_len ht hs
    rw [ht] at HO
    have HM := Aside0.mk (fun (w1 : World) (b lo : Nat) (h : TreeIn w1 t lo w1.heap.size b) => members.calls t lo w1.heap.size b w1 h (Nat.le_refl _) hl)
    clear hs ht hl
    go_enter Tryd.func19, Tryd.ntmps19
    go_wp2_with (first
      | (go_at_call 31; go_loud (refine (HO.out).mono ?_; rintro e w1 ⟨⟨b, rfl, ht1⟩, hb1⟩; have HT := Aside0.mk ht1; have HB1 := Aside0.mk hb1; clear ht1 hb1))
      | (go_at_call 33; go_loud (refine (HM.out _ _ _ HT.out).mono ?_; rintro e w2 ⟨v, rfl, hv, hb2⟩; have HV := Aside0.mk hv; have HB2 := Aside0.mk hb2; clear hv hb2)))
    go_ret
    exact ⟨_, rfl, Kd.R_lower HV.out HB1.out.size, below_step HB1.out HB2.out⟩
theorem tree_Members.calls (a0 : ByteArray) (r : List Int) (w : World) (h : tree_Members.f a0 = some r) : Calls Tryd.prog 19 #[.string a0] w fun e w' => ∃ v0_ : Value, e = .returned (v0_) ∧ Kd.R (Kd.int .i64) 3 w' w.heap.size (fun _ => True) v0_ r ∧ Below w.heap.size w w' := by
  unfold tree_Members.f at h
  split at h
  case isFalse => cases h
  rename_i hs
  cases h
  exact tree_Members.any a0 w hs

end Go.Proofs.YtiofobdmkkbmlaaDoor.F
