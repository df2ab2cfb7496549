-- Laid by mk.py (a program of this session) over the seat's translation.
import Derived.Test.YtppimpadfgldjaaF0
import Derived.Test.YtppimpadfgldjaaF57
import Derived.RegionTactic
import Derived.BigRegion
import Derived.Sort.MapsRangeIn
import Derived.Sort.KeysCollected
import Derived.Sort.OwnSorted
import Derived.Lib.OwnBridge
import Derived.Shelf.SortG.Plain
import Derived.Shelf.SortG.SortNone
import Derived.Test.YtppimpadfgldjaaShelfG
import Derived.Test.YtppimpadfgldjaaShelfH
namespace Go.Proofs.Ytppimpadfgldjaa.F
open Go.RowKit Go.Proofs.YtppimpadfgldjaaW.PrintWords Go.Proofs.YtppimpadfgldjaaW.PrintLast Go.Proofs.YtppimpadfgldjaaW.PrintMore
attribute [local go_sem] max2_int min2_int max_two min_two max_three min_three max_four min_four
set_option linter.unusedVariables false
set_option linter.unusedSimpArgs false

/-! ### net_Net_Heard: function 66 -/
open Go.Shelf Go.Maps Go.Sort Go.Proofs.Ytppimpadfgldjaa.Pure
/-- slices.Sort's two contracts, at the fence that asks nothing. -/
theorem heard_sorts (m : Nat) : AnyZ.SortsIn Try.prog Try.sortedT_ren Fence.wide m :=
  ⟨fun blk off cap ss W hH hblk hsz => callsIn_wide.2 (AnyG.slices_Sort_string Try.sortT blk off cap ss W hH hblk hsz),
   fun p cap W => callsIn_wide.2 (AnyG.slices_Sort_string_none Try.sortT p cap W)⟩
set_option maxHeartbeats 2000000 in
set_option maxRecDepth 100000 in
theorem net_Net_Heard.calls (w : World) (g : Nat) (F : Nat → Prop) (s : NS) (h : NetIn w g F s) (hm : s.many < 1000000000) :
    Calls Try.prog 66 #[.pointer (some ⟨g, 0, none⟩)] w fun e w' => ∃ v, e = .returned v ∧ Kd.R Kd.string 48 w' w.heap.size (fun _ => True) v s.heard ∧ Below w.heap.size w w' := by
  obtain ⟨v, b, n, D, h1, h2, h3, h4, h5, h6⟩ := h
  have c1 : w.cell? ⟨g, 1, none⟩ = some (.map (some b)) := (blk_cell h1 1).trans rfl
  have hsz := h4.size_le
  have hk := keysIn_sorted h6
  refine (callsIn_wide (n := 6)).1 ?_
  have hbl := h4.lt
  have hseq : SeqGives Fence.wide 2 Try.prog 158 #[.pointer (some ⟨w.heap.size, 0, none⟩)] encStr (fun ss => ss.Perm (strKeys D)) (Maps.size D) (w.alloc (.cells #[.map (some b)] 173)) :=
    AnyZ.keys_gives (ρ := Try.keysT_ren) { Try.keysT with } Fence.wide _ trivial rfl (by omega) w.heap.size b n D _ (by simp) (by simp) (owns_move h4 (Below.heap_alloc _ _ b hbl))
  have cK : ∀ mb W, CallsIn Fence.wide 5 Try.prog 120 #[.map mb] W fun e w' => e = .returned (.func (.func 158) #[] #[.pointer (some ⟨W.heap.size, 0, none⟩)]) ∧ w' = W.alloc (.cells #[.map mb] 173) := fun mb W => AnyZ.keys_in Try.keysT Fence.wide 5 trivial rfl mb W
  have cS := AnyZ.sorted_in Try.sortedT Fence.wide 5 trivial trivial trivial trivial rfl (by omega) (heard_sorts _) (enters_of Try.func125 (by kernel_rfl) rfl) 158 #[.pointer (some ⟨w.heap.size, 0, none⟩)] trivial (enters_of Try.func158 (by kernel_rfl) rfl) _ _ (by unfold maxLen; omega) (by omega) _ hseq
  change CallsIn _ _ Try.prog 119 _ _ _ at cS
  have hfK : Fence.wide.fn 120 := trivial
  have hfS : Fence.wide.fn 119 := trivial
  have CK := Aside0.mk cK
  have CS := Aside0.mk cS
  have HK := Aside0.mk hk
  clear h1 h2 h3 h4 h5 h6 hsz hk hbl hseq cK cS hm
  refine callsIn_of_wp Try.func66 rfl trivial ?_ rfl
  simp only [Try.ntmps66, List.size_toArray, List.length_cons, List.length_nil, Nat.reduceAdd, Nat.reduceSub, Array.replicate_succ, Array.replicate_zero, List.push_toArray, List.append_toArray, List.nil_append, List.cons_append]
  gi_wp2_with (first
    | (gi_at_call 120; refine (CK.out _ _).mono ?_; rintro e w' ⟨rfl, rfl⟩)
    | (gi_at_call 119; refine (CS.out).mono ?_; rintro e w' ⟨v1, ss, rfl, hS, hrow, hnil, hb⟩))
  go_ret
  have hs : ss.mergeSort (fun x y => decide (x ≤ y)) = s.heard.map bl := (mergeSort_of_perm hS).trans HK.out
  have hl : ss.length = s.heard.length := by
    have h1 := congrArg List.length hs
    rw [List.length_map, List.length_mergeSort] at h1
    exact h1
  have he : (s.heard.map bl).map encStr = s.heard.map Value.string := by
    rw [List.map_map]
    exact List.map_congr_left fun _ _ => rfl
  rw [hs, he, hl] at hrow
  exact ⟨_, rfl, Kd.R_of_own (ownsRow_base_a hrow (by simp)) (fun _ _ => trivial), ((Below.refl _ w).alloc (Nat.le_refl _) _).trans (hb.mono (by simp))⟩

end Go.Proofs.Ytppimpadfgldjaa.F
