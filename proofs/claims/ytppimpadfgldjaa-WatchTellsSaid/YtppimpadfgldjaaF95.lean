-- Laid by mk.py (a program of this session) over the seat's translation.
import Derived.Test.YtppimpadfgldjaaF0
import Derived.Test.YtppimpadfgldjaaF142
import Derived.WalkSpells
import Derived.Laws.CopyOwn
import Derived.RegionTactic
import Derived.ChangeAlike
import Derived.BigRegion
namespace Go.Proofs.Ytppimpadfgldjaa.F
open Go.RowKit Go.Proofs.YtppimpadfgldjaaW.PrintWords Go.Proofs.YtppimpadfgldjaaW.PrintLast Go.Proofs.YtppimpadfgldjaaW.PrintMore
attribute [local go_sem] max2_int min2_int max_two min_two max_three min_three max_four min_four
set_option linter.unusedVariables false
set_option linter.unusedSimpArgs false

/-! ### slices_Repeat_int_int: function 95 -/
theorem slices_Repeat_int_int.info : (Try.prog.info? 3).map (fun i => i.size) = some 1 := by kernel_rfl
theorem slices_Repeat_int_int.made8 : madeCells #[Value.int .i64 0] 8 = #[.int .i64 0, .int .i64 0, .int .i64 0, .int .i64 0, .int .i64 0, .int .i64 0, .int .i64 0, .int .i64 0] := by
  have hl : ∀ m, (madeCells #[Value.int .i64 0] m).toList = nums .i64 (List.replicate m 0) := by
    intro m
    apply List.ext_getElem
    · simp [nums, madeCells]
    · intro i h1 h2
      simp [nums, madeCells, Nat.mod_one]
  apply Array.ext'
  rw [hl]
  rfl
set_option maxHeartbeats 400000 in
set_option maxRecDepth 10000 in
theorem slices_Repeat_int_int.calls1 (A0 : Option Addr) (c0 : Nat) (x : Int) (w : World) (hr0 : Kd.C (Kd.int .i64) w A0 1 [x]) (hc0 : 1 ≤ c0) :
    Calls Try.prog 95 #[.slice A0 1 c0, .int .i64 8] w fun e w' => ∃ v0_ : Value, e = .returned (v0_) ∧ Kd.R (Kd.int .i64) 3 w' w.heap.size (fun _ => True) v0_ (List.replicate 8 x) ∧ Below w.heap.size w w' := by
  obtain ⟨ad, e, hx⟩ := Kd.at_int hr0 0 (by omega) (by simp)
  cases e
  have hx' : w.cell? ad = some (.int .i64 x) := by simpa [rd, Addr.add] using hx
  have HX := Aside0.mk hx'
  have HB := Aside0.mk (Below.refl w.heap.size w)
  clear hr0 hx hx'
  have hpx : ∀ (nd : Nat) (j : Nat) (v : Value), [Value.int .i64 x][j]? = some v → ((w.drewN nd).alloc (.cells #[.int .i64 0, .int .i64 0, .int .i64 0, .int .i64 0, .int .i64 0, .int .i64 0, .int .i64 0, .int .i64 0] 3)).cell? (ad.add j) = some v := by
    intro nd j v hj
    rcases j with _ | j
    · simp only [List.getElem?_cons_zero, Option.some.injEq] at hj
      subst hj
      have h3 := pw_cell_below (below_alloc (pw_below_drewN HB.out nd) (.cells #[.int .i64 0, .int .i64 0, .int .i64 0, .int .i64 0, .int .i64 0, .int .i64 0, .int .i64 0, .int .i64 0] 3)) HX.out
      simpa [Addr.add] using h3
    · simp at hj
  have hmk : ∀ W : World, (Instr.makeSlice 22 (.int .i64 8) (.int .i64 8)).run Try.prog W = .ok (.slice (some ⟨W.heap.size, 0, none⟩) 8 8) (W.alloc (.cells #[.int .i64 0, .int .i64 0, .int .i64 0, .int .i64 0, .int .i64 0, .int .i64 0, .int .i64 0, .int .i64 0] 3)) := fun W => (print_make 22 3 .i64 8 Try.underlying22 (by kernel_rfl) (by omega) 8 (by omega) W).trans (by rw [slices_Repeat_int_int.made8])
  go_enter Try.func95, Try.ntmps95
  go_wp2_with (first | (go_at_call 142; refine (bits_Mul.calls 1 8 0 8 _ (by rfl)).mono ?_; rintro e w' ⟨rfl, ⟨nd, rfl⟩⟩) | ((with_reducible refine gate_builtin (b := .copy) (xs := #[.tmp 31, .tmp 32]) rfl ?_); go_loud (refine wpList_copy_splice rfl (.tmp 31) (.tmp 32) 22 22 rfl 3 Try.underlying22 slices_Repeat_int_int.info (some ⟨w.heap.size, 0, none⟩) (some ad) 8 8 1 c0 rfl rfl w.heap.size 0 [.int .i64 0, .int .i64 0, .int .i64 0, .int .i64 0, .int .i64 0, .int .i64 0, .int .i64 0, .int .i64 0] 3 (by simp [World.alloc]) [.int .i64 x] rfl ?hp (by simp) (by intro v hv; rw [List.mem_singleton.1 hv]; rfl) w.heap.size w ?hB (Nat.le_refl _) ?_; (case hp => exact fun _ => ⟨rfl, ad, rfl, hpx nd⟩); (case hB => exact below_alloc (pw_below_drewN HB.out _) _); intro w1 hw1 hb1)))
  have HW1 : Aside0 (w1.heap[w.heap.size]? = some (.cells (nums .i64 (List.replicate 1 x ++ List.replicate 7 0)).toArray 3 (0, 0))) := ⟨hw1⟩
  have HB1 := Aside0.mk hb1
  clear hw1 hb1 hmk
  go_loopw [8] (fun v8 wr => ∃ n : Nat, (n = 1 ∨ n = 2 ∨ n = 4 ∨ n = 8) ∧ v8 = .int .i64 n ∧ Aside0 (wr.heap[w.heap.size]? = some (.cells (nums .i64 (List.replicate n x ++ List.replicate (8 - n) 0)).toArray 3 (0, 0))) ∧ Aside0 (Below w.heap.size w wr)) (fun v8 _ => 8 - (intOf v8).toNat)
  case atStart => exact ⟨1, .inl rfl, rfl, HW1, HB1⟩
  case round =>
    clear HW1 HB1
    obtain ⟨n, hn, rfl, HW, HBr⟩ := hrel
    have hcell : ∀ (j : Nat) (v : Value), (nums .i64 (List.replicate n x ++ List.replicate (8 - n) 0))[j]? = some v → wr.drew.cell? ⟨w.heap.size, j, none⟩ = some v := by
      intro j v hv
      have h1 : wr.drew.heap[w.heap.size]? = some (.cells (nums .i64 (List.replicate n x ++ List.replicate (8 - n) 0)).toArray 3 (0, 0)) := HW.out
      rw [blk_cell h1]
      simpa using hv
    by_cases h8 : n = 8
    · subst h8
      clear hcell
      go_wp2
      go_ret
      refine ⟨_, rfl, Kd.R_of_own ⟨by simp [encs], .inr ⟨w.heap.size, 8, _, rfl, Nat.le_refl _, HW.out, by simp, by simp [maxLen], by simp [nums], ?_⟩⟩ (fun _ _ => trivial), HBr.out⟩
      rfl
    · have hlt : (n : Int) < 8 := by omega
      rcases hn with rfl | rfl | rfl | h
      · have hcp : ∀ ty, (Builtin.copy_ #[22, 22] ty #[.slice (some ⟨w.heap.size, 1, none⟩) 7 7, .slice (some ⟨w.heap.size, 0, none⟩) 1 8]).run Try.prog wr.drew = .ok (.int .i64 1) (wr.drew.setRow w.heap.size (nums .i64 (List.replicate 2 x ++ List.replicate 6 0)).toArray) := fun ty =>
          (run_copy_row (P := Try.prog) wr.drew 22 22 ty 3 w.heap.size 1 7 7 ⟨w.heap.size, 0, none⟩ 1 8 _ 3 (nums .i64 (List.replicate 1 x)) Try.underlying22 slices_Repeat_int_int.info HW.out rfl (fun j v hv => by
            have hj : j < 1 := by have := (List.getElem?_eq_some_iff.1 hv).1; simpa [nums] using this
            rw [add_plain]
            refine hcell j v ?_
            rw [nums_append, List.getElem?_append_left (by simpa [nums] using hj)]
            exact hv) (by simp [nums]) (by intro v hv; simp only [nums, List.mem_map] at hv; obtain ⟨_, _, rfl⟩ := hv; rfl)).trans rfl
        have hheap : (wr.drew.setRow w.heap.size (nums .i64 (List.replicate 2 x ++ List.replicate 6 0)).toArray).heap[w.heap.size]? = some (.cells (nums .i64 (List.replicate 2 x ++ List.replicate 6 0)).toArray 3 (0, 0)) := setRow_heap _ _ _ _ 3 _ (show wr.drew.heap[w.heap.size]? = _ from HW.out)
        have HH := Aside0.mk hheap
        have HB2 := Aside0.mk (below_setRow (pw_below_drewN HBr.out 1) (Nat.le_refl w.heap.size) (nums .i64 (List.replicate 2 x ++ List.replicate 6 0)).toArray)
        clear hcell hheap
        go_wp2
        go_region
        go_wp2
        go_roundw
        case rel => exact ⟨2, by omega, rfl, HH, HB2⟩
        case measure => simp [intOf]
      · have hcp : ∀ ty, (Builtin.copy_ #[22, 22] ty #[.slice (some ⟨w.heap.size, 2, none⟩) 6 6, .slice (some ⟨w.heap.size, 0, none⟩) 2 8]).run Try.prog wr.drew = .ok (.int .i64 2) (wr.drew.setRow w.heap.size (nums .i64 (List.replicate 4 x ++ List.replicate 4 0)).toArray) := fun ty =>
          (run_copy_row (P := Try.prog) wr.drew 22 22 ty 3 w.heap.size 2 6 6 ⟨w.heap.size, 0, none⟩ 2 8 _ 3 (nums .i64 (List.replicate 2 x)) Try.underlying22 slices_Repeat_int_int.info HW.out rfl (fun j v hv => by
            have hj : j < 2 := by have := (List.getElem?_eq_some_iff.1 hv).1; simpa [nums] using this
            rw [add_plain]
            refine hcell j v ?_
            rw [nums_append, List.getElem?_append_left (by simpa [nums] using hj)]
            exact hv) (by simp [nums]) (by intro v hv; simp only [nums, List.mem_map] at hv; obtain ⟨_, _, rfl⟩ := hv; rfl)).trans rfl
        have hheap : (wr.drew.setRow w.heap.size (nums .i64 (List.replicate 4 x ++ List.replicate 4 0)).toArray).heap[w.heap.size]? = some (.cells (nums .i64 (List.replicate 4 x ++ List.replicate 4 0)).toArray 3 (0, 0)) := setRow_heap _ _ _ _ 3 _ (show wr.drew.heap[w.heap.size]? = _ from HW.out)
        have HH := Aside0.mk hheap
        have HB2 := Aside0.mk (below_setRow (pw_below_drewN HBr.out 1) (Nat.le_refl w.heap.size) (nums .i64 (List.replicate 4 x ++ List.replicate 4 0)).toArray)
        clear hcell hheap
        go_wp2
        go_region
        go_wp2
        go_roundw
        case rel => exact ⟨4, by omega, rfl, HH, HB2⟩
        case measure => simp [intOf]
      · have hcp : ∀ ty, (Builtin.copy_ #[22, 22] ty #[.slice (some ⟨w.heap.size, 4, none⟩) 4 4, .slice (some ⟨w.heap.size, 0, none⟩) 4 8]).run Try.prog wr.drew = .ok (.int .i64 4) (wr.drew.setRow w.heap.size (nums .i64 (List.replicate 8 x ++ List.replicate 0 0)).toArray) := fun ty =>
          (run_copy_row (P := Try.prog) wr.drew 22 22 ty 3 w.heap.size 4 4 4 ⟨w.heap.size, 0, none⟩ 4 8 _ 3 (nums .i64 (List.replicate 4 x)) Try.underlying22 slices_Repeat_int_int.info HW.out rfl (fun j v hv => by
            have hj : j < 4 := by have := (List.getElem?_eq_some_iff.1 hv).1; simpa [nums] using this
            rw [add_plain]
            refine hcell j v ?_
            rw [nums_append, List.getElem?_append_left (by simpa [nums] using hj)]
            exact hv) (by simp [nums]) (by intro v hv; simp only [nums, List.mem_map] at hv; obtain ⟨_, _, rfl⟩ := hv; rfl)).trans rfl
        have hheap : (wr.drew.setRow w.heap.size (nums .i64 (List.replicate 8 x ++ List.replicate 0 0)).toArray).heap[w.heap.size]? = some (.cells (nums .i64 (List.replicate 8 x ++ List.replicate 0 0)).toArray 3 (0, 0)) := setRow_heap _ _ _ _ 3 _ (show wr.drew.heap[w.heap.size]? = _ from HW.out)
        have HH := Aside0.mk hheap
        have HB2 := Aside0.mk (below_setRow (pw_below_drewN HBr.out 1) (Nat.le_refl w.heap.size) (nums .i64 (List.replicate 8 x ++ List.replicate 0 0)).toArray)
        clear hcell hheap
        go_wp2
        go_region
        go_wp2
        go_roundw
        case rel => exact ⟨8, by omega, rfl, HH, HB2⟩
        case measure => simp [intOf]
      · exact absurd h h8
def slices_Repeat_int_int.f (l0 : List Int) (a1 : Int) : Option (List Int) := if l0.length = 1 ∧ a1 = 8 then some (List.replicate 8 (rd l0 0)) else none
theorem slices_Repeat_int_int.calls (A0 : Option Addr) (c0 : Nat) (l0 : List Int) (a1 : Int) (r : List Int) (w : World) (hr0 : Kd.C (Kd.int .i64) w A0 l0.length l0) (hc0 : l0.length ≤ c0) (h : slices_Repeat_int_int.f l0 a1 = some r) :
    Calls Try.prog 95 #[.slice A0 l0.length c0, .int .i64 a1] w fun e w' => ∃ v0_ : Value, e = .returned (v0_) ∧ Kd.R (Kd.int .i64) 3 w' w.heap.size (fun _ => True) v0_ r ∧ Below w.heap.size w w' := by
  unfold slices_Repeat_int_int.f at h
  split at h
  · rename_i h1
    obtain ⟨h1, rfl⟩ := h1
    match l0, h1 with
    | [x], _ =>
      obtain rfl := Option.some.inj h
      exact slices_Repeat_int_int.calls1 A0 c0 x w hr0 hc0
  · cases h

end Go.Proofs.Ytppimpadfgldjaa.F
