-- Laid by mk.py (a program of this session) over the seat's translation.
import Derived.Test.YtppimpadfgldjaaF0
import Derived.Test.YtppimpadfgldjaaB1
import Derived.Test.YtppimpadfgldjaaF124
import Derived.Test.YtppimpadfgldjaaB3
import Derived.Sort.MapsRangeIn
import Derived.Sort.KeysCollected
import Derived.Sort.OwnSorted
import Derived.Lib.OwnBridge
import Derived.Test.YtppimpadfgldjaaShelfG
import Derived.Test.YtppimpadfgldjaaB2
namespace Go.Proofs.Ytppimpadfgldjaa.F
open Go.RowKit Go.Proofs.YtppimpadfgldjaaW.PrintWords Go.Proofs.YtppimpadfgldjaaW.PrintLast Go.Proofs.YtppimpadfgldjaaW.PrintMore
attribute [local go_sem] max2_int min2_int max_two min_two max_three min_three max_four min_four
set_option linter.unusedVariables false
set_option linter.unusedSimpArgs false

/-! ### parts_All: function 73 -/
open Go.Shelf Go.Maps Go.Sort Go.Proofs.Ytppimpadfgldjaa.Pure
attribute [local go_sem] Oper.semAt_some
/-- The keys of the map that a term's parts make. -/
def keysD (t : ByteArray) : DataW Unit := addAll (.map []) (allF t)
/-- All that stands in a right term, however deep, by bytes, each once. -/
def allK (t : ByteArray) : List ByteArray := ((strKeys (keysD t)).mergeSort (fun x y => decide (x ≤ y))).map txt
def parts_All.f (t : ByteArray) : Option (List ByteArray) := if t.size < 9223372036854775808 then some (if rightB t = true then allK t else []) else none
theorem parts_All.sort (g cap : Nat) (ss : List (List UInt8)) (W : World) (hH : Holds Go.Proofs.encStr W g 0 ss.toArray) (hl : g < W.heap.size) (hs : ss.length < 4611686018427387904) :
    Calls Try.prog 125 #[.slice (some ⟨g, 0, none⟩) ss.length cap] W fun e w' => e = .returned (.tuple #[]) ∧ ∃ n os, w' = grow (putRow Go.Proofs.encStr (Go.Sort.ahead W n) g 0 (ss.mergeSort fun x y => decide (x ≤ y)).toArray) os :=
  AnyG.slices_Sort_string Try.sortT g 0 cap ss W hH hl hs
theorem parts_All.sort_nil (W : World) :
    Calls Try.prog 125 #[.slice none 0 0] W fun e w' => e = .returned (.tuple #[]) ∧ w' = W :=
  AnyG.slices_Sort_string_none Try.sortT none 0 W
theorem keys_key (l : List ByteArray) : ∀ x ∈ l.map (fun x => Lit.string x.data.toList), WideAt.IsKeyLit x := by
  intro x hx
  obtain ⟨y, _, rfl⟩ := List.mem_map.mp hx
  trivial
theorem addAll_setOf (l : List ByteArray) : addAll (.map []) l = setOf (.lit (.int .i64 1)) (l.map (fun x => Lit.string x.data.toList)) := by
  unfold addAll setOf
  rw [List.foldl_map]
theorem allK_codes (t : ByteArray) : (allK t).map (·.data.toList) = (strKeys (keysD t)).mergeSort (fun x y => decide (x ≤ y)) := by
  unfold allK
  rw [List.map_map]
  have : ∀ l : List (List UInt8), l.map ((fun x : ByteArray => x.data.toList) ∘ txt) = l := fun l => by
    conv => rhs; rw [← List.map_id l]
    exact List.map_congr_left fun _ _ => rfl
  exact this _
theorem hrow_nil (b e : Nat) (w : World) : w.ownsRow b e 1 (.slice none 0 0) ([] : List (List UInt8)).length (([] : List (List UInt8)).map Go.Proofs.encStr) := World.ownsRow_nil _ _ _ _
set_option maxHeartbeats 1000000 in
set_option maxRecDepth 100000 in
theorem parts_All.good (t : ByteArray) (hr : rightB t = true) (w : World) :
    Calls Try.prog 73 #[.string t] w fun e w' => ∃ v0_ : Value, e = .returned (v0_) ∧ Kd.R Kd.string 48 w' w.heap.size (fun _ => True) v0_ (allK t) ∧ Below w.heap.size w w' := by
  have hz := ((right_iff t).mp hr).2
  have hln := allF_len hr
  have HR := Aside0.mk (fun W => term_Right.calls t true W (by rw [term_Right.f, if_pos (by omega), hr]))
  have HG := Aside0.mk (fun (b : Nat) (W : World) (h : W.ownsMap Try.prog 48 (plainElem Try.prog 3) b 0 (.map [])) => parts_gather.calls (t.size + 1) t (Nat.lt_succ_self _) hr b 0 (.map []) W h (by omega))
  obtain ⟨D0, hD0⟩ : ∃ D0, D0 = keysD t := ⟨_, rfl⟩
  obtain ⟨nn, hnn⟩ : ∃ nn, nn = 0 + (allF t).length := ⟨_, rfl⟩
  have hnb : nn ≤ 20000 := by omega
  unfold keysD at hD0
  rw [← hnn, ← hD0] at HG
  have HD := Aside0.mk (show D0 = keysD t from hD0)
  have law := string_keyed (P := Try.prog) Try.underlying48
  have HNB := Aside0.mk hnb
  obtain ⟨i0, hi, hz0, hz1, hz2⟩ := info_parts info48
  have hmm := @run_makeMap Try.prog
  clear hz hln hnn hD0 hr hnb
  refine (callsIn_wide (n := 5)).1 ?_
  refine callsIn_of_wp Try.func73 rfl trivial ?_ rfl
  simp only [Try.ntmps73, List.size_toArray, List.length_cons, List.length_nil, Nat.reduceAdd, Nat.reduceSub, Array.replicate_succ, Array.replicate_zero, List.push_toArray, List.append_toArray, List.nil_append, List.cons_append]
  gi_wp2_with (first
    | (refine ⟨trivial, ?_⟩; gi_at_call 101; go_loud (refine (callsIn_wide.2 (HR.out _)).mono ?_; rintro e w1 ⟨rfl, hb1⟩))
    | (refine ⟨trivial, ?_⟩; gi_at_call 124; go_loud (refine (callsIn_wide.2 (HG.out _ _ (World.ownsMap_made w1 _ _ _))).mono ?_; rintro e w2 ⟨rfl, hown2, hg2⟩))
    | (gi_at_range; refine wpListIn_range_own _ rfl _ 173 rfl 48 3 law Try.underlying173 _ w1.heap.size nn _ rfl hown2 ?_; intro w3 hrg3 hg3 hs3))
  go_frame
  have HB3 := ((hb1.alloc hb1.size _).grown hg2 (by have := hb1.size; simp; omega) (fun j hj => by cases hj; exact hb1.size)).grown hg3 (Nat.le_trans hb1.size (Nat.le_trans (by simp) hg2.size)) (fun j hj => by cases hj)
  have hw13 : w1.heap.size < w3.heap.size := by have := hg2.size; simp at this; omega
  have hw23 : w2.heap.size < w3.heap.size := by omega
  have hmq := hown2.size_le
  have hmx : Maps.size D0 ≤ 20000 := Nat.le_trans hmq HNB.out
  have hR3 := hrow_nil w3.heap.size 48 w3
  clear hs3 hmm hmq HG HR
  gi_loopw [4] (fun v wr => ∃ (left : Lit → Bool) (cnt : Nat) (ss : List (List UInt8)), wr.ranges Try.prog 48 (plainElem Try.prog 3) w1.heap.size w2.heap.size nn D0 left cnt ∧ ss.length + cnt ≤ Maps.size D0 ∧
      wr.ownsRow w3.heap.size 48 1 v ss.length (ss.map encStr) ∧ Collected D0 left ss ∧ Below w.heap.size w wr ∧ w3.heap.size ≤ wr.heap.size)
    (fun _ wr => wr.rangeLeft w1.heap.size w2.heap.size)
  case atStart =>
    exact ⟨_, _, [], hrg3, by simp, hR3, Collected.start D0, HB3, Nat.le_refl _⟩
  case round =>
    obtain ⟨left, cnt, ss, hrg, hcs, hrow, hC, hnx, hsz⟩ := hrel
    gi_wp2_with (first
      | (gi_at_next; refine wpListIn_next_ranges _ rfl _ rfl 48 law (plainElem Try.prog 3) encStr (Value.int .i64) (fun key kl hk => by obtain ⟨x, hx, _⟩ := Maps.keyOf_str Try.underlying48 hk; exact ⟨x, hx⟩) (fun v y hv => by obtain ⟨c, rfl, _⟩ := plainElem_int_inv Try.underlying3 hv; exact ⟨c, rfl⟩) w1.heap.size w2.heap.size nn _ _ _ rfl hrg ?_ ?_)
      | gi_in)
    · intro hc0 hl0
      have hp := mergeSort_of_perm (hC.perm hown2 law Try.underlying48 hl0)
      rw [HD.out] at hp
      have HP := Aside0.mk hp
      clear hp
      rcases hrow.2 with ⟨rfl, hn0⟩ | ⟨g, cap, cur, rfl, hbase, hb, h1, h2, h3, h4⟩
      · obtain rfl : ss = [] := List.length_eq_zero_iff.mp hn0
        have hc := Aside0.mk (parts_All.sort_nil wr)
        gi_wp2_with (refine ⟨trivial, ?_⟩; gi_at_call 125; go_loud (refine (callsIn_wide.2 hc.out).mono ?_; rintro e w' ⟨rfl, rfl⟩))
        go_ret
        refine ⟨_, rfl, ?_, hnx⟩
        have ha : allK t = [] := by unfold allK; rw [← HP.out, List.mergeSort_nil]; rfl
        rw [ha]
        exact Kd.R_of_own (World.ownsRow_nil _ _ _ _) (fun _ _ => trivial)
      · have hH : Holds encStr wr g 0 ss.toArray := holds_of_block hb (by simpa using h4)
        have hgl : g < wr.heap.size := (Array.getElem?_eq_some_iff.1 hb).1
        have hc := Aside0.mk (parts_All.sort g cap ss wr hH hgl (by omega))
        gi_wp2_with (refine ⟨trivial, ?_⟩; gi_at_call 125; go_loud (refine (callsIn_wide.2 hc.out).mono ?_; rintro e w' ⟨rfl, nz, os, rfl⟩))
        go_ret
        have hl2 : (ss.mergeSort fun x y => decide (x ≤ y)).length = ss.length := by simp
        have hrow9 := ownsRow_sorted (n := nz) (os := os) (ts := ss.mergeSort fun x y => decide (x ≤ y)) hl2 hbase hb h1 h2 h3
        refine ⟨_, rfl, Kd.R_of_own (ownsRow_base_a (base' := w.heap.size) ?_ (Nat.le_trans HB3.size (Nat.le_refl _))) (fun _ _ => trivial), hnx.grown (grownBy_sorted _) hnx.size (fun j hj => by cases hj; exact Nat.le_trans HB3.size hbase)⟩
        have ha : encs Value.string (allK t) = (ss.mergeSort fun x y => decide (x ≤ y)).map encStr := by
          show (allK t).map Value.string = _
          rw [← Lib.map_encStr, allK_codes, ← HP.out]
        have hn : (allK t).length = ss.length := by
          have := congrArg List.length (allK_codes t)
          rw [List.length_map, ← HP.out, hl2] at this
          exact this
        rw [ha, hn]
        exact hrow9
    · intro x c kl yd yp w4 cnt2 hkey hlk hv hat hrg2 hlt hg4 hs4 hen
      obtain ⟨x', ex, rfl, _⟩ := Maps.keyOf_str Try.underlying48 hkey
      obtain rfl : x = x' := encStr_inj ex
      have hrow2 := hrow.kept hg4 (Or.inr (row_ne_iter hrow hrg).symm)
      clear hs4
      gi_wp2_with (first
        | (gi_at_builtin; refine wpListIn_append_own _ rfl _ _ 44 rfl w3.heap.size 48 i0 (.string ⟨#[]⟩) 1 16 Try.underlying44 hi hz0 hz1 hz2 rfl (by decide) _ _ _ rfl (hrow2.alloc _) ⟨w4.heap.size, 0, none⟩ 1 1 [encStr x] rfl rfl (cell_one_new _ _ _) (by simp [Value.oneCell', encStr]) (by unfold maxLen at *; omega) (by omega) (by have := hg4.size; simp; omega) ?_; intro v' w5 hown' hg5 hnil5; go_frame)
        | gi_in)
      have hrg5 := (hrg2.alloc _).kept hg5 (row_ne_low hrow2 hw13) (row_ne_low hrow2 hw23)
      go_roundw
      case rel =>
        refine ⟨_, cnt2, ss ++ [x], hrg5, by simp; omega, by simpa using hown', hC.step hlk hat, ?_, ?_⟩
        · exact ((hnx.grown hg4 hnx.size (fun j hj => by cases hj; exact Nat.le_trans hb1.size (by have := hg2.size; simp at this; omega))).alloc (by have := hnx.size; have := hg4.size; omega) _).grown hg5 (by have := hnx.size; have := hg4.size; simp; omega) (fun j hj => by have := (hrow2.lt j hj).1; have := HB3.size; omega)
        · have h1 := hg4.size; have h2 := hg5.size; simp at h2; omega
      case measure => rw [hrg5.left_eq, hrg.left_eq]; exact hlt
set_option maxHeartbeats 400000 in
set_option maxRecDepth 10000 in
theorem parts_All.calls (a0 : ByteArray) (r : List ByteArray) (w : World) (h : parts_All.f a0 = some r) :
    Calls Try.prog 73 #[.string a0] w fun e w' => ∃ v0_ : Value, e = .returned (v0_) ∧ Kd.R Kd.string 48 w' w.heap.size (fun _ => True) v0_ r ∧ Below w.heap.size w w' := by
  unfold parts_All.f at h
  split at h
  case isFalse => cases h
  rename_i hsz
  replace h := Option.some.inj h
  by_cases hr : rightB a0 = true
  · rw [if_pos hr] at h
    subst h
    exact parts_All.good a0 hr w
  · rw [if_neg hr] at h
    subst h
    have hr2 := Bool.eq_false_iff.mpr hr
    have HR := Aside0.mk (fun W => term_Right.calls a0 false W (by rw [term_Right.f, if_pos hsz, hr2]))
    clear hsz hr hr2
    go_enter Try.func73, Try.ntmps73
    go_wp2_with (go_at_call 101; go_loud (refine (HR.out _).mono ?_; rintro e w1 ⟨rfl, hb1⟩; have HB1 := Aside0.mk hb1; clear hb1))
    go_ret
    exact ⟨_, rfl, Kd.R_nil Kd.string _ _ _ _, HB1.out⟩

end Go.Proofs.Ytppimpadfgldjaa.F
