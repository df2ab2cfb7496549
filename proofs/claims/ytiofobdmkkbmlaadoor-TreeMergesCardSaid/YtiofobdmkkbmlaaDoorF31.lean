-- Laid by mk.py (a program of this session) over the seat's translation.
import Derived.Test.YtiofobdmkkbmlaaDoorF0
import Derived.Test.YtiofobdmkkbmlaaDoorF33
import Derived.Test.YtiofobdmkkbmlaaDoorF51
import Derived.Test.YtiofobdmkkbmlaaDoorF53
import Derived.RegionTactic
import Derived.BigRegion
import Derived.Deep.QuietTactic
import Derived.BigQuiet
import Derived.Test.YtiofobdmkkbmlaaDoorLTree
namespace Go.Proofs.YtiofobdmkkbmlaaDoor.F
open Go.RowKit Go.Proofs.YtiofobdmkkbmlaaDoorW.PrintWords Go.Proofs.YtiofobdmkkbmlaaDoorW.PrintLast Go.Proofs.YtiofobdmkkbmlaaDoorW.PrintMore
attribute [local go_sem] max2_int min2_int max_two min_two max_three min_three max_four min_four
set_option linter.unusedVariables false
set_option linter.unusedSimpArgs false

/-! ### tree_of: function 31 -/
open Go.Proofs.YtiofobdmkkbmlaaDoor.Pure Go.Deep
/-- A text's tree in memory, or nothing. -/
def OfOut (w : World) (o : Option Tr) (e : Ending) (w' : World) : Prop :=
  (match o with
  | none => e = .returned (.pointer none)
  | some t => ∃ b, e = .returned (.pointer (some ⟨b, 0, none⟩)) ∧ TreeIn w' t w.heap.size w'.heap.size b) ∧ Below w.heap.size w w'
theorem upB_iff : ∀ (l : List Int) (last : Int), 0 ≤ last → (upB last l = true ↔ (last :: l).Pairwise (· < ·) ∧ (∀ x ∈ l, x ≤ 8) ∧ (l = [] → 0 < last))
  | [], last, h0 => by
    rw [upB, decide_eq_true_eq]
    exact ⟨fun h => ⟨List.pairwise_singleton _ _, fun x hx => by simp at hx, fun _ => h⟩, fun h => h.2.2 rfl⟩
  | x :: l, last, h0 => by
    rw [upB]
    by_cases c : x ≤ last
    · rw [if_pos c]
      refine ⟨fun h => absurd h (by decide), fun h => ?_⟩
      have := (List.pairwise_cons.mp h.1).1 x List.mem_cons_self
      omega
    rw [if_neg c]
    by_cases d : x > 8
    · rw [if_pos d]
      refine ⟨fun h => absurd h (by decide), fun h => ?_⟩
      have := h.2.1 x List.mem_cons_self
      omega
    rw [if_neg d, upB_iff l x (by omega)]
    constructor
    · rintro ⟨h1, h2, h3⟩
      refine ⟨List.pairwise_cons.mpr ⟨fun y hy => ?_, h1⟩, fun y hy => ?_, fun e => by cases e⟩
      · rcases List.mem_cons.mp hy with rfl | hy
        · omega
        · have := (List.pairwise_cons.mp h1).1 y hy
          omega
      · rcases List.mem_cons.mp hy with rfl | hy
        · omega
        · exact h2 y hy
    · rintro ⟨h1, h2, _⟩
      exact ⟨(List.pairwise_cons.mp h1).2, fun y hy => h2 y (List.mem_cons_of_mem _ hy), fun _ => by omega⟩
theorem strict_of : ∀ (l : List Int), l.Pairwise (· ≤ ·) → l.Nodup → l.Pairwise (· < ·)
  | [], _, _ => List.Pairwise.nil
  | x :: l, h, hn => by
    rw [List.pairwise_cons] at h ⊢
    rw [List.nodup_cons] at hn
    refine ⟨fun y hy => ?_, strict_of l h.2 hn.2⟩
    have h1 := h.1 y hy
    have h2 : x ≠ y := fun e => hn.1 (e ▸ hy)
    omega
theorem mems_sorted (t : Tr) : t.mems.Pairwise (· ≤ ·) := by
  have hle : ∀ a b : Int, (decide (a ≤ b) || decide (b ≤ a)) = true := fun a b => by simp; omega
  have htr : ∀ a b c : Int, decide (a ≤ b) = true → decide (b ≤ c) = true → decide (a ≤ c) = true := fun a b c h1 h2 => by simp at h1 h2 ⊢; omega
  exact (List.pairwise_mergeSort htr hle t.leaves).imp fun {a b} h => by simpa using h
theorem row_right {t : Tr} (ho : t.Ok) : upB 0 t.mems = true ↔ t.Right := by
  have hne : t.mems ≠ [] := fun e => by
    have h1 := mems_len t
    have h2 := t.leaves_pos
    rw [e] at h1
    simp at h1
    omega
  rw [upB_iff _ _ (Int.le_refl _)]
  constructor
  · rintro ⟨h1, _, _⟩
    refine ⟨ho, (mems_perm t).nodup_iff.mp ?_⟩
    exact (List.pairwise_cons.mp h1).2.imp fun {a b} h => by omega
  · rintro ⟨_, hn⟩
    refine ⟨List.pairwise_cons.mpr ⟨fun x hx => ?_, strict_of _ (mems_sorted t) ((mems_perm t).nodup_iff.mpr hn)⟩, fun x hx => ?_, fun e => absurd e hne⟩
    · have := ho x (mems_mem.mp hx); omega
    · have := ho x (mems_mem.mp hx); omega
set_option maxHeartbeats 2000000 in
set_option maxRecDepth 100000 in
theorem of.none_ (s : ByteArray) (w : World) (hs : s.size ≤ 1000) (hp : prs s.data.toList = none) : Calls Tryd.prog 31 #[.string s] w (OfOut w none) := by
  have HR := Aside0.mk (read.calls (s.size + 1) s (Nat.lt_succ_self _) (by omega) w)
  unfold ReadOut at HR
  rw [hp] at HR
  clear hs hp
  go_enter Tryd.func31, Tryd.ntmps31
  go_wp2_with (go_at_call 53; go_loud (refine (HR.out).mono ?_; rintro e w1 ⟨rfl, hb1⟩))
  go_ret
  exact ⟨rfl, by first | exact hb1 | exact below_drew1 hb1⟩
set_option maxHeartbeats 2000000 in
set_option maxRecDepth 100000 in
theorem of.rest (s : ByteArray) (w : World) (hs : s.size ≤ 1000) (t : Tr) (c : UInt8) (r : List UInt8) (hp : prs s.data.toList = some (t, c :: r)) : Calls Tryd.prog 31 #[.string s] w (OfOut w none) := by
  have HR := Aside0.mk (read.calls (s.size + 1) s (Nat.lt_succ_self _) (by omega) w)
  unfold ReadOut at HR
  rw [hp] at HR
  have hne : ((⟨(c :: r).toArray⟩ : ByteArray).toList == ([] : List UInt8)) = false := by
    rw [beq_eq_false_iff_ne, ByteArray.toList_eq]; exact List.cons_ne_nil _ _
  have hne1 : ((⟨(c :: r).toArray⟩ : ByteArray).toList != ([] : List UInt8)) = true := by
    rw [bne_iff_ne, ByteArray.toList_eq]; exact List.cons_ne_nil _ _
  have hne2 : (⟨(c :: r).toArray⟩ : ByteArray).toList.isEmpty = false := by rw [ByteArray.toList_eq]; rfl
  generalize (⟨(c :: r).toArray⟩ : ByteArray) = S at HR hne hne1 hne2
  clear hs hp
  go_enter Tryd.func31, Tryd.ntmps31
  go_wp2_with (go_at_call 53; go_loud (refine (HR.out).mono ?_; rintro e w1 ⟨⟨b, rfl, ht⟩, hb1⟩; clear ht))
  go_ret
  exact ⟨rfl, by first | exact hb1 | exact below_drew1 hb1⟩
set_option maxHeartbeats 2000000 in
set_option maxRecDepth 100000 in
theorem of.whole (s : ByteArray) (w : World) (hs : s.size ≤ 1000) (t : Tr) (hp : prs s.data.toList = some (t, [])) : Calls Tryd.prog 31 #[.string s] w (OfOut w (if upB 0 t.mems = true then some t else none)) := by
  have HR := Aside0.mk (read.calls (s.size + 1) s (Nat.lt_succ_self _) (by omega) w)
  unfold ReadOut at HR
  rw [hp] at HR
  have hsz := t.bytes_len
  have hl : t.leaves.length ≤ 1000 := by
    have h1 := congrArg List.length (prs_sound hp).1
    have h2 : s.data.toList.length = s.size := rfl
    rw [List.append_nil, h2] at h1
    omega
  have HM := Aside0.mk (fun (w1 : World) (b lo : Nat) (h : TreeIn w1 t lo w1.heap.size b) => members.calls t lo w1.heap.size b w1 h (Nat.le_refl _) hl)
  have HV := Aside0.mk (fun (w2 : World) A c hr hc => view_Row.calls A c t.mems (upB 0 t.mems) w2 hr hc (if_pos (by rw [mems_len]; omega)))
  cases hu : upB 0 t.mems
  · rw [if_neg (by decide)]
    rw [hu] at HV
    clear hs hp hsz hl hu
    go_enter Tryd.func31, Tryd.ntmps31
    go_wp2_with (first
      | (go_at_call 53; go_loud (refine (HR.out).mono ?_; rintro e w1 ⟨⟨b, rfl, ht⟩, hb1⟩; have HT := Aside0.mk ht; have HB1 := Aside0.mk hb1; clear ht hb1))
      | (go_at_call 33; go_loud (refine (HM.out _ _ _ HT.out).mono ?_; rintro e w2 ⟨v, rfl, hv, hb2⟩; obtain ⟨A1, c1, rfl⟩ := Kd.R_slice hv; have HV2 := Aside0.mk hv; have HB2 := Aside0.mk hb2; clear hv hb2))
      | (go_at_call 51; go_loud (refine (HV.out _ _ _ (Kd.R_reads' HV2.out).2.2 (Kd.R_reads' HV2.out).2.1).mono ?_; rintro e w3 ⟨rfl, hd3⟩)))
    go_ret
    exact ⟨rfl, below_step (below_step HB1.out HB2.out) hd3.below⟩
  · rw [if_pos rfl]
    rw [hu] at HV
    clear hs hp hsz hl hu
    go_enter Tryd.func31, Tryd.ntmps31
    go_wp2_with (first
      | (go_at_call 53; go_loud (refine (HR.out).mono ?_; rintro e w1 ⟨⟨b, rfl, ht⟩, hb1⟩; have HT := Aside0.mk ht; have HB1 := Aside0.mk hb1; clear ht hb1))
      | (go_at_call 33; go_loud (refine (HM.out _ _ _ HT.out).mono ?_; rintro e w2 ⟨v, rfl, hv, hb2⟩; obtain ⟨A1, c1, rfl⟩ := Kd.R_slice hv; have HV2 := Aside0.mk hv; have HB2 := Aside0.mk hb2; clear hv hb2))
      | (go_at_call 51; go_loud (refine (HV.out _ _ _ (Kd.R_reads' HV2.out).2.2 (Kd.R_reads' HV2.out).2.1).mono ?_; rintro e w3 ⟨rfl, hd3⟩)))
    go_ret
    have h3 : w2.heap.size ≤ w3.heap.size := hd3.below.size
    exact ⟨⟨b, rfl, (((HT.out.below HB2.out (Nat.le_refl _)).below hd3.below HB2.out.size).wide (Nat.le_refl _) (Nat.le_trans HB2.out.size h3))⟩, below_step (below_step HB1.out HB2.out) hd3.below⟩
theorem of.calls (s : ByteArray) (w : World) (hs : s.size ≤ 1000) : Calls Tryd.prog 31 #[.string s] w (OfOut w (treeOf s)) := by
  cases hp : prs s.data.toList with
  | none =>
    have : treeOf s = none := by unfold treeOf; rw [hp]
    rw [this]
    exact of.none_ s w hs hp
  | some x =>
    obtain ⟨t, r⟩ := x
    cases r with
    | cons c r =>
      have : treeOf s = none := by unfold treeOf; rw [hp]
      rw [this]
      exact of.rest s w hs t c r hp
    | nil =>
      have h1 := of.whole s w hs t hp
      have : treeOf s = if upB 0 t.mems = true then some t else none := by
        unfold treeOf
        rw [hp]
        simp only
        have h2 := row_right (prs_sound hp).2
        by_cases c : upB 0 t.mems = true
        · rw [if_pos c, if_pos (h2.mp c)]
        · rw [if_neg c, if_neg (fun h => c (h2.mpr h))]
      rw [this]
      exact h1

end Go.Proofs.YtiofobdmkkbmlaaDoor.F
