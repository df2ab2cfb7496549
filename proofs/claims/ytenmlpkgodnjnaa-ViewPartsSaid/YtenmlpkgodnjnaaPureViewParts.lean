/- The pure side of ViewParts: both's members and the others', in their order; a view's message says the view. -/
import Derived.Test.YtenmlpkgodnjnaaLView
import Derived.Test.YtenmlpkgodnjnaaF8
namespace Go.Proofs.Ytenmlpkgodnjnaa.Pure
open Go.RowKit Go.Proofs.Ytenmlpkgodnjnaa.F Go.Proofs.YtenmlpkgodnjnaaW.PrintWords Go.Proofs.YtenmlpkgodnjnaaW.PrintLast

theorem toList_inj {a b : ByteArray} (h : a.toList = b.toList) : a = b := by
  rw [ByteArray.toList_eq, ByteArray.toList_eq] at h
  exact ByteArray.ext (Array.ext' h)
section
variable (e c : Int) (l : List Int) (e' c' : Int) (l' : List Int) (hl : l.length ≤ 50) (hl' : l'.length ≤ 50)
include hl hl'
omit hl' in
theorem parts_end (k : Nat) (hk : 100 < k) : gemotlaw10_ViewParts.j3 k (if viewB e c l = true then (viewOut e c l, (0 : Int)) else (⟨#[]⟩, 1)).1 (if viewB e c l = true then (viewOut e c l, (0 : Int)) else (⟨#[]⟩, 1)).2 (if viewB e' c' l' = true then (viewOut e' c' l', (0 : Int)) else (⟨#[]⟩, 1)).1 (if viewB e' c' l' = true then (viewOut e' c' l', (0 : Int)) else (⟨#[]⟩, 1)).2 false e c l e' c' l' = some true := by
  obtain ⟨k, rfl⟩ : ∃ m, k = m + 1 := ⟨k - 1, by omega⟩
  simp only [gemotlaw10_ViewParts.j3]
  rw [if_neg (by simp)]
  by_cases h : viewB e c l = true
  · rw [if_pos h]
    by_cases h' : viewB e' c' l' = true
    · rw [if_pos h']
      simp only [if_true]
      have hr := viewOut_right h
      have hs : term_Right.f (viewOut e c l) = some true := by
        rw [term_Right.f, if_pos (by have := ((right_iff _).mp hr).2; omega), hr]
      rw [same_f k l l' (by omega) (by omega), hs]
      by_cases q : e = e' ∧ c = c'
      · obtain ⟨rfl, rfl⟩ := q
        rw [if_pos (by simp)]
        simp only [Option.bind_some]
        have : ((viewOut e c l).toList == (viewOut e c l').toList) = (l == l') := by
          by_cases q2 : l = l'
          · rw [q2]; simp
          · have h1 : (l == l') = false := beq_eq_false_iff_ne.mpr q2
            rw [h1, beq_eq_false_iff_ne]
            intro h2
            exact q2 (viewOut_inj h h' (toList_inj h2)).2.2
        rw [this, if_pos (by simp)]
      · rw [if_neg (by simp; omega)]
        have : ((viewOut e c l).toList == (viewOut e' c' l').toList) = false := by
          rw [beq_eq_false_iff_ne]
          intro h2
          have := viewOut_inj h h' (toList_inj h2)
          exact q ⟨this.1, this.2.1⟩
        rw [this, if_pos (by rfl)]
        rfl
    · rw [if_neg h']
      rw [if_pos rfl, if_neg (by decide)]
  · rw [if_neg h]
    rw [if_neg (by decide)]
theorem parts_l0 (x y : List Int) : ∀ (d k : Nat) (i j n : Int), 0 ≤ n → n ≤ l.length → (l.length : Int) - n = d → 2 * d + 200 < k → 0 ≤ i → i ≤ x.length → 0 ≤ j → j ≤ y.length → x.length ≤ 50 → y.length ≤ 50 →
    x.drop i.toNat = (l.drop n.toNat).filter (fun p => l'.contains p) → y.drop j.toNat = (l.drop n.toNat).filter (fun p => !l'.contains p) → gemotlaw10_ViewParts.l0 k x y i j n e c l e' c' l' = some true := by
  intro d
  induction d with
  | zero =>
    intro k i j n h0 h1 hd hk hi hi2 hj hj2 hx50 hy50 hx hy
    obtain ⟨k, rfl⟩ : ∃ m, k = m + 1 := ⟨k - 1, by omega⟩
    rw [List.drop_eq_nil_of_le (show l.length ≤ n.toNat by omega), List.filter_nil] at hx hy
    have hx := List.drop_eq_nil_iff.mp hx
    have hy := List.drop_eq_nil_iff.mp hy
    simp only [gemotlaw10_ViewParts.l0]
    rw [if_neg (by omega), term_f k e c l (by omega) (by omega), term_f k e' c' l' (by omega) (by omega)]
    simp only [Option.bind_some]
    rw [if_pos (by omega), if_pos (by omega), right_f k e c l (by omega) (by omega)]
    simp only [Option.bind_some]
    have := parts_end e c l e' c' l' hl k (by omega)
    by_cases h : viewB e c l = true
    · rw [if_pos h] at this ⊢
      rw [show (((viewOut e c l, (0 : Int)).2 == 0) != viewB e c l) = false by rw [h]; rfl]
      exact this
    · rw [if_neg h] at this ⊢
      rw [show ((((⟨#[]⟩ : ByteArray), (1 : Int)).2 == 0) != viewB e c l) = false by rw [Bool.eq_false_iff.mpr h]; rfl]
      exact this
  | succ d ih =>
    intro k i j n h0 h1 hd hk hi hi2 hj hj2 hx50 hy50 hx hy
    obtain ⟨k, rfl⟩ : ∃ m, k = m + 1 := ⟨k - 1, by omega⟩
    have hdr := drop_rd l n h0 (by omega)
    have hwn : wrap64 (n + 1) = n + 1 := by unfold wrap64; omega
    have hwi : wrap64 (i + 1) = i + 1 := by unfold wrap64; omega
    have hwj : wrap64 (j + 1) = j + 1 := by unfold wrap64; omega
    rw [hdr] at hx hy
    simp only [gemotlaw10_ViewParts.l0, has_f, Option.bind_some]
    rw [if_pos (by omega), if_pos (by omega)]
    obtain ⟨k, rfl⟩ : ∃ m, k = m + 1 := ⟨k - 1, by omega⟩
    by_cases c1 : l'.contains (rd l n) = true
    · rw [List.filter_cons_of_pos c1] at hx
      rw [List.filter_cons_of_neg (by rw [c1]; simp)] at hy
      have hlt : i < x.length := by
        by_cases q : i < x.length
        · exact q
        · rw [List.drop_eq_nil_of_le (by omega)] at hx; exact absurd hx (by simp)
      rw [drop_rd x i hi hlt] at hx
      have hx' := List.cons.inj hx
      rw [if_pos hlt, if_pos hi, if_pos hx'.1, c1]
      simp only [gemotlaw10_ViewParts.j2]
      rw [if_pos trivial, hwn, hwi]
      exact ih k (i + 1) j (n + 1) (by omega) (by omega) (by omega) (by omega) (by omega) (by omega) hj hj2 hx50 hy50 hx'.2 hy
    · have c1' : l'.contains (rd l n) = false := Bool.eq_false_iff.mpr c1
      rw [List.filter_cons_of_neg (by rw [c1']; simp)] at hx
      rw [List.filter_cons_of_pos (by rw [c1']; rfl)] at hy
      have hlt : j < y.length := by
        by_cases q : j < y.length
        · exact q
        · rw [List.drop_eq_nil_of_le (by omega)] at hy; exact absurd hy (by simp)
      rw [drop_rd y j hj hlt] at hy
      have hy' := List.cons.inj hy
      have hj2' : gemotlaw10_ViewParts.j2 (k + 1) x y i j n (rd l n) false e c l e' c' l' = some true := by
        simp only [gemotlaw10_ViewParts.j2, has_f, Option.bind_some]
        rw [if_neg (by simp), if_pos hlt, if_pos hj, if_pos hy'.1, if_neg c1, hwn, hwj]
        exact ih k i (j + 1) (n + 1) (by omega) (by omega) (by omega) (by omega) hi hi2 (by omega) (by omega) hx50 hy50 hx hy'.2
      rw [c1', hj2']
      (repeat' split) <;> first | rfl | omega
end
theorem ViewParts : ∀ (a0_0 : Int) (a0_1 : Int) (l0_2 : List Int) (a1_0 : Int) (a1_1 : Int) (l1_2 : List Int), ((Lit.int .i64 a0_0).wf = true) → ((Lit.int .i64 a0_1).wf = true) → (l0_2.length ≤ 9223372036854775807 ∧ ∀ y ∈ l0_2, (Lit.int .i64 y).wf = true) → ((Lit.int .i64 a1_0).wf = true) → ((Lit.int .i64 a1_1).wf = true) → (l1_2.length ≤ 9223372036854775807 ∧ ∀ y ∈ l1_2, (Lit.int .i64 y).wf = true) → ∃ k, gemotlaw10_ViewParts.f k a0_0 a0_1 l0_2 a1_0 a1_1 l1_2 = some true := by
  intro e c l e' c' l' _ _ _ _ _ _
  refine ⟨400 + 1, ?_⟩
  simp only [gemotlaw10_ViewParts.f, gemotlaw10_shown.f, Option.bind_some]
  rw [if_pos trivial]
  by_cases h1 : (l.length : Int) > 50
  · rw [if_pos h1]; simp [gemotlaw10_ViewParts.j0]
  rw [if_neg h1]
  by_cases h2 : (l'.length : Int) > 50
  · rw [decide_eq_true h2]; simp [gemotlaw10_ViewParts.j0]
  rw [decide_eq_false h2]
  simp only [gemotlaw10_ViewParts.j0, view_Both.f, view_Without.f]
  rw [if_neg (by simp), if_pos (by omega), if_pos (by omega)]
  simp only [Option.bind_some]
  have n1 := List.length_filter_le (fun p => l'.contains p) l
  have n2 := List.length_filter_le (fun p => !l'.contains p) l
  exact parts_l0 e c l e' c' l' (by omega) (by omega) _ _ l.length 400 0 0 0 (by omega) (by omega) (by omega) (by omega) (by omega) (by omega) (by omega) (by omega) (by omega) (by omega) rfl rfl
end Go.Proofs.Ytenmlpkgodnjnaa.Pure
