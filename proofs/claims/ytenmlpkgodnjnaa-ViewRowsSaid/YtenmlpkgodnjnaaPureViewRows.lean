/- The pure side of ViewRows: parts of a row are rows; a view of a row is right where its epoch is. -/
import Derived.Test.YtenmlpkgodnjnaaLView
import Derived.Test.YtenmlpkgodnjnaaF9
namespace Go.Proofs.Ytenmlpkgodnjnaa.Pure
open Go.RowKit Go.Proofs.Ytenmlpkgodnjnaa.F Go.Proofs.YtenmlpkgodnjnaaW.PrintWords Go.Proofs.YtenmlpkgodnjnaaW.PrintLast Go.Proofs.YtenmlpkgodnjnaaW.PrintMore

theorem rowP_filter {l : List Int} (h : RowP l) (p : Int → Bool) : RowP (l.filter p) := ⟨h.1.filter p, fun x hx => h.2 x (List.mem_filter.mp hx).1⟩
theorem row_pos {l : List Int} (h : RowP l) : upB 0 l = decide ((l.length : Int) > 0) := by
  cases l with
  | nil => rfl
  | cons x l =>
    rw [(row_iff _).mpr ⟨h, by simp⟩]
    exact (decide_eq_true (by simp)).symm
theorem rowP_snoc {l : List Int} {p : Int} (h : RowP l) (hp : 1 ≤ p ∧ p ≤ 8) (hl : ∀ x ∈ l, x < p) : RowP (l ++ [p]) ∧ ∀ x ∈ l ++ [p], x < p + 1 := by
  refine ⟨⟨List.pairwise_append.mpr ⟨h.1, by simp, fun x hx y hy => by simp at hy; rw [hy]; exact hl x hx⟩, fun x hx => ?_⟩, fun x hx => ?_⟩
  · rcases List.mem_append.mp hx with hx | hx
    · exact h.2 x hx
    · simp at hx; omega
  · rcases List.mem_append.mp hx with hx | hx
    · have := hl x hx; omega
    · simp at hx; omega
theorem rows_end (k : Nat) (e : Int) (x : List Int) (h : RowP x) (hk : 60 < k) : gemotlaw10_ViewRows.j1 k e x false = some true := by
  obtain ⟨k, rfl⟩ : ∃ m, k = m + 1 := ⟨k - 1, by omega⟩
  have hn := rowP_length h
  simp only [gemotlaw10_ViewRows.j1]
  rw [if_neg (by simp)]
  by_cases c : (x.length : Int) = 0
  · rw [if_pos c, right_f k 0 0 [] (by simp) (by simp; omega)]
    rfl
  rw [if_neg c, if_pos (by omega), term_f k e (rd x 0) x (by omega) (by omega), right_f k e (rd x 0) x (by omega) (by omega)]
  simp only [Option.bind_some]
  have hm : rd x 0 ∈ x := by
    cases x with
    | nil => simp at c
    | cons y x => exact List.mem_cons_self
  by_cases v : viewB e (rd x 0) x = true
  · have hv := (viewB_iff _ _ _).mp v
    rw [v, if_pos hv.2.2.1, decide_eq_true (show e ≤ 2147483647 from hv.2.2.2)]
    rfl
  · have v' := Bool.eq_false_iff.mpr v
    rw [v']
    by_cases q : e ≥ 0
    · rw [if_pos q, decide_eq_false (show ¬ e ≤ 2147483647 from fun q2 => v ((viewB_iff _ _ _).mpr ⟨h, hm, q, q2⟩))]
      rfl
    · rw [if_neg q]
      rfl
theorem both_comm {x y : List Int} (hx : RowP x) (hy : RowP y) : x.filter (fun p => y.contains p) = y.filter (fun p => x.contains p) := by
  refine sorted_ext (rowP_filter hx _).1 (rowP_filter hy _).1 fun z => ?_
  rw [List.mem_filter, List.mem_filter, List.contains_iff_mem, List.contains_iff_mem]
  exact And.comm
theorem filter_parts (x : List Int) (p : Int → Bool) : (x.filter p).length + (x.filter fun z => !p z).length = x.length := by
  induction x with
  | nil => rfl
  | cons a x ih =>
    cases h : p a
    · rw [List.filter_cons_of_neg (by simp [h]), List.filter_cons_of_pos (by simp [h]), List.length_cons, List.length_cons]; omega
    · rw [List.filter_cons_of_pos h, List.filter_cons_of_neg (by simp [h]), List.length_cons, List.length_cons]; omega
theorem rows_l0 (a b e : Int) : ∀ (d k : Nat) (x y : List Int) (p : Int), 1 ≤ p → 9 - p = d → 2 * d + 200 < k → RowP x → RowP y → (∀ z ∈ x, z < p) → (∀ z ∈ y, z < p) → gemotlaw10_ViewRows.l0 k a b e true x y p = some true := by
  intro d
  induction d with
  | zero =>
    intro k x y p h1 hd hk hx hy hxp hyp
    obtain ⟨k, rfl⟩ : ∃ m, k = m + 1 := ⟨k - 1, by omega⟩
    have nx := rowP_length hx
    have ny := rowP_length hy
    have hb := rowP_filter hx (fun p => y.contains p)
    have ho := rowP_filter hx (fun p => !y.contains p)
    have nb := rowP_length hb
    have no := rowP_length ho
    have hs := filter_parts x (fun p => y.contains p)
    simp only [gemotlaw10_ViewRows.l0, view_Both.f, view_Without.f]
    rw [if_neg (by omega), if_pos (by omega), if_pos (by omega)]
    simp only [Option.bind_some]
    rw [if_pos trivial, row_f k x (by omega) (by omega), row_pos hx]
    simp only [Option.bind_some]
    have hw : wrap64 (((x.filter fun p => y.contains p).length : Int) + ((x.filter fun p => !y.contains p).length : Int)) = (x.length : Int) := by unfold wrap64; omega
    rw [if_neg (by simp), if_pos hw, row_f k _ (by omega) (by omega), row_pos hb]
    simp only [Option.bind_some]
    rw [if_neg (by simp), row_f k _ (by omega) (by omega), row_pos ho]
    simp only [Option.bind_some]
    rw [if_neg (by simp), if_pos (by omega)]
    simp only [Option.bind_some]
    rw [same_f k _ _ (by omega) (by omega), both_comm hx hy]
    simp only [Option.bind_some, beq_self_eq_true, Bool.not_true]
    exact rows_end k e x hx (by omega)
  | succ d ih =>
    intro k x y p h1 hd hk hx hy hxp hyp
    obtain ⟨k, rfl⟩ : ∃ m, k = m + 1 := ⟨k - 1, by omega⟩
    have nx := rowP_length hx
    have ny := rowP_length hy
    have hw1 : wrap64 (p - 1) = p - 1 := by unfold wrap64; omega
    have hw2 : wrap64 (p + 1) = p + 1 := by unfold wrap64; omega
    have sx := rowP_snoc hx (p := p) (by omega) hxp
    have sy := rowP_snoc hy (p := p) (by omega) hyp
    have lx : ∀ z ∈ x, z < p + 1 := fun z hz => by have := hxp z hz; omega
    have ly : ∀ z ∈ y, z < p + 1 := fun z hz => by have := hyp z hz; omega
    simp only [gemotlaw10_ViewRows.l0]
    rw [if_pos (by omega), hw1, hw2, if_pos (by omega)]
    split
    · rw [if_pos (by omega)]
      simp only [Option.bind_some]
      split
      · rw [if_pos (by omega)]
        exact ih k _ _ (p + 1) (by omega) (by omega) (by omega) sx.1 sy.1 sx.2 sy.2
      · exact ih k _ _ (p + 1) (by omega) (by omega) (by omega) sx.1 hy sx.2 ly
    · split
      · rw [if_pos (by omega)]
        exact ih k _ _ (p + 1) (by omega) (by omega) (by omega) hx sy.1 lx sy.2
      · exact ih k _ _ (p + 1) (by omega) (by omega) (by omega) hx hy lx ly
theorem ViewRows : ∀ (a0 : Int) (a1 : Int) (a2 : Int), ((Lit.int .i64 a0).wf = true) → ((Lit.int .i64 a1).wf = true) → ((Lit.int .i64 a2).wf = true) → ∃ k, gemotlaw10_ViewRows.f k a0 a1 a2 = some true := by
  intro a b e _ _ _
  refine ⟨400, ?_⟩
  simp only [gemotlaw10_ViewRows.f, gemotlaw10_shown.f, Option.bind_some]
  exact rows_l0 a b e 8 400 [] [] 1 (by omega) (by omega) (by omega) ⟨List.Pairwise.nil, by simp⟩ ⟨List.Pairwise.nil, by simp⟩ (by simp) (by simp)
end Go.Proofs.Ytenmlpkgodnjnaa.Pure
