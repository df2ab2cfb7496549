/- The pure side of ViewNext: ids made one behind the other rise. -/
import Derived.Test.YtenmlpkgodnjnaaF4
namespace Go.Proofs.Ytenmlpkgodnjnaa.Pure
open Go.RowKit Go.Proofs.Ytenmlpkgodnjnaa.F Go.Proofs.YtenmlpkgodnjnaaW.PrintWords Go.Proofs.YtenmlpkgodnjnaaW.PrintLast

def Rise (a : Int) (xs : List S23) : Prop := ∀ j : Nat, j < xs.length → (xs.getD j z23).f0 = a + j
theorem Rise.rd {a : Int} {xs : List S23} (h : Rise a xs) (i : Int) (h0 : 0 ≤ i) (h1 : i < xs.length) : (rd_T23 xs i).f0 = a + i := by
  have := h i.toNat (by omega)
  unfold rd_T23
  omega
section
variable (a b : Int) (l : List Int) (ha : -4611686018427387904 ≤ a) (ha2 : a ≤ 4611686018427387904)
include ha ha2
theorem last_ (xs : List S23) (h : Rise a xs) (hn : xs.length = l.length + 1) (hl : l.length ≤ 50) (k : Nat) (i : Int) (hi : (xs.length : Int) ≤ i) : gemotlaw10_ViewNext.l1 (k + 1) l xs i a b = some true := by
  simp only [gemotlaw10_ViewNext.l1]
  have hw : wrap64 ((xs.length : Int) - 1) = l.length := by unfold wrap64; omega
  have hw2 : wrap64 (a + (l.length : Int)) = a + l.length := by unfold wrap64; omega
  rw [if_neg (by omega), hw, hw2, if_pos (by omega), if_pos (by omega), h.rd _ (by omega) (by omega)]
  simp
omit ha ha2 in
theorem inner_ (xs : List S23) (h : Rise a xs) (hn : xs.length = l.length + 1) (hl : l.length ≤ 50) (x8 : Int) (h8 : x8 < xs.length) (k0 : Nat)
    (hk0 : ∀ k, k0 ≤ k → gemotlaw10_ViewNext.l1 k l xs (x8 + 1) a b = some true) (d : Nat) :
    ∀ (k : Nat) (x9 : Int), 0 ≤ x9 → x9 ≤ x8 → x8 - x9 = d → k0 + d < k → gemotlaw10_ViewNext.l2 k l xs x8 x9 a b = some true := by
  have hw8 : wrap64 (x8 + 1) = x8 + 1 ∨ x8 < 0 := by unfold wrap64; omega
  induction d with
  | zero =>
    intro k x9 h0 h1 hd hk
    obtain ⟨k, rfl⟩ : ∃ m, k = m + 1 := ⟨k - 1, by omega⟩
    simp only [gemotlaw10_ViewNext.l2]
    rw [if_neg (by omega), hw8.resolve_right (by omega)]
    exact hk0 k (by omega)
  | succ d ih =>
    intro k x9 h0 h1 hd hk
    obtain ⟨k, rfl⟩ : ∃ m, k = m + 1 := ⟨k - 1, by omega⟩
    have hw : wrap64 (x9 + 1) = x9 + 1 := by unfold wrap64; omega
    have e8 := h.rd x8 (by omega) h8
    have e9 := h.rd x9 (by omega) (by omega)
    simp only [gemotlaw10_ViewNext.l2, view_Less.f]
    rw [if_pos (by omega), if_pos (by omega), if_pos (by omega), if_pos (by omega), if_pos (by omega)]
    simp only [Option.bind_some]
    rw [if_pos (by rw [decide_eq_true_eq]; omega), if_neg (by rw [decide_eq_true_eq]; omega), if_neg (by rw [Bool.and_eq_true, beq_iff_eq]; omega), hw]
    exact ih k (x9 + 1) (by omega) (by omega) (by omega) (by omega)
theorem outer_ (xs : List S23) (h : Rise a xs) (hn : xs.length = l.length + 1) (hl : l.length ≤ 50) (d : Nat) :
    ∀ (k : Nat) (x8 : Int), 0 ≤ x8 → x8 ≤ xs.length → (xs.length : Int) - x8 = d → d * 60 < k → gemotlaw10_ViewNext.l1 k l xs x8 a b = some true := by
  induction d with
  | zero =>
    intro k x8 h0 h1 hd hk
    obtain ⟨k, rfl⟩ : ∃ m, k = m + 1 := ⟨k - 1, by omega⟩
    exact last_ a b l ha ha2 xs h hn hl k x8 (by omega)
  | succ d ih =>
    intro k x8 h0 h1 hd hk
    obtain ⟨k, rfl⟩ : ∃ m, k = m + 1 := ⟨k - 1, by omega⟩
    simp only [gemotlaw10_ViewNext.l1]
    rw [if_pos (by omega)]
    exact inner_ a b l xs h hn hl x8 (by omega) (d * 60 + 1) (fun k hk => ih k (x8 + 1) (by omega) (by omega) (by omega) (by omega)) x8.toNat k 0 (by omega) (by omega) (by omega) (by omega)
theorem make_ (hl : l.length ≤ 50) (d : Nat) :
    ∀ (k : Nat) (xs : List S23) (i : Int), Rise a xs → (xs.length : Int) = i + 1 → 0 ≤ i → i ≤ l.length → (l.length : Int) - i = d → d + 3200 < k → gemotlaw10_ViewNext.l0 k l xs i a b = some true := by
  induction d with
  | zero =>
    intro k xs i h hx hi0 hi hd hk
    obtain ⟨k, rfl⟩ : ∃ m, k = m + 1 := ⟨k - 1, by omega⟩
    simp only [gemotlaw10_ViewNext.l0]
    rw [if_neg (by omega)]
    exact outer_ a b l ha ha2 xs h (by omega) hl xs.length k 0 (by omega) (by omega) (by omega) (by omega)
  | succ d ih =>
    intro k xs i h hx hi0 hi hd hk
    obtain ⟨k, rfl⟩ : ∃ m, k = m + 1 := ⟨k - 1, by omega⟩
    have e := h.rd i (by omega) (by omega)
    have hw : wrap64 (i + 1) = i + 1 := by unfold wrap64; omega
    have hw2 : wrap64 (a + i + 1) = a + i + 1 := by unfold wrap64; omega
    simp only [gemotlaw10_ViewNext.l0, view_Next.f]
    rw [if_pos (by omega), if_pos (by omega), if_pos (by omega)]
    simp only [Option.bind_some]
    rw [if_pos (by omega), hw, e, hw2]
    refine ih k _ (i + 1) ?_ (by simp; omega) (by omega) (by omega) (by omega) (by omega)
    intro j hj
    rw [List.length_append, List.length_singleton] at hj
    rcases Nat.lt_or_ge j xs.length with hlt | hge
    · have := h j hlt
      simp only [List.getD_eq_getElem?_getD] at this ⊢
      rw [List.getElem?_append_left hlt]
      exact this
    · obtain rfl : j = xs.length := by omega
      simp only [List.getD_eq_getElem?_getD]
      rw [List.getElem?_append_right (Nat.le_refl _)]
      simp
      omega
end
theorem ViewNext : ∀ (a0_0 : Int) (a0_1 : Int) (l1 : List Int), ((Lit.int .i64 a0_0).wf = true) → ((Lit.int .i64 a0_1).wf = true) → (l1.length ≤ 9223372036854775807 ∧ ∀ y ∈ l1, (Lit.int .i64 y).wf = true) → ∃ k, gemotlaw10_ViewNext.f k a0_0 a0_1 l1 = some true := by
  intro a b l _ _ _
  refine ⟨3400, ?_⟩
  have j1 : gemotlaw10_ViewNext.j0 3400 l true true a b = some true := by
    simp only [gemotlaw10_ViewNext.j0]
    rw [if_pos trivial]
  simp only [gemotlaw10_ViewNext.f, gemotlaw10_shown.f, Option.bind_some]
  rw [if_pos trivial]
  by_cases h1 : (l.length : Int) > 50
  · rw [if_pos h1]; exact j1
  · rw [if_neg h1]
    by_cases h2 : a > 4611686018427387904
    · rw [if_pos h2]; exact j1
    · rw [if_neg h2]
      by_cases h3 : a < -4611686018427387904
      · rw [decide_eq_true h3]; exact j1
      · rw [decide_eq_false h3]
        simp only [gemotlaw10_ViewNext.j0]
        rw [if_neg (by simp)]
        refine make_ a b l (by omega) (by omega) (by omega) l.length _ _ 0 ?_ (by simp) (by omega) (by omega) (by omega) (by omega)
        intro j hj
        simp only [List.length_singleton] at hj
        obtain rfl : j = 0 := by omega
        simp
end Go.Proofs.Ytenmlpkgodnjnaa.Pure
