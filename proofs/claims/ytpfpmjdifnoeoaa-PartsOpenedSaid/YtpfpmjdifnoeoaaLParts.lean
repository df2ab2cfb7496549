/- Plain facts about what stands in a term next to it. -/
import Derived.Test.YtpfpmjdifnoeoaaLTerm3
import Derived.Test.YtpfpmjdifnoeoaaF74
namespace Go.Proofs.Ytpfpmjdifnoeoaa.Pure
set_option linter.unusedVariables false
set_option linter.unusedSimpArgs false
open Go.RowKit Go.Proofs.Ytpfpmjdifnoeoaa.F Go.Proofs.YtpfpmjdifnoeoaaW.PrintWords Go.Proofs.YtpfpmjdifnoeoaaW.PrintLast

theorem tk_cat : ∀ (ts : List ByteArray) (k : Nat), (∀ t ∈ ts, Tm t ∧ t.size ≤ 20000) → (cat ts).size ≤ k → tkN k (cat ts) = ts
  | [], 0, _, _ => rfl
  | [], k + 1, _, _ => by rw [tkN, if_pos (.inl (show (cat []).size = 0 from rfl))]
  | t :: ts, 0, h, hk => by
    have := (h t List.mem_cons_self).1.pos
    rw [cat, ByteArray.size_append] at hk
    omega
  | t :: ts, k + 1, h, hk => by
    have h1 := h t List.mem_cons_self
    have h2 := h1.1.pos
    rw [cat, ByteArray.size_append] at hk
    have h3 := take_app (r := cat ts) h1.1 h1.2
    rw [tkN, cat, h3]
    simp only
    rw [if_neg (by rw [ByteArray.size_append]; omega), tk_cat ts k (fun x hx => h x (List.mem_cons_of_mem _ hx)) (by omega)]
/-- The body of what has parts. -/
theorem body_node {t h : ByteArray} {ts : List ByteArray} {pow : Bool} (n : Node t h ts pow) : bodyF t = cat ts := by
  have h2 := n.body
  have h3 := bt_head n
  have hh := n.head
  unfold bodyF
  cases hh with
  | pow h4 h5 =>
    have h6 : bt t 0 = 101 := h3.trans rfl
    rw [if_neg (by omega), if_pos h6]
    exact h2
  | key x hx => rw [if_pos (.inl (h3.trans rfl))]; exact h2
  | hash x => rw [if_pos (.inr (.inl (h3.trans rfl)))]; exact h2
  | pair x y => rw [if_pos (.inr (.inr (.inl (h3.trans rfl))))]; exact h2
  | sign x y => rw [if_pos (.inr (.inr (.inr (.inr (h3.trans rfl)))))]; exact h2
  | sealed x y z => rw [if_pos (.inr (.inr (.inr (.inl (h3.trans rfl)))))]; exact h2
theorem kids_node {t h : ByteArray} {ts : List ByteArray} {pow : Bool} (n : Node t h ts pow) (hs : t.size ≤ 20000) : kidsF t = ts := by
  unfold kidsF tkF
  rw [body_node n]
  exact tk_cat ts _ (n.small hs) (Nat.le_refl _)
theorem kids_leaf {t : ByteArray} (h : Leaf t) : kidsF t = [] := by
  have hb := leaf_bytes h
  unfold kidsF bodyF
  rw [if_neg (by omega), if_neg (by omega)]
  exact tkF_nil rfl
/-- A right text is a leaf, or its parts stand in it. -/
theorem right_cases {t : ByteArray} (h : rightB t = true) : Leaf t ∨ ∃ hd pow, Node t hd (kidsF t) pow := by
  have h1 := (right_iff t).mp h
  rcases h1.1.cases with hl | ⟨hd, ts, pow, n⟩
  · exact .inl hl
  · have := kids_node n h1.2
    exact .inr ⟨hd, pow, by rw [this]; exact n⟩
theorem kids_right {t : ByteArray} (h : rightB t = true) : ∀ x ∈ kidsF t, rightB x = true ∧ x.size < t.size ∧ depF x < depF t := by
  intro x hx
  rcases right_cases h with hl | ⟨hd, pow, n⟩
  · rw [kids_leaf hl] at hx; cases hx
  · have h1 := (right_iff t).mp h
    have h2 := n.small h1.2 x hx
    have h3 := n.tm.2
    have h4 := (le_deepest (dep := 0) (ts := kidsF t)).2 x hx
    have h5 := cat_mem_size hx
    have h6 : t.size = hd.size + (cat (kidsF t)).size := by have := congrArg ByteArray.size n.eq; rwa [ByteArray.size_append] at this
    have h7 := n.head.pos
    exact ⟨(right_iff x).mpr h2, by omega, by omega⟩
theorem kids_none {t : ByteArray} (h : rightB t = true) (h0 : kidsF t = []) : Leaf t := by
  rcases right_cases h with hl | ⟨hd, pow, n⟩
  · exact hl
  · rw [h0] at n
    have hh := n.head
    exfalso
    cases hh
    rename_i h4 h5
    simp at h4
theorem kids_pair {t : ByteArray} (h : rightB t = true) (hb : bt t 0 = 112) : ∃ x y, kidsF t = [x, y] ∧ t = (⟨#[112]⟩ : ByteArray) ++ cat [x, y] := by
  rcases right_cases h with hl | ⟨hd, pow, n⟩
  · have := leaf_bytes hl; omega
  · have h3 := bt_head n
    have hq := n.eq
    have hh := n.head
    generalize kidsF t = ts at *
    cases hh with
    | pair x y => exact ⟨x, y, rfl, hq⟩
    | pow h4 h5 => rw [hb] at h3; exact absurd h3 (by show ¬ ((112 : Int) = 101); decide)
    | _ => rw [hb] at h3; exact absurd h3 (by show ¬ ((112 : Int) = _); decide)
theorem kids_sign {t : ByteArray} (h : rightB t = true) (hb : bt t 0 = 120) : ∃ x y, kidsF t = [x, y] ∧ t = (⟨#[120]⟩ : ByteArray) ++ cat [x, y] := by
  rcases right_cases h with hl | ⟨hd, pow, n⟩
  · have := leaf_bytes hl; omega
  · have h3 := bt_head n
    have hq := n.eq
    have hh := n.head
    generalize kidsF t = ts at *
    cases hh with
    | sign x y => exact ⟨x, y, rfl, hq⟩
    | pow h4 h5 => rw [hb] at h3; exact absurd h3 (by show ¬ ((120 : Int) = 101); decide)
    | _ => rw [hb] at h3; exact absurd h3 (by show ¬ ((120 : Int) = _); decide)
theorem kids_seal {t : ByteArray} (h : rightB t = true) (hb : bt t 0 = 115) : ∃ x y z, kidsF t = [x, y, z] ∧ t = (⟨#[115]⟩ : ByteArray) ++ cat [x, y, z] := by
  rcases right_cases h with hl | ⟨hd, pow, n⟩
  · have := leaf_bytes hl; omega
  · have h3 := bt_head n
    have hq := n.eq
    have hh := n.head
    generalize kidsF t = ts at *
    cases hh with
    | sealed x y z => exact ⟨x, y, z, rfl, hq⟩
    | pow h4 h5 => rw [hb] at h3; exact absurd h3 (by show ¬ ((115 : Int) = 101); decide)
    | _ => rw [hb] at h3; exact absurd h3 (by show ¬ ((115 : Int) = _); decide)
end Go.Proofs.Ytpfpmjdifnoeoaa.Pure
