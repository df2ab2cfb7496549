/- Plain facts about rows of terms: what is put is taken. -/
import Derived.Test.YtpfpmjdifnoeoaaMSealApartB2
import Derived.Test.YtpfpmjdifnoeoaaMSealApartB3
import Derived.Test.YtpfpmjdifnoeoaaMSealApartLList
import Derived.Test.YtpfpmjdifnoeoaaMSealApartF48
namespace Go.Proofs.Ytpfpmjdifnoeoaa.Pure
set_option linter.unusedVariables false
set_option linter.unusedSimpArgs false
open Go.RowKit Go.Proofs.Ytpfpmjdifnoeoaa.F Go.Proofs.YtpfpmjdifnoeoaaW.PrintWords Go.Proofs.YtpfpmjdifnoeoaaW.PrintLast Go.Proofs.YtpfpmjdifnoeoaaW.PrintMore
theorem putF_codes (l : List ByteArray) : (putF l).2 = 0 ∧ (putF l).1 = putOut l ∧ rightB (putOut l) = true ∧ (∀ x ∈ l, rightB x = true) ∧ l.length ≤ 150 ∨ putF l = (⟨#[]⟩, 1) ∨ putF l = (⟨#[]⟩, 3) ∨ putF l = (⟨#[]⟩, 4) := by
  unfold putF
  split
  · exact .inr (.inl rfl)
  · rename_i q
    split
    · exact .inr (.inr (.inl rfl))
    · split
      · rename_i r
        refine .inl ⟨rfl, rfl, r, ?_, by omega⟩
        intro x hx
        by_cases c : rightB x = true
        · exact c
        · exact absurd (.inr (List.any_eq_true.mpr ⟨x, hx, by rw [Bool.eq_false_iff.mpr c]; rfl⟩)) q
      · exact .inr (.inr (.inr rfl))
theorem putOut_cons (x : ByteArray) (l : List ByteArray) : putOut (x :: l) = (⟨#[112]⟩ : ByteArray) ++ cat [x, putOut l] := by
  rw [cat2, ← app_assoc]; rfl
theorem putOut_size (l : List ByteArray) : 9 + l.length ≤ (putOut l).size := by
  induction l with
  | nil => exact Nat.le_refl _
  | cons x l ih =>
    rw [putOut_cons, cat2, ByteArray.size_append, ByteArray.size_append, List.length_cons]
    show _ ≤ 1 + _
    omega
theorem putOut_zero {l : List ByteArray} (h : putOut l = numF 0) : l = [] := by
  have h1 := congrArg ByteArray.size h
  have h2 := putOut_size l
  rw [numF_size] at h1
  exact List.eq_nil_of_length_eq_zero (by omega)
theorem putOut_kids {x : ByteArray} {l : List ByteArray} (h : rightB (putOut (x :: l)) = true) (hl : ∀ y ∈ x :: l, rightB y = true) (ht : Tm (putOut l)) : rightB (putOut l) = true ∧ kindF (putOut (x :: l)) = 112 ∧ kidsF (putOut (x :: l)) = [x, putOut l] := by
  have hb : bt (putOut (x :: l)) 0 = 112 := by
    rw [putOut_cons]
    exact bt_left _ _ 0 (by decide)
  have hk : kindF (putOut (x :: l)) = 112 := by unfold kindF; rw [if_pos h, hb]
  obtain ⟨a, b, h1, h2⟩ := kids_pair h hb
  have h3 := kids_right h
  rw [h1] at h3
  have h4 : cat [a, b] = cat [x, putOut l] := by
    rw [putOut_cons] at h2
    have := congrArg bl h2
    rw [bl_app, bl_app] at this
    exact (bl_inj (List.append_inj this rfl).2).symm
  have h5 := cat_inj (mem2 ((right_iff a).mp (h3 a (by simp)).1).1 ((right_iff b).mp (h3 b (by simp)).1).1) (mem2 ((right_iff x).mp (hl x List.mem_cons_self)).1 ht) h4
  injection h5 with h6 h7
  injection h7 with h7
  subst h6 h7
  exact ⟨(h3 (putOut l) (by simp)).1, hk, h1⟩
theorem putOut_tail : ∀ (l : List ByteArray), (∀ y ∈ l, rightB y = true) → rightB (putOut l) = true → ∀ x r, l = x :: r → Tm (putOut r) := by
  intro l hl h x r e
  subst e
  have hb : bt (putOut (x :: r)) 0 = 112 := by
    rw [putOut_cons]
    exact bt_left _ _ 0 (by decide)
  obtain ⟨a, b, h1, h2⟩ := kids_pair h hb
  have h3 := kids_right h
  rw [h1] at h3
  rw [putOut_cons, cat2, cat2] at h2
  have h4 := congrArg bl h2
  rw [bl_app, bl_app] at h4
  have h5 : x ++ putOut r = a ++ b := bl_inj (List.append_inj h4 rfl).2
  have h6 := tm_app_inj ((right_iff x).mp (hl x List.mem_cons_self)).1 ((right_iff a).mp (h3 a (by simp)).1).1 h5
  rw [h6.2]
  exact ((right_iff b).mp (h3 b (by simp)).1).1
theorem row_back (l : List ByteArray) : ∀ (k : Nat), (∀ y ∈ l, rightB y = true) → rightB (putOut l) = true → l.length ≤ k → rowN k (putOut l) = (l, 0) := by
  induction l with
  | nil =>
    intro k _ _ _
    have h0 : putOut [] = numF 0 := rfl
    cases k with
    | zero => rw [rowN, if_pos h0]
    | succ k => rw [rowN, if_pos h0]
  | cons x l ih =>
    intro k hl h hk
    obtain ⟨k, rfl⟩ : ∃ m, k = m + 1 := ⟨k - 1, by rw [List.length_cons] at hk; omega⟩
    have ht := putOut_tail (x :: l) hl h x l rfl
    obtain ⟨h1, h2, h3⟩ := putOut_kids h hl ht
    have hne : ¬ putOut (x :: l) = numF 0 := fun e => List.cons_ne_nil _ _ (putOut_zero e)
    have ih2 := ih k (fun y hy => hl y (List.mem_cons_of_mem _ hy)) h1 (by rw [List.length_cons] at hk; omega)
    generalize putOut (x :: l) = t at h2 h3 hne ⊢
    have e1 : rdOf ByteArray.empty (kidsF t) 1 = putOut l := by rw [h3]; rfl
    have e0 : rdOf ByteArray.empty (kidsF t) 0 = x := by rw [h3]; rfl
    rw [rowN, if_neg hne, if_pos h2, e1, e0, ih2]
    rfl
end Go.Proofs.Ytpfpmjdifnoeoaa.Pure
