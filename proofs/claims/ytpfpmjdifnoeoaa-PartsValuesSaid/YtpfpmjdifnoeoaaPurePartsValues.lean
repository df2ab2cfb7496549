/- The pure side of PartsValues: a name's and a number's value is what it was made of, a text says what it was made of, and nothing else has either. -/
import Derived.Test.YtpfpmjdifnoeoaaLLaw2
import Derived.Test.YtpfpmjdifnoeoaaLVals
import Derived.Test.YtpfpmjdifnoeoaaF25
namespace Go.Proofs.Ytpfpmjdifnoeoaa.Pure
set_option linter.unusedVariables false
set_option linter.unusedSimpArgs false
open Go.RowKit Go.Proofs.Ytpfpmjdifnoeoaa.F Go.Proofs.YtpfpmjdifnoeoaaW.PrintWords Go.Proofs.YtpfpmjdifnoeoaaW.PrintLast Go.Proofs.YtpfpmjdifnoeoaaW.PrintMore

theorem PartsValues : ∀ (a0 : Int) (a1 : ByteArray) (l2 : List (S171)) (a3 : Int), ((Lit.int .u64 a0).wf = true) → (a1.size ≤ 9223372036854775807) → (l2.length ≤ 9223372036854775807 ∧ ∀ y ∈ l2, (Lit.int .i64 y.f0).wf = true ∧ (Lit.int .i64 y.f1).wf = true ∧ (Lit.int .i64 y.f2).wf = true ∧ (Lit.int .i64 y.f3).wf = true) → ((Lit.int .i64 a3).wf = true) → ∃ k, gemotlaw2_PartsValues.f k a0 a1 l2 a3 = some true := by
  intro a0 a1 l2 a3 h0 _ hl h3
  refine ⟨2, ?_⟩
  have hn := rgu64 h0
  unfold gemotlaw2_PartsValues.f gemotlaw2_shown.f
  simp only [Option.bind_some, if_true]
  by_cases d : (a1.size : Int) > 100
  · rw [decide_eq_true d]
    simp only [gemotlaw2_PartsValues.j0]
    rw [if_pos trivial]
  rw [decide_eq_false d]
  have hs : a1.size ≤ 100 := by omega
  have ht := text_ok hs
  have hz := (text_bytes a1 hs).2.2.2
  have v1 : parts_Value.f (nameF a0) = some (a0, true) := by unfold parts_Value.f; rw [if_pos (by rw [name_size]; omega), val_name hn.1 hn.2]
  have v2 : parts_Value.f (numF a0) = some (a0, true) := by unfold parts_Value.f; rw [if_pos (by rw [numF_size]; omega), val_num hn.1 hn.2]
  have v3 : parts_Said.f (textF a1).1 = some (a1, true) := by unfold parts_Said.f; rw [if_pos (by rw [ht.1]; simp only; omega), said_text hs]
  simp only [gemotlaw2_PartsValues.j0]
  rw [if_neg (by decide)]
  unfold term_Name.f term_Number.f term_Text.f
  simp only [Option.bind_some]
  rw [v1, v2, v3]
  simp only [Option.bind_some, if_true, Bool.not_true, gemotlaw2_PartsValues.j1, Bool.false_eq_true, if_false]
  obtain ⟨out, ho, hm, hlen⟩ := made2 l2 hl.2
  have h20 := hm.two
  have hpos : (0 : Int) < (out.length : Int) := by omega
  have r3 := pickF_range a3 hpos
  have hx := hm.at_ hlen a3
  rw [ho, Option.bind_some, pick2 h3 hpos (by omega), Option.bind_some, if_pos r3.1, if_pos r3.2]
  rw [show rdOf ByteArray.empty out (pickF a3 out.length) = atF out (pickF a3 out.length) from rfl]
  generalize atF out (pickF a3 out.length) = x at hx ⊢
  have sx := hx.2
  have hr := hx.1.right
  have hk : kindF x = bt x 0 := by unfold kindF; rw [if_pos hr]
  have hkid := kids_kind hr
  have hP : kidsP x = kidsF x := by unfold kidsP; rw [if_pos hr]
  have g1 : parts_Value.f x = some (valF x) := by unfold parts_Value.f; exact if_pos (by omega)
  have g2 : parts_Said.f x = some (saidF x) := by unfold parts_Said.f; exact if_pos (by omega)
  have g3 : parts_Kind.f x = some (bt x 0) := by unfold parts_Kind.f; rw [if_pos (by omega), hk]
  have g4 : parts_Of.f x = some (kidsF x) := by unfold parts_Of.f; rw [if_pos (by omega), hP]
  rw [g1, g2, g3, g4]
  simp only [Option.bind_some]
  unfold valF saidF
  rw [hk]
  have e0 : (⟨#[]⟩ : ByteArray).toList = [] := by rw [ByteArray.toList_eq]
  generalize bt x 0 = c at hkid ⊢
  have hlenk : ((kidsF x).length : Int) = 0 ↔ kidsF x = [] := ⟨fun h => List.eq_nil_of_length_eq_zero (by omega), fun h => by rw [h]; rfl⟩
  have hbl : ∀ b : Bool, (b = true ↔ kidsF x = []) → ((((kidsF x).length : Int) == 0) == b) = true := by
    intro b hb
    rw [beq_iff_eq, Bool.eq_iff_iff, beq_iff_eq, hlenk, hb]
  by_cases c1 : c = 110
  · subst c1
    have := hbl true ⟨fun _ => hkid.mpr (.inl rfl), fun _ => rfl⟩
    simp [this, e0]
  · by_cases c2 : c = 117
    · subst c2
      have := hbl true ⟨fun _ => hkid.mpr (.inr (.inl rfl)), fun _ => rfl⟩
      simp [this, e0]
    · have n1 : ¬ (c = 110 ∨ c = 117) := by omega
      rw [if_neg n1, if_neg c1]
      have q1 : (c == 117) = false := beq_eq_false_iff_ne.mpr c2
      by_cases c3 : c = 116
      · subst c3
        have := hbl true ⟨fun _ => hkid.mpr (.inr (.inr (.inl rfl))), fun _ => rfl⟩
        simp [this, e0]
      · have q2 : (c == 116) = false := beq_eq_false_iff_ne.mpr c3
        rw [if_neg c3, q1, q2]
        simp only [beq_self_eq_true, if_true, Bool.false_eq_true, if_false, e0]
        rw [if_neg c2, if_neg c3]
        by_cases c4 : c = 105
        · have := hbl true ⟨fun _ => hkid.mpr (.inr (.inr (.inr (.inl c4)))), fun _ => rfl⟩
          rw [if_pos c4, this]
        · rw [if_neg c4]
          rw [hbl (c == 103) ⟨fun h => hkid.mpr (.inr (.inr (.inr (.inr (beq_iff_eq.mp h))))), fun h => by
            rw [beq_iff_eq]
            have := hkid.mp h
            omega⟩]
end Go.Proofs.Ytpfpmjdifnoeoaa.Pure
