/- The pure side of TermNames: what is said by names, numbers and texts says what it was made of. -/
import Derived.Test.YtpfpmjdifnoeoaaLLaw
import Derived.Test.YtpfpmjdifnoeoaaF15
namespace Go.Proofs.Ytpfpmjdifnoeoaa.Pure
set_option linter.unusedVariables false
set_option linter.unusedSimpArgs false
open Go.RowKit Go.Proofs.Ytpfpmjdifnoeoaa.F Go.Proofs.YtpfpmjdifnoeoaaW.PrintWords Go.Proofs.YtpfpmjdifnoeoaaW.PrintLast Go.Proofs.YtpfpmjdifnoeoaaW.PrintMore

theorem TermNames : ∀ (a0 : Int) (a1 : Int) (a2 : ByteArray) (a3 : ByteArray), ((Lit.int .u64 a0).wf = true) → ((Lit.int .u64 a1).wf = true) → (a2.size ≤ 9223372036854775807) → (a3.size ≤ 9223372036854775807) → ∃ k, gemotlaw1_TermNames.f k a0 a1 a2 a3 = some true := by
  intro a0 a1 a2 a3 h0 h1 _ _
  have r0 := rgu64 h0
  have r1 := rgu64 h1
  refine ⟨2, ?_⟩
  unfold gemotlaw1_TermNames.f gemotlaw1_shown.f
  rw [Option.bind_some, if_pos rfl]
  by_cases c2 : (a2.size : Int) > 100
  · rw [if_pos c2]; rfl
  rw [if_neg c2]
  by_cases c3 : (a3.size : Int) > 100
  · rw [decide_eq_true c3]; rfl
  rw [decide_eq_false c3, gemotlaw1_TermNames.j0, if_neg (by decide)]
  have k2 := text_ok (s := a2) (by omega)
  have k3 := text_ok (s := a3) (by omega)
  have e1 : ((textF a2).1.toList == (textF a3).1.toList) = (a2.toList == a3.toList) := tl_beq ⟨fun h => text_inj (by omega) (by omega) h, fun h => by rw [h]⟩
  have e2 : ((nameF a0).toList == (nameF a1).toList) = (a0 == a1) := tl_beq_int ⟨fun h => cnt_inj r0 r1 h, fun h => by rw [h]⟩
  have e3 : ((numF a0).toList == (numF a1).toList) = (a0 == a1) := tl_beq_int ⟨fun h => cnt_inj r0 r1 h, fun h => by rw [h]⟩
  have e4 : ¬ (nameF a0).toList = (numF a1).toList := ne_bt (by show ¬ ((110 : Int) = 117); decide)
  have b2 := (text_bytes a2 (by omega))
  have e5 : ¬ (textF a2).1.toList = (nameF a0).toList := ne_bt (by rw [k2.1, b2.1]; show ¬ ((116 : Int) = 110); decide)
  have e6 : ¬ (textF a2).1.toList = (⟨#[103]⟩ : ByteArray).toList := ne_bt (by rw [k2.1, b2.1]; show ¬ ((116 : Int) = 103); decide)
  have hz := b2.2.2.2
  have hn := name_size a0
  unfold term_Text.f term_Name.f term_Number.f term_Gen.f term_Right.f term_Depth.f
  rw [Option.bind_some, Option.bind_some, if_pos (by rw [k2.1]), if_pos (by rw [k3.1]), e1, if_pos (by simp), Option.bind_some, Option.bind_some, e2, if_pos (by simp), Option.bind_some, Option.bind_some, e3, if_pos (by simp), Option.bind_some, Option.bind_some, if_neg e4, Option.bind_some, if_neg e5, Option.bind_some, if_neg e6]
  rw [k2.1]
  simp only
  rw [if_pos (by omega), Option.bind_some, if_pos (k2.2.right (by omega)), Option.bind_some, if_pos (by omega), Option.bind_some, if_pos ((name_leaf a0).right (by omega)), if_pos (by omega), Option.bind_some, leaf_dep k2.2 (by omega)]
  rfl
end Go.Proofs.Ytpfpmjdifnoeoaa.Pure
