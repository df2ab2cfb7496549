/- The pure side of ListJoins: a row that is put, with one term more ahead, is the pair of that and the row as it was put. -/
import Derived.Test.YtpfpmjdifnoeoaaLLaw4
import Derived.Test.YtpfpmjdifnoeoaaLRows
import Derived.Test.YtpfpmjdifnoeoaaF23
namespace Go.Proofs.Ytpfpmjdifnoeoaa.Pure
set_option linter.unusedVariables false
set_option linter.unusedSimpArgs false
open Go.RowKit Go.Proofs.Ytpfpmjdifnoeoaa.F Go.Proofs.YtpfpmjdifnoeoaaW.PrintWords Go.Proofs.YtpfpmjdifnoeoaaW.PrintLast Go.Proofs.YtpfpmjdifnoeoaaW.PrintMore

theorem ListJoins : ∀ (l0 : List (S170)) (a1 : Int), (l0.length ≤ 9223372036854775807 ∧ ∀ y ∈ l0, (Lit.int .i64 y.f0).wf = true ∧ (Lit.int .i64 y.f1).wf = true ∧ (Lit.int .i64 y.f2).wf = true ∧ (Lit.int .i64 y.f3).wf = true) → ((Lit.int .i64 a1).wf = true) → ∃ k, gemotlaw4_ListJoins.f k l0 a1 = some true := by
  intro l0 a1 hl h1
  refine ⟨1, ?_⟩
  obtain ⟨out, ho, hm, hlen⟩ := made4 l0 hl.2
  unfold gemotlaw4_ListJoins.f gemotlaw4_shown.f
  have h20 := hm.two
  have hpos : (0 : Int) < (out.length : Int) := by omega
  have r1 := pickF_range a1 hpos
  have ha := hm.at_ hlen a1
  rw [Option.bind_some, if_pos rfl, ho, Option.bind_some, pick4 h1 hpos (by omega), Option.bind_some, if_pos r1.1, if_pos r1.2]
  rw [show rdOf ByteArray.empty out (pickF a1 out.length) = atF out (pickF a1 out.length) from rfl]
  generalize atF out (pickF a1 out.length) = a at ha ⊢
  have sa := ha.2
  have hall : ∀ x ∈ out, rightB x = true := fun x hx => (hm.part x hx).right
  have hall2 : ∀ x ∈ a :: out, rightB x = true := fun x hx => by
    rcases List.mem_cons.mp hx with rfl | hx
    · exact ha.1.right
    · exact hall x hx
  have hsm : ∀ x ∈ a :: out, x.size < 9223372036854775808 := fun x hx => by
    have := ((right_iff x).mp (hall2 x hx)).2
    omega
  have f1 : list_Put.f out = some (putF out) := by unfold list_Put.f; exact if_pos (fun x hx => hsm x (List.mem_cons_of_mem _ hx))
  have f2 : list_Put.f ([a] ++ out) = some (putF (a :: out)) := by unfold list_Put.f; exact if_pos hsm
  rw [f1, Option.bind_some, Option.bind_some, if_pos (by simp; omega), f2, Option.bind_some]
  have c1 : ¬ putF out = (⟨#[]⟩, 1) := by
    rw [putF_right hall (by omega)]
    repeat' split
    all_goals (intro h; have h2 := congrArg Prod.snd h; simp at h2)
  have c2 : ¬ putF (a :: out) = (⟨#[]⟩, 1) := by
    rw [putF_right hall2 (by rw [List.length_cons]; omega)]
    repeat' split
    all_goals (intro h; have h2 := congrArg Prod.snd h; simp at h2)
  rcases putF_codes out with ⟨p1, p2, p3, _, _⟩ | p | p | p
  · rw [if_pos p1]
    rcases putF_codes (a :: out) with ⟨q1, q2, q3, _, _⟩ | q | q | q
    · rw [q1, q2, p2]
      simp only [gemotlaw4_ListJoins.j0]
      rw [if_neg (by decide)]
      have hp3 := (right_iff _).mp p3
      have f3 : term_Pair.f a (putOut out) = some (pairF a (putOut out)) := by unfold term_Pair.f; exact if_pos ⟨by omega, by omega⟩
      have f4 : term_Right.f (putOut out) = some true := by unfold term_Right.f; rw [if_pos (by omega), p3]
      have hpair : pairF a (putOut out) = (putOut (a :: out), 0) := by
        unfold pairF
        rw [ofF_ok (mem2 ha.1.right p3), ← putOut_cons]
        exact whole_right q3
      have hne : ¬ (putOut out).toList = (putOut (a :: out)).toList := fun h => by
        have h2 := congrArg ByteArray.size (tl_eq.mp h)
        rw [putOut_cons, cat2, ByteArray.size_append, ByteArray.size_append] at h2
        have : (⟨#[112]⟩ : ByteArray).size = 1 := rfl
        omega
      rw [f3, hpair]
      simp only [Option.bind_some, if_true]
      rw [if_neg hne, f4]
      rfl
    · exact absurd q c2
    · rw [q, p1]
      simp only [gemotlaw4_ListJoins.j0]
      rw [if_pos (by decide), if_neg (by decide), if_pos trivial]
    · rw [q, p1]
      simp only [gemotlaw4_ListJoins.j0]
      rw [if_pos (by decide), if_neg (by decide), if_neg (by decide), if_neg (by decide)]
      rfl
  · exact absurd p c1
  · rw [p, if_neg (by decide)]
    simp only [gemotlaw4_ListJoins.j0]
    rw [if_pos trivial, if_pos trivial]
  · rw [p, if_neg (by decide)]
    simp only [gemotlaw4_ListJoins.j0]
    rw [if_pos trivial, if_neg (by decide)]
    split
    · rfl
    · rw [if_pos trivial]
end Go.Proofs.Ytpfpmjdifnoeoaa.Pure
