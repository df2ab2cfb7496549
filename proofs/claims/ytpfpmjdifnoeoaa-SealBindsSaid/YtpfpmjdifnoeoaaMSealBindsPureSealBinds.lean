/- The pure side of SealBinds: what was closed is opened in its own place, by its own key, alone. -/
import Derived.Test.YtpfpmjdifnoeoaaMSealBindsLSeal
import Derived.Test.YtpfpmjdifnoeoaaMSealBindsF9
import Derived.Test.YtpfpmjdifnoeoaaMSealBindsLSeal2
namespace Go.Proofs.Ytpfpmjdifnoeoaa.Pure
set_option linter.unusedVariables false
set_option linter.unusedSimpArgs false
open Go.RowKit Go.Proofs.Ytpfpmjdifnoeoaa.F Go.Proofs.YtpfpmjdifnoeoaaW.PrintWords Go.Proofs.YtpfpmjdifnoeoaaW.PrintLast Go.Proofs.YtpfpmjdifnoeoaaW.PrintMore
theorem SealBinds : ∀ (a0 : Int) (a1 : Int) (a2 : Int) (a3 : Int) (a4 : Int) (a5 : Int) (a6 : Int) (a7 : Int) (a8 : ByteArray), ((Lit.int .u64 a0).wf = true) → ((Lit.int .u64 a1).wf = true) → ((Lit.int .i64 a2).wf = true) → ((Lit.int .i64 a3).wf = true) → ((Lit.int .i64 a4).wf = true) → ((Lit.int .i64 a5).wf = true) → ((Lit.int .i64 a6).wf = true) → ((Lit.int .i64 a7).wf = true) → (a8.size ≤ 9223372036854775807) → ∃ k, gemotlaw17_SealBinds.f k a0 a1 a2 a3 a4 a5 a6 a7 a8 = some true := by
  intro k l e f p q i j t hk hl he hf hp hq hi hj _
  refine ⟨2, ?_⟩
  unfold gemotlaw17_SealBinds.f gemotlaw17_shown.f
  rw [Option.bind_some, if_pos rfl]
  by_cases c1 : (t.size : Int) > 100
  · rw [decide_eq_true c1]
    simp only [gemotlaw17_SealBinds.j0]
    rw [if_pos trivial]
  rw [decide_eq_false c1]
  have hz : t.size ≤ 100 := by omega
  have rE := pick17_range e (n := 1000) (by decide)
  have rF := pick17_range f (n := 1000) (by decide)
  have rp := pick17_range p (n := 8) (by decide)
  have rq := pick17_range q (n := 8) (by decide)
  have ri := pick17_range i (n := 32) (by decide)
  have rj := pick17_range j (n := 32) (by decide)
  have g2 : (2 : Nat) = 1 + 1 := rfl
  rw [g2]
  simp only [gemotlaw17_SealBinds.j0]
  rw [if_neg (by decide), of17 he, of17 hf, pick17 hp (by decide) (by decide), pick17 hq (by decide) (by decide), pick17 hi (by decide) (by decide), pick17 hj (by decide) (by decide)]
  simp only [Option.bind_some]
  generalize pickF e 1000 = E at rE ⊢
  generalize pickF f 1000 = F at rF ⊢
  generalize pickF p 8 = P at rp ⊢
  generalize pickF q 8 = Q at rq ⊢
  generalize pickF i 32 = I at ri ⊢
  generalize pickF j 32 = J at rj ⊢
  rw [wrap1 (by omega), wrap1 (by omega), wrap1 (by omega), wrap1 (by omega)]
  have hN := name_part k
  have n1 : ∀ n : Int, term_Name.f n = some (nameF n) := fun n => rfl
  obtain ⟨_, s2, _, _, s5⟩ := seal_parts (E := E) (s := P + 1) (n := I + 1) hN.1 hN.2 hz
  rw [n1, n1]
  simp only [Option.bind_some]
  rw [close17 hN.1 hN.2 hz (by omega) (by omega) (by omega)]
  simp only [Option.bind_some]
  have hO := open17 (key := nameF k) (k2 := nameF l) (E := E) (s := P + 1) (n := I + 1) (F := F) (p := Q + 1) (m := J + 1) hN.1 hN.2 hz (by omega) (by omega) (by omega) (by omega) (by omega) (by omega)
  have hr : term_Right.f (sealT (nameF k) E (P + 1) (I + 1) t) = some true := by
    unfold term_Right.f
    rw [if_pos (by omega), s2.right]
  have hne : (⟨#[]⟩ : ByteArray).toList = [] := by rw [ByteArray.toList_eq]
  by_cases d : k = l
  · rw [if_pos (show nameF k = nameF l by rw [d])] at hO
    by_cases d1 : E = F ∧ P + 1 = Q + 1 ∧ I + 1 = J + 1
    · rw [if_pos d1] at hO
      rw [hO]
      simp only [Option.bind_some, if_true]
      rw [hr]
      obtain ⟨e1, e2, e3⟩ := d1
      simp only [Option.bind_some, gemotlaw17_SealBinds.j1, Bool.not_true]
      simp [d, e1, e2, e3]
    · rw [if_neg d1] at hO
      rw [hO]
      simp only [Option.bind_some, if_true]
      rw [hr]
      simp only [Option.bind_some, gemotlaw17_SealBinds.j1, Bool.not_true]
      by_cases e1 : E = F
      · by_cases e2 : P + 1 = Q + 1
        · have e3 : ¬ I + 1 = J + 1 := fun h => d1 ⟨e1, e2, h⟩
          rw [if_neg (by decide), if_pos d, if_neg (by simp [e1]), if_pos e2, if_neg e3]
          simp [hne]
        · rw [if_neg (by decide), if_pos d, if_neg (by simp [e1]), if_neg e2]
          simp [hne]
      · rw [if_neg (by decide), if_pos d, if_pos (by simp [e1])]
        simp [hne]
  · rw [if_neg (fun h => d (nameF_inj (rgu64 hk) (rgu64 hl) h))] at hO
    rw [hO]
    simp only [Option.bind_some, if_true]
    rw [hr]
    simp only [Option.bind_some, gemotlaw17_SealBinds.j1, Bool.not_true]
    rw [if_neg (by decide), if_neg d]
    simp [hne]
end Go.Proofs.Ytpfpmjdifnoeoaa.Pure
