/- The pure side of SealApart: two seals of one key are one term just if their places and their texts are the same. -/
import Derived.Test.YtpfpmjdifnoeoaaMSealApartLSeal2
import Derived.Test.YtpfpmjdifnoeoaaMSealApartF10
namespace Go.Proofs.Ytpfpmjdifnoeoaa.Pure
set_option linter.unusedVariables false
set_option linter.unusedSimpArgs false
open Go.RowKit Go.Proofs.Ytpfpmjdifnoeoaa.F Go.Proofs.YtpfpmjdifnoeoaaW.PrintWords Go.Proofs.YtpfpmjdifnoeoaaW.PrintLast Go.Proofs.YtpfpmjdifnoeoaaW.PrintMore
theorem rd_wf {l : List Int} (h : ∀ y ∈ l, (Lit.int .i64 y).wf = true) {i : Int} (h0 : 0 ≤ i) (h1 : i < l.length) : (Lit.int .i64 (rd l i)).wf = true := by
  refine h _ ?_
  unfold rd
  rw [List.getD_eq_getElem?_getD, List.getElem?_eq_getElem (by omega)]
  exact List.getElem_mem _
theorem SealApart : ∀ (a0 : Int) (l1 : List Int) (a2 : ByteArray) (a3 : ByteArray), ((Lit.int .u64 a0).wf = true) → (l1.length ≤ 9223372036854775807 ∧ ∀ y ∈ l1, (Lit.int .i64 y).wf = true) → (a2.size ≤ 9223372036854775807) → (a3.size ≤ 9223372036854775807) → ∃ k, gemotlaw17_SealApart.f k a0 l1 a2 a3 = some true := by
  intro k l s t hk hl _ _
  refine ⟨1, ?_⟩
  have hj : gemotlaw17_SealApart.j0 1 k l s t true true = some true := by
    simp only [gemotlaw17_SealApart.j0]
    rw [if_pos trivial]
  unfold gemotlaw17_SealApart.f gemotlaw17_shown.f
  rw [Option.bind_some, if_pos rfl]
  by_cases c1 : (s.size : Int) > 90
  · rw [if_pos c1]; exact hj
  rw [if_neg c1]
  by_cases c2 : (t.size : Int) > 90
  · rw [if_pos c2]; exact hj
  rw [if_neg c2]
  by_cases c3 : (l.length : Int) < 6
  · rw [decide_eq_true c3]; exact hj
  rw [decide_eq_false c3]
  clear hj
  have hs : s.size ≤ 100 := by omega
  have ht : t.size ≤ 100 := by omega
  have w0 := rd_wf hl.2 (i := 0) (by decide) (by omega)
  have w1 := rd_wf hl.2 (i := 1) (by decide) (by omega)
  have w2 := rd_wf hl.2 (i := 2) (by decide) (by omega)
  have w3 := rd_wf hl.2 (i := 3) (by decide) (by omega)
  have w4 := rd_wf hl.2 (i := 4) (by decide) (by omega)
  have w5 := rd_wf hl.2 (i := 5) (by decide) (by omega)
  have n1 : term_Name.f k = some (nameF k) := rfl
  have o0 := of17 w0
  have o3 := of17 w3
  have p1 := pick17 w1 (n := 8) (by decide) (by decide)
  have p2 := pick17 w2 (n := 32) (by decide) (by decide)
  have p4 := pick17 w4 (n := 8) (by decide) (by decide)
  have p5 := pick17 w5 (n := 32) (by decide) (by decide)
  have p0 := pick17 w0 (n := 1000) (by decide) (by decide)
  have p3 := pick17 w3 (n := 1000) (by decide) (by decide)
  have r0 := pick17_range (rd l 0) (n := 1000) (by decide)
  have r3 := pick17_range (rd l 3) (n := 1000) (by decide)
  have r1 := pick17_range (rd l 1) (n := 8) (by decide)
  have r4 := pick17_range (rd l 4) (n := 8) (by decide)
  have r2 := pick17_range (rd l 2) (n := 32) (by decide)
  have r5 := pick17_range (rd l 5) (n := 32) (by decide)
  simp only [gemotlaw17_SealApart.j0]
  generalize rd l 0 = x0 at o0 p0 r0 ⊢
  generalize rd l 1 = x1 at p1 r1 ⊢
  generalize rd l 2 = x2 at p2 r2 ⊢
  generalize rd l 3 = x3 at o3 p3 r3 ⊢
  generalize rd l 4 = x4 at p4 r4 ⊢
  generalize rd l 5 = x5 at p5 r5 ⊢
  generalize pickF x0 1000 = E at o0 p0 r0
  generalize pickF x3 1000 = F at o3 p3 r3
  generalize pickF x1 8 = P at p1 r1
  generalize pickF x4 8 = Q at p4 r4
  generalize pickF x2 32 = I at p2 r2
  generalize pickF x5 32 = J at p5 r5
  have hN := name_part k
  have e1 := close17 hN.1 hN.2 hs (E := E) (s := P + 1) (n := I + 1) (by omega) (by omega) (by omega)
  have e2 := close17 hN.1 hN.2 ht (E := F) (s := Q + 1) (n := J + 1) (by omega) (by omega) (by omega)
  have hq : ((sealT (nameF k) E (P + 1) (I + 1) s).toList == (sealT (nameF k) F (Q + 1) (J + 1) t).toList) = decide (E = F ∧ P + 1 = Q + 1 ∧ I + 1 = J + 1 ∧ s = t) := by
    rw [Bool.eq_iff_iff, beq_iff_eq, tl_eq, decide_eq_true_eq]
    exact sealT_inj hN.1 hs ht (by omega) (by omega) (by omega) (by omega) (by omega) (by omega)
  generalize sealT (nameF k) E (P + 1) (I + 1) s = U at e1 hq
  generalize sealT (nameF k) F (Q + 1) (J + 1) t = V at e2 hq
  rw [if_neg (by decide), n1]
  generalize nameF k = N at e1 e2
  rw [Option.bind_some, if_pos (by omega), o0, Option.bind_some, if_pos (by omega), p1, Option.bind_some, if_pos (by omega), p2, Option.bind_some, wrap1 (by omega), wrap1 (by omega), e1, Option.bind_some, Option.bind_some, if_pos (by omega), o3, Option.bind_some, if_pos (by omega), p4, Option.bind_some, if_pos (by omega), p5, Option.bind_some, wrap1 (by omega), wrap1 (by omega), e2, Option.bind_some, p0, Option.bind_some, p3, Option.bind_some]
  simp only [Option.bind_some, if_true]
  rw [hq]
  by_cases d0 : E = F
  · rw [if_pos d0]
    by_cases d1 : P = Q
    · rw [if_pos d1]
      by_cases d2 : I = J
      · rw [if_pos d2]
        have : (s.toList == t.toList) = decide (s = t) := by
          rw [Bool.eq_iff_iff, beq_iff_eq, tl_eq, decide_eq_true_eq]
        rw [this]
        simp [d0, d1, d2]
      · rw [if_neg d2]
        have : ¬ (E = F ∧ P + 1 = Q + 1 ∧ I + 1 = J + 1 ∧ s = t) := fun h => d2 (by have := h.2.2.1; omega)
        rw [decide_eq_false this]
        rfl
    · rw [if_neg d1]
      have : ¬ (E = F ∧ P + 1 = Q + 1 ∧ I + 1 = J + 1 ∧ s = t) := fun h => d1 (by have := h.2.1; omega)
      rw [decide_eq_false this]
      rfl
  · rw [if_neg d0]
    have : ¬ (E = F ∧ P + 1 = Q + 1 ∧ I + 1 = J + 1 ∧ s = t) := fun h => d0 h.1
    rw [decide_eq_false this]
    rfl
end Go.Proofs.Ytpfpmjdifnoeoaa.Pure
