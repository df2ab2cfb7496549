/- The pure side of SealOld: a seal is opened in one place alone. -/
import Derived.Test.YtpfpmjdifnoeoaaMSealOldLSeal
import Derived.Test.YtpfpmjdifnoeoaaMSealOldF12
import Derived.Test.YtpfpmjdifnoeoaaMSealOldLSeal2
namespace Go.Proofs.Ytpfpmjdifnoeoaa.Pure
set_option linter.unusedVariables false
set_option linter.unusedSimpArgs false
open Go.RowKit Go.Proofs.Ytpfpmjdifnoeoaa.F Go.Proofs.YtpfpmjdifnoeoaaW.PrintWords Go.Proofs.YtpfpmjdifnoeoaaW.PrintLast Go.Proofs.YtpfpmjdifnoeoaaW.PrintMore
theorem old_l1 {k p i : Int} {t : ByteArray} {E P I : Int} (hpk : gemotlaw17_pick.f p 8 = some P) (hik : gemotlaw17_pick.f i 32 = some I) (hE : 0 ≤ E ∧ E ≤ 999) (hP : 0 ≤ P ∧ P ≤ 7) (hI : 0 ≤ I ∧ I ≤ 31) (hz : t.size ≤ 100) {q : Int} (hq : 1 ≤ q ∧ q ≤ 8) {R : Int → Option Bool} {K : Nat} {M : Int} (hM : M ≤ 100000)
    (hR : ∀ k2 (m : Int), K ≤ k2 → 0 ≤ m → m ≤ M → gemotlaw17_SealOld.l0 k2 k p i t (sealT (nameF k) E (P + 1) (I + 1) t) m (q + 1) E 1 procs8 = R m) : ∀ (d k2 : Nat) (m j : Int), 1 ≤ j → j + d = 33 → K + d + 1 ≤ k2 → 0 ≤ m → m + d ≤ M →
    gemotlaw17_SealOld.l1 k2 k p i t (sealT (nameF k) E (P + 1) (I + 1) t) m q j E 1 procs8 = R (if q = P + 1 ∧ j ≤ I + 1 then m + 1 else m)
  | 0, k2, m, j, h0, h1, hk, hm, hm2 => by
    obtain ⟨k2, rfl⟩ : ∃ x, k2 = x + 1 := ⟨k2 - 1, by omega⟩
    simp only [gemotlaw17_SealOld.l1]
    rw [if_neg (by omega), show wrap64 (q + 1) = q + 1 by unfold wrap64; omega, hR k2 m (by omega) hm (by omega), if_neg (by omega)]
  | d + 1, k2, m, j, h0, h1, hk, hm, hm2 => by
    obtain ⟨k2, rfl⟩ : ∃ x, k2 = x + 1 := ⟨k2 - 1, by omega⟩
    have hN := name_part k
    have n1 : term_Name.f k = some (nameF k) := rfl
    have hne : (⟨#[]⟩ : ByteArray).toList = [] := by rw [ByteArray.toList_eq]
    simp only [gemotlaw17_SealOld.l1]
    rw [if_pos (by omega), n1]
    simp only [Option.bind_some]
    rw [open17 hN.1 hN.2 hz (by omega) (by omega) (by omega) (by omega) (by omega) (by omega), if_pos rfl]
    simp only [Option.bind_some]
    rw [show wrap64 (j + 1) = j + 1 by unfold wrap64; omega]
    by_cases c : True ∧ P + 1 = q ∧ I + 1 = j
    · rw [if_pos c]
      simp only [if_true]
      rw [hpk, hik]
      simp only [Option.bind_some]
      rw [wrap1 (by omega), wrap1 (by omega), if_pos (by omega), if_pos (by omega), show wrap64 (m + 1) = m + 1 by unfold wrap64; omega]
      rw [old_l1 hpk hik hE hP hI hz hq hM hR d k2 (m + 1) (j + 1) (by omega) (by omega) (by omega) (by omega) (by omega), if_neg (by omega), if_pos (by omega)]
    · rw [if_neg c]
      have c2 : ¬ (P + 1 = q ∧ I + 1 = j) := fun h => c ⟨trivial, h⟩
      clear c
      simp only
      rw [if_neg (by decide), if_pos trivial, if_pos hne]
      rw [old_l1 hpk hik hE hP hI hz hq hM hR d k2 m (j + 1) (by omega) (by omega) (by omega) (by omega) (by omega)]
      by_cases e : q = P + 1 ∧ j ≤ I + 1
      · rw [if_pos e, if_pos (by omega)]
      · rw [if_neg e, if_neg (by omega)]
theorem old_l0 {k p i : Int} {t : ByteArray} {E P I : Int} (hpk : gemotlaw17_pick.f p 8 = some P) (hik : gemotlaw17_pick.f i 32 = some I) (hE : 0 ≤ E ∧ E ≤ 999) (hP : 0 ≤ P ∧ P ≤ 7) (hI : 0 ≤ I ∧ I ≤ 31) (hz : t.size ≤ 100) : ∀ (d k2 : Nat) (m q : Int), 1 ≤ q → q + d = 9 → d * 40 + 1 ≤ k2 → 0 ≤ m → m + 33 * d ≤ 400 →
    gemotlaw17_SealOld.l0 k2 k p i t (sealT (nameF k) E (P + 1) (I + 1) t) m q E 1 procs8 = some ((if q ≤ P + 1 then m + 1 else m) == 1)
  | 0, k2, m, q, h0, h1, hk, hm, hm2 => by
    obtain ⟨k2, rfl⟩ : ∃ x, k2 = x + 1 := ⟨k2 - 1, by omega⟩
    simp only [gemotlaw17_SealOld.l0]
    rw [if_neg (by omega), if_neg (by omega)]
  | d + 1, k2, m, q, h0, h1, hk, hm, hm2 => by
    obtain ⟨k2, rfl⟩ : ∃ x, k2 = x + 1 := ⟨k2 - 1, by omega⟩
    simp only [gemotlaw17_SealOld.l0]
    rw [if_pos (by omega)]
    rw [old_l1 (R := fun m => some ((if q + 1 ≤ P + 1 then m + 1 else m) == 1)) (K := d * 40 + 1) (M := 400 - 33 * d) hpk hik hE hP hI hz (by omega) (by omega) (fun k3 m3 h3 h4 h5 => old_l0 hpk hik hE hP hI hz d k3 m3 (q + 1) (by omega) (by omega) h3 h4 (by omega)) 32 k2 m 1 (by omega) (by omega) (by omega) hm (by omega)]
    by_cases c : q = P + 1
    · rw [if_pos (c := q = P + 1 ∧ 1 ≤ I + 1) ⟨c, by omega⟩, if_neg (by omega), if_pos (by omega)]
    · rw [if_neg (c := q = P + 1 ∧ 1 ≤ I + 1) (by omega)]
      by_cases e : q + 1 ≤ P + 1
      · rw [if_pos e, if_pos (by omega)]
      · rw [if_neg e, if_neg (by omega)]
theorem SealOld : ∀ (a0 : Int) (a1 : Int) (a2 : Int) (a3 : Int) (a4 : ByteArray), ((Lit.int .u64 a0).wf = true) → ((Lit.int .i64 a1).wf = true) → ((Lit.int .i64 a2).wf = true) → ((Lit.int .i64 a3).wf = true) → (a4.size ≤ 9223372036854775807) → ∃ k, gemotlaw17_SealOld.f k a0 a1 a2 a3 a4 = some true := by
  intro k e p i t hk he hp hi _
  obtain ⟨K, hK⟩ : ∃ K : Nat, K = 1000 := ⟨_, rfl⟩
  refine ⟨K + 1, ?_⟩
  unfold gemotlaw17_SealOld.f gemotlaw17_shown.f
  rw [Option.bind_some, if_pos rfl]
  by_cases c1 : (t.size : Int) > 100
  · rw [decide_eq_true c1]
    simp only [gemotlaw17_SealOld.j0]
    rw [if_pos trivial]
  rw [decide_eq_false c1]
  have hz : t.size ≤ 100 := by omega
  have rE := pick17_range e (n := 1000) (by decide)
  have rp := pick17_range p (n := 8) (by decide)
  have ri := pick17_range i (n := 32) (by decide)
  have hpk := pick17 hp (n := 8) (by decide) (by decide)
  have hik := pick17 hi (n := 32) (by decide) (by decide)
  have hN := name_part k
  have n1 : term_Name.f k = some (nameF k) := rfl
  simp only [gemotlaw17_SealOld.j0]
  rw [if_neg (by decide), of17 he, n1, hpk, hik]
  simp only [Option.bind_some]
  generalize pickF e 1000 = E at rE ⊢
  generalize pickF p 8 = P at rp hpk ⊢
  generalize pickF i 32 = I at ri hik ⊢
  rw [wrap1 (by omega), wrap1 (by omega), close17 hN.1 hN.2 hz (by omega) (by omega) (by omega)]
  simp only [Option.bind_some, if_true]
  rw [old_l0 hpk hik (by omega) (by omega) (by omega) hz 8 K 0 1 (by omega) (by omega) (by omega) (by omega) (by omega), if_pos (by omega)]
  rfl
end Go.Proofs.Ytpfpmjdifnoeoaa.Pure
