/- The pure side of TermBack: each term that is made is read as it is; none is the beginning of another one; what is read is right. -/
import Derived.Test.YtpfpmjdifnoeoaaB2
import Derived.Test.YtpfpmjdifnoeoaaF20
namespace Go.Proofs.Ytpfpmjdifnoeoaa.Pure
set_option linter.unusedVariables false
set_option linter.unusedSimpArgs false
open Go.RowKit Go.Proofs.Ytpfpmjdifnoeoaa.F Go.Proofs.YtpfpmjdifnoeoaaW.PrintWords Go.Proofs.YtpfpmjdifnoeoaaW.PrintLast Go.Proofs.YtpfpmjdifnoeoaaW.PrintMore

theorem made1 (l : List S169) (h : ∀ y ∈ l, (Lit.int .i64 y.f0).wf = true ∧ (Lit.int .i64 y.f1).wf = true ∧ (Lit.int .i64 y.f2).wf = true ∧ (Lit.int .i64 y.f3).wf = true) : ∃ out, gemotlaw1_made.f l = some out ∧ MadeOk out ∧ out.length ≤ 42 := by
  refine ⟨gemotlaw1_made.tmade l, ?_, madeT_ok _⟩
  unfold gemotlaw1_made.f
  exact if_pos fun x hx => ⟨rg64 (h x hx).1, rg64 (h x hx).2.1, rg64 (h x hx).2.2.1, rg64 (h x hx).2.2.2⟩
theorem pick1 {c n : Int} (h : (Lit.int .i64 c).wf = true) (h0 : 0 < n) (h1 : n ≤ 100000) : gemotlaw1_pick.f c n = some (pickF c n) := by
  have := rg64 h
  unfold gemotlaw1_pick.f
  rw [if_pos ⟨this.1, this.2, h0, by omega⟩]
  rfl
theorem rd_mem {l : List ByteArray} {i : Nat} (h : i < l.length) : rdOf ByteArray.empty l (i : Int) = l[i] := by simp [rdOf, List.getD_eq_getElem?_getD, h]
theorem not_ahead {s t : ByteArray} (hs : Tm s) (ht : Tm t) (hne : ¬ s.toList = t.toList) (h : s.size ≤ t.size) : ¬ (t.extract 0 ((s.size : Int)).toNat).toList = s.toList := by
  intro q
  rw [Int.toNat_natCast] at q
  have q := tl_eq.mp q
  have h1 := cat_ext t (i := 0) (j := s.size) (k := t.size) (by omega) h (Nat.le_refl _)
  rw [q, extract_all] at h1
  rw [← h1] at ht
  have h2 := tm_prefix hs ht
  rw [h2, app_nil] at h1
  exact hne (by rw [h1])
theorem back_in (l : List ByteArray) (hl : l.length ≤ 100) (ht : ∀ t ∈ l, Tm t) (s : ByteArray) (i : Nat) (hi : i < l.length) (R : Option Bool) (K : Nat) (hR : ∀ k, K ≤ k → gemotlaw1_TermBack.l0 k s l ((i + 1 : Nat) : Int) = R) :
    ∀ (d j : Nat), j + d = i → ∀ k, K + d + 1 ≤ k → gemotlaw1_TermBack.l1 k s l i j = R
  | 0, j, hj, k, hk => by
    obtain ⟨k, rfl⟩ : ∃ m, k = m + 1 := ⟨k - 1, by omega⟩
    rw [gemotlaw1_TermBack.l1, if_neg (by omega), show wrap64 ((i : Int) + 1) = ((i + 1 : Nat) : Int) by unfold wrap64; omega]
    exact hR k (by omega)
  | d + 1, j, hj, k, hk => by
    obtain ⟨k, rfl⟩ : ∃ m, k = m + 1 := ⟨k - 1, by omega⟩
    have hjl : j < l.length := by omega
    have ih := back_in l hl ht s i hi R K hR d (j + 1) (by omega) k (by omega)
    have t1 := ht _ (List.getElem_mem hjl)
    have t2 := ht _ (List.getElem_mem hi)
    rw [gemotlaw1_TermBack.l1, if_pos (by omega), if_pos (by omega), if_pos (by omega), if_pos (by omega), if_pos (by omega), rd_mem hjl, rd_mem hi, show wrap64 ((j : Int) + 1) = ((j + 1 : Nat) : Int) by unfold wrap64; omega]
    by_cases c : l[j].toList = l[i].toList
    · rw [if_pos c]; exact ih
    · rw [if_neg c]
      by_cases c2 : ((l[j].size : Int)) ≤ (l[i].size : Int)
      · rw [if_pos c2, if_pos (by omega), if_neg (not_ahead t1 t2 c (by omega))]
        by_cases c3 : ((l[i].size : Int)) ≤ (l[j].size : Int)
        · rw [if_pos c3, if_pos (by omega), if_neg (not_ahead t2 t1 (fun q => c q.symm) (by omega))]; exact ih
        · rw [if_neg c3]; exact ih
      · rw [if_neg c2, if_pos (show ((l[i].size : Int)) ≤ (l[j].size : Int) by omega), if_pos (by omega), if_neg (not_ahead t2 t1 (fun q => c q.symm) (by omega))]; exact ih
theorem back_all (l : List ByteArray) (hl : l.length ≤ 100) (hp : ∀ t ∈ l, Part 42 t) (hz : ∀ t ∈ l, t.size ≤ 600) (s : ByteArray) (hs : s.size ≤ 300) : ∀ (d i : Nat), i + d = l.length → ∃ K, ∀ k, K ≤ k → gemotlaw1_TermBack.l0 k s l i = some true
  | 0, i, hi => by
    refine ⟨1, fun k hk => ?_⟩
    obtain ⟨k, rfl⟩ : ∃ m, k = m + 1 := ⟨k - 1, by omega⟩
    have f1 : term_Take.f s = some (takeF s) := by unfold term_Take.f; rw [if_pos (by omega)]
    rw [gemotlaw1_TermBack.l0, if_neg (by omega), f1, Option.bind_some]
    by_cases c : (takeF s).2.2 = 0
    · have h1 := take_sound c
      have h2 : (takeF s).1.size + (takeF s).2.1.size = s.size := by have := congrArg ByteArray.size h1.2.1; rwa [ByteArray.size_append] at this
      have f2 : term_Right.f (takeF s).1 = some true := by unfold term_Right.f; rw [if_pos (by omega), h1.1]
      rw [if_pos c, f2, Option.bind_some, if_pos rfl, if_pos (by omega), h1.2.1, beq_self_eq_true]
    · have h1 := take_err c
      rw [if_neg c, h1.1, h1.2, if_pos (tl_nil.mpr rfl), if_pos (tl_nil.mpr rfl)]
  | d + 1, i, hi => by
    obtain ⟨K, hK⟩ := back_all l hl hp hz s hs d (i + 1) (by omega)
    have hil : i < l.length := by omega
    have h1 := hp _ (List.getElem_mem hil)
    have h2 := hz _ (List.getElem_mem hil)
    have hin := back_in l hl (fun t h => (hp t h).tm) s i hil (some true) K hK i 0 (by omega)
    refine ⟨K + i + 4, fun k hk => ?_⟩
    obtain ⟨k, rfl⟩ : ∃ m, k = m + 2 := ⟨k - 2, by omega⟩
    have f1 : term_Take.f (l[i] ++ s) = some (l[i], s, 0) := by unfold term_Take.f; rw [if_pos (by rw [ByteArray.size_append]; omega), take_app h1.tm h1.size]
    have f2 : term_Right.f l[i] = some true := by unfold term_Right.f; rw [if_pos (by omega), h1.right]
    have f3 : term_Depth.f l[i] = some (depF l[i]) := by unfold term_Depth.f; rw [if_pos (by omega), depth_right h1.right]
    have hd := h1.dep1
    rw [gemotlaw1_TermBack.l0, if_pos (by omega), if_pos (by omega), rd_mem hil, if_pos (by omega), f1, Option.bind_some, if_pos rfl, if_pos rfl, if_pos rfl, f2, Option.bind_some, if_pos rfl, f3, Option.bind_some, decide_eq_false (by omega), gemotlaw1_TermBack.j2, if_neg (by decide)]
    exact hin k (by omega)
theorem TermBack : ∀ (l0 : List (S169)) (a1 : ByteArray), (l0.length ≤ 9223372036854775807 ∧ ∀ y ∈ l0, (Lit.int .i64 y.f0).wf = true ∧ (Lit.int .i64 y.f1).wf = true ∧ (Lit.int .i64 y.f2).wf = true ∧ (Lit.int .i64 y.f3).wf = true) → (a1.size ≤ 9223372036854775807) → ∃ k, gemotlaw1_TermBack.f k l0 a1 = some true := by
  intro l0 a1 hl _
  obtain ⟨out, ho, hm, hlen⟩ := made1 l0 hl.2
  by_cases c3 : (a1.size : Int) > 300
  · refine ⟨1, ?_⟩
    unfold gemotlaw1_TermBack.f gemotlaw1_shown.f
    rw [Option.bind_some, if_pos rfl, decide_eq_true c3]; rfl
  obtain ⟨K, hK⟩ := back_all out (by omega) (fun t h => (hm.part t h).mono (by omega)) hm.small a1 (by omega) out.length 0 (by omega)
  refine ⟨K + 1, ?_⟩
  unfold gemotlaw1_TermBack.f gemotlaw1_shown.f
  rw [Option.bind_some, if_pos rfl, decide_eq_false c3, gemotlaw1_TermBack.j0, if_neg (by decide), ho, Option.bind_some]
  exact hK K (Nat.le_refl _)
end Go.Proofs.Ytpfpmjdifnoeoaa.Pure
