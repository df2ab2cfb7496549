/- The pure side of ListCuts: the row that is put of a beginning is shorter than that of all. -/
import Derived.Test.YtpfpmjdifnoeoaaLLaw4
import Derived.Test.YtpfpmjdifnoeoaaLRows
import Derived.Test.YtpfpmjdifnoeoaaF29
namespace Go.Proofs.Ytpfpmjdifnoeoaa.Pure
set_option linter.unusedVariables false
set_option linter.unusedSimpArgs false
open Go.RowKit Go.Proofs.Ytpfpmjdifnoeoaa.F Go.Proofs.YtpfpmjdifnoeoaaW.PrintWords Go.Proofs.YtpfpmjdifnoeoaaW.PrintLast Go.Proofs.YtpfpmjdifnoeoaaW.PrintMore

theorem putOut_more (l : List ByteArray) (x : ByteArray) : (putOut l).size < (putOut (l ++ [x])).size := by
  induction l with
  | nil =>
    show _ < (putOut [x]).size
    rw [putOut_cons, cat2, ByteArray.size_append, ByteArray.size_append]
    show _ < 1 + (x.size + (putOut []).size)
    omega
  | cons y l ih =>
    rw [List.cons_append, putOut_cons, putOut_cons, cat2, cat2, ByteArray.size_append, ByteArray.size_append, ByteArray.size_append, ByteArray.size_append]
    omega
theorem cutsL {out : List ByteArray} (hall : ∀ x ∈ out, rightB x = true) (hlen : out.length ≤ 42) : ∀ (d k n : Nat) (last : ByteArray), n + d = out.length + 1 → d < k → (0 < n → last = putOut (out.take (n - 1))) → gemotlaw4_ListCuts.l0 k out last n = some true
  | 0, k, n, last, hn, hk, _ => by
    obtain ⟨k, rfl⟩ : ∃ m, k = m + 1 := ⟨k - 1, by omega⟩
    simp only [gemotlaw4_ListCuts.l0]
    rw [if_neg (by omega)]
  | d + 1, k, n, last, hn, hk, hla => by
    obtain ⟨k, rfl⟩ : ∃ m, k = m + 1 := ⟨k - 1, by omega⟩
    have hw : wrap64 ((n : Int) + 1) = ((n + 1 : Nat) : Int) := by unfold wrap64; omega
    have hr : ∀ x ∈ out.take n, rightB x = true := fun x hx => hall x (List.mem_of_mem_take hx)
    have hlt : (out.take n).length = n := by rw [List.length_take]; omega
    have f1 : list_Put.f (out.take n) = some (putF (out.take n)) := by
      unfold list_Put.f
      exact if_pos (fun x hx => by have := ((right_iff x).mp (hr x hx)).2; omega)
    simp only [gemotlaw4_ListCuts.l0]
    rw [if_pos (by omega), if_pos (by omega), Int.toNat_natCast, f1]
    simp only [Option.bind_some]
    rcases putF_codes (out.take n) with ⟨p1, p2, p3, _, _⟩ | p | p | p
    · have hs := ((right_iff _).mp p3).2
      have f2 : list_Take.f (putOut (out.take n)) = some (out.take n, 0) := by
        unfold list_Take.f
        rw [if_pos (by omega), row_back (out.take n) 150 hr p3 (by omega)]
      rw [if_pos p1, p2, f2]
      simp only [Option.bind_some, if_true]
      rw [if_pos (by omega), hw]
      have ih := cutsL hall hlen d k (n + 1) (putOut (out.take n)) (by omega) (by omega) (fun _ => by rw [Nat.add_sub_cancel])
      by_cases c : (n : Int) > 0
      · have h1 := hla (by omega)
        have h2 : out.take n = out.take (n - 1) ++ [out[n - 1]'(by omega)] := by
          have h3 : n = (n - 1) + 1 := by omega
          conv => lhs; rw [h3]
          rw [List.take_succ_eq_append_getElem (by omega)]
        have h4 := putOut_more (out.take (n - 1)) (out[n - 1]'(by omega))
        rw [← h2, ← h1] at h4
        rw [if_pos c, if_neg (by omega), ih]
      · rw [if_neg c, ih]
    · rw [putF_right hr (by omega)] at p
      exfalso
      repeat' split at p
      all_goals (have h2 := congrArg Prod.snd p; simp at h2)
    · rw [p, if_neg (by decide), if_pos rfl]
    · rw [p, if_neg (by decide), if_neg (by decide)]
      rfl
theorem ListCuts : ∀ (l0 : List (S170)), (l0.length ≤ 9223372036854775807 ∧ ∀ y ∈ l0, (Lit.int .i64 y.f0).wf = true ∧ (Lit.int .i64 y.f1).wf = true ∧ (Lit.int .i64 y.f2).wf = true ∧ (Lit.int .i64 y.f3).wf = true) → ∃ k, gemotlaw4_ListCuts.f k l0 = some true := by
  intro l0 hl
  obtain ⟨K, hK⟩ : ∃ K : Nat, K = 60 := ⟨_, rfl⟩
  refine ⟨K, ?_⟩
  obtain ⟨out, ho, hm, hlen⟩ := made4 l0 hl.2
  unfold gemotlaw4_ListCuts.f gemotlaw4_shown.f
  rw [Option.bind_some, if_pos rfl, ho, Option.bind_some]
  exact cutsL (fun x hx => (hm.part x hx).right) hlen (out.length + 1) K 0 _ (by omega) (by omega) (fun h => absurd h (Nat.lt_irrefl 0))
end Go.Proofs.Ytpfpmjdifnoeoaa.Pure
