/- The pure side of ViewTells: ids, rows and views are as the chapter says. -/
import Derived.Test.YtagceackfnkifaaMViewTellsF6
namespace Go.Proofs.Ytagceackfnkifaa.Pure
set_option linter.unusedVariables false
set_option linter.unusedSimpArgs false
open Go.RowKit Go.Proofs.Ytagceackfnkifaa.F Go.Proofs.YtagceackfnkifaaW.PrintWords Go.Proofs.YtagceackfnkifaaW.PrintLast Go.Proofs.YtagceackfnkifaaW.PrintMore
theorem vt_rd (l : List Int) (i : Nat) (h : i < l.length) : rd l (i : Int) = l[i] := by
  unfold rd; simp [List.getD_eq_getElem?_getD, List.getElem?_eq_getElem h]
theorem vt_next {i n : Nat} (h : i + 1 ≤ n) (hn : n < 9223372036854775808) : wrap64 ((i : Int) + 1) = ((i + 1 : Nat) : Int) := by unfold wrap64; omega
theorem vt_has (l : List Int) (p : Int) (h : l.length < 1099511627776) : gemotref10_Has.f l p = some (l.contains p) := if_pos h
theorem vt_without_go (l m : List Int) (hl : l.length < 1099511627776) (hm : m.length < 1099511627776) : ∀ (d k i : Nat) (out : List Int), i + d = l.length → d < k → out.length ≤ i →
    gemotref10_Without.l0 k l m out i = some (out ++ (l.drop i).filter (fun x => !m.contains x))
  | 0, k + 1, i, out, hi, hk, ho => by
    rw [gemotref10_Without.l0, if_neg (by omega), List.drop_eq_nil_of_le (by omega), List.filter_nil, List.append_nil]
  | d + 1, k + 1, i, out, hi, hk, ho => by
    have hlt : i < l.length := by omega
    rw [gemotref10_Without.l0, if_pos (by omega), if_pos (by omega), vt_rd l i hlt, vt_has m _ hm, Option.bind_some, vt_next (n := l.length) (by omega) (by omega), List.drop_eq_getElem_cons hlt]
    by_cases c : m.contains l[i] = true
    · rw [if_pos c, vt_without_go l m hl hm d k (i + 1) out (by omega) (by omega) (by omega), List.filter_cons_of_neg (by show ¬ (!m.contains l[i]) = true; rw [c]; decide)]
    · rw [if_neg c, if_pos (by omega), vt_without_go l m hl hm d k (i + 1) (out ++ [l[i]]) (by omega) (by omega) (by rw [List.length_append, List.length_singleton]; omega), List.filter_cons_of_pos (by show (!m.contains l[i]) = true; rw [Bool.eq_false_iff.mpr c]; rfl), List.append_assoc]
      rfl
theorem vt_without (l m : List Int) (hl : l.length < 1099511627776) (hm : m.length < 1099511627776) (k : Nat) (hk : l.length < k) : gemotref10_Without.f k l m = some (l.filter (fun x => !m.contains x)) := by
  have := vt_without_go l m hl hm l.length k 0 [] (by omega) hk (by simp)
  rw [List.drop_zero, List.nil_append] at this
  exact this
theorem vt_both_go (l m : List Int) (hl : l.length < 1099511627776) (hm : m.length < 1099511627776) : ∀ (d k i : Nat) (out : List Int), i + d = l.length → d < k → out.length ≤ i →
    gemotref10_Both.l0 k l m out i = some (out ++ (l.drop i).filter (fun x => m.contains x))
  | 0, k + 1, i, out, hi, hk, ho => by
    rw [gemotref10_Both.l0, if_neg (by omega), List.drop_eq_nil_of_le (by omega), List.filter_nil, List.append_nil]
  | d + 1, k + 1, i, out, hi, hk, ho => by
    have hlt : i < l.length := by omega
    rw [gemotref10_Both.l0, if_pos (by omega), if_pos (by omega), vt_rd l i hlt, vt_has m _ hm, Option.bind_some, vt_next (n := l.length) (by omega) (by omega), List.drop_eq_getElem_cons hlt]
    by_cases c : m.contains l[i] = true
    · rw [if_pos c, if_pos (by omega), vt_both_go l m hl hm d k (i + 1) (out ++ [l[i]]) (by omega) (by omega) (by rw [List.length_append, List.length_singleton]; omega), List.filter_cons_of_pos c, List.append_assoc]
      rfl
    · rw [if_neg c, vt_both_go l m hl hm d k (i + 1) out (by omega) (by omega) (by omega), List.filter_cons_of_neg c]
theorem vt_both (l m : List Int) (hl : l.length < 1099511627776) (hm : m.length < 1099511627776) (k : Nat) (hk : l.length < k) : gemotref10_Both.f k l m = some (l.filter (fun x => m.contains x)) := by
  have := vt_both_go l m hl hm l.length k 0 [] (by omega) hk (by simp)
  rw [List.drop_zero, List.nil_append] at this
  exact this
theorem vt_equal_go (a b : List Int) (hab : a.length = b.length) (hl : a.length < 9223372036854775808) : ∀ (d k i : Nat), i + d = a.length → d < k → slices_Equal_int_int.l0 k a b a.length i = some (a.drop i == b.drop i)
  | 0, k + 1, i, hi, hk => by
    rw [slices_Equal_int_int.l0, if_neg (by omega), List.drop_eq_nil_of_le (by omega), List.drop_eq_nil_of_le (by omega)]
    rfl
  | d + 1, k + 1, i, hi, hk => by
    have h1 : i < a.length := by omega
    have h2 : i < b.length := by omega
    rw [slices_Equal_int_int.l0, if_pos (by omega), if_pos (by omega), if_pos (by omega), if_pos (by omega), vt_rd a i h1, vt_rd b i h2, vt_next (n := a.length) (by omega) (by omega), List.drop_eq_getElem_cons h1, List.drop_eq_getElem_cons h2, List.cons_beq_cons]
    by_cases c : a[i] = b[i]
    · rw [if_pos c, vt_equal_go a b hab hl d k (i + 1) (by omega) (by omega), c, beq_self_eq_true, Bool.true_and]
    · rw [if_neg c, beq_eq_false_iff_ne.mpr c, Bool.false_and]
theorem vt_same (a b : List Int) (hl : a.length < 9223372036854775808) (k : Nat) (hk : a.length < k) : view_Same.f k a b = some (a == b) := by
  unfold view_Same.f slices_Equal_int_int.f
  by_cases c : (a.length : Int) = (b.length : Int)
  · have := vt_equal_go a b (by omega) hl a.length k 0 (by omega) hk
    rw [List.drop_zero, List.drop_zero] at this
    rw [if_pos c]
    refine (congrArg (fun z => Option.bind z fun t => some t) this).trans ?_
    rfl
  · rw [if_neg c, Option.bind_some]
    congr 1
    exact (beq_eq_false_iff_ne.mpr (fun e => c (by rw [e]))).symm
theorem vt_less (a b c d : Int) : gemotref10_Less.f a b c d = view_Less.f a b c d := by
  unfold gemotref10_Less.f view_Less.f
  by_cases q : a = c
  · rw [if_pos q]
    congr 1
    by_cases r : b < d
    · rw [decide_eq_true r, decide_eq_true (.inr ⟨q, r⟩)]
    · rw [decide_eq_false r, decide_eq_false (fun h => h.elim (fun x => by omega) (fun x => r x.2))]
  · rw [if_neg q]
    congr 1
    by_cases r : a < c
    · rw [decide_eq_true r, decide_eq_true (.inl r)]
    · rw [decide_eq_false r, decide_eq_false (fun h => h.elim r (fun x => q x.1))]
theorem ViewTells (a0_0 a0_1 : Int) (l0_2 : List Int) (a1_0 a1_1 : Int) (l1_2 : List Int) (a2 : Int) (h0 : (Lit.int .i64 a0_0).wf = true) (h1 : (Lit.int .i64 a0_1).wf = true) (h2 : l0_2.length ≤ 9223372036854775807 ∧ ∀ y ∈ l0_2, (Lit.int .i64 y).wf = true) (h3 : (Lit.int .i64 a1_0).wf = true) (h4 : (Lit.int .i64 a1_1).wf = true) (h5 : l1_2.length ≤ 9223372036854775807 ∧ ∀ y ∈ l1_2, (Lit.int .i64 y).wf = true) (h6 : (Lit.int .i64 a2).wf = true) : ∃ k, gemotlaw10_ViewTells.f k a0_0 a0_1 l0_2 a1_0 a1_1 l1_2 a2 = some true := by
  refine ⟨1000, ?_⟩
  have jt : ∀ b : Bool, b = true → gemotlaw10_ViewTells.j0 1000 a2 true b a0_0 a0_1 l0_2 a1_0 a1_1 l1_2 = some true := fun b hb => by rw [hb, gemotlaw10_ViewTells.j0, if_pos rfl]
  unfold gemotlaw10_ViewTells.f gemotlaw10_shown.f
  rw [Option.bind_some, if_pos rfl]
  by_cases c : (l0_2.length : Int) > 50
  · rw [if_pos c]; exact jt _ rfl
  by_cases d : (l1_2.length : Int) > 50
  · rw [if_neg c]; exact jt _ (decide_eq_true d)
  have k0 : l0_2.length ≤ 50 := by omega
  have k1 : l1_2.length ≤ 50 := by omega
  rw [if_neg c, decide_eq_false d, gemotlaw10_ViewTells.j0, if_neg (by decide)]
  clear c d jt
  obtain ⟨u, v, ht⟩ : ∃ u v, termV a0_0 a0_1 l0_2 = (u, v) := ⟨_, _, rfl⟩
  have t1 : view_Term.f a0_0 a0_1 l0_2 = some (u, v) := (if_pos (by omega)).trans (congrArg some ht)
  have t2 : gemotref10_Term.f a0_0 a0_1 l0_2 = some (u, v) := (if_pos (by omega)).trans (congrArg some ht)
  have r1 : view_Right.f a0_0 a0_1 l0_2 = some (viewB a0_0 a0_1 l0_2) := if_pos (by omega)
  have r2 : gemotref10_Right.f a0_0 a0_1 l0_2 = some (viewB a0_0 a0_1 l0_2) := if_pos (by omega)
  have o1 : view_Row.f l0_2 = some (upB 0 l0_2) := if_pos (by omega)
  have o2 : gemotref10_Row.f l0_2 = some (upB 0 l0_2) := if_pos (by omega)
  have q1 : view_Has.f l0_2 a2 = some (l0_2.contains a2) := rfl
  have q2 := vt_has l0_2 a2 (by omega)
  have s1 := vt_same l0_2 l1_2 (by omega) 999 (by omega)
  have s2 : gemotref10_Same.f l0_2 l1_2 = some (l0_2 == l1_2) := rfl
  have b1 : view_Both.f l0_2 l1_2 = some (l0_2.filter fun x => l1_2.contains x) := if_pos (by omega)
  have b2 := vt_both l0_2 l1_2 (by omega) (by omega) 999 (by omega)
  have w1 : view_Without.f l0_2 l1_2 = some (l0_2.filter fun x => !l1_2.contains x) := if_pos (by omega)
  have w2 := vt_without l0_2 l1_2 (by omega) (by omega) 999 (by omega)
  have e1 : ∀ l : List Int, gemotref10_Same.f l l = some true := fun l => congrArg some (beq_self_eq_true l)
  have n1 : view_Next.f a0_0 a0_1 a2 = some (wrap64 (a0_0 + 1), a2) := rfl
  obtain ⟨b, hl⟩ : ∃ b, view_Less.f a0_0 a0_1 a1_0 a1_1 = some b := ⟨_, rfl⟩
  rw [t1, t2, n1, vt_less, hl]
  simp only [Option.bind_some, beq_self_eq_true, if_true, r1, r2, o1, o2, q1, q2, s1, s2, b1, b2, w1, w2, e1]
end Go.Proofs.Ytagceackfnkifaa.Pure
