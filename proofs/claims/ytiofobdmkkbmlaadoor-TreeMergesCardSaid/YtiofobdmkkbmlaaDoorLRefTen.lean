/- The document's functions on rows, as plain filters; rows in order with the same numbers are one. -/
import Derived.Test.YtiofobdmkkbmlaaDoorLGrow
import Derived.Test.YtiofobdmkkbmlaaDoorF30
import Derived.Test.YtiofobdmkkbmlaaDoorF50
import Derived.Test.YtiofobdmkkbmlaaDoorF18
namespace Go.Proofs.YtiofobdmkkbmlaaDoor.Pure
set_option linter.unusedVariables false
set_option linter.unusedSimpArgs false
open Go.RowKit Go.Proofs.YtiofobdmkkbmlaaDoor.F Go.Proofs.YtiofobdmkkbmlaaDoorW.PrintWords Go.Proofs.YtiofobdmkkbmlaaDoorW.PrintLast Go.Proofs.YtiofobdmkkbmlaaDoorW.PrintMore

theorem has_f (l : List Int) (p : Int) (h : l.length < 1099511627776) : gemotref10_Has.f l p = some (l.contains p) := if_pos h
theorem without_go (l m : List Int) (hl : l.length < 1099511627776) (hm : m.length < 1099511627776) : ∀ (d k i : Nat) (out : List Int), i + d = l.length → d < k → out.length ≤ i →
    gemotref10_Without.l0 k l m out i = some (out ++ (l.drop i).filter (fun x => !m.contains x))
  | 0, k + 1, i, out, hi, hk, ho => by
    rw [gemotref10_Without.l0, if_neg (by omega), List.drop_eq_nil_of_le (by omega), List.filter_nil, List.append_nil]
  | d + 1, k + 1, i, out, hi, hk, ho => by
    have hlt : i < l.length := by omega
    rw [gemotref10_Without.l0, if_pos (by omega), if_pos (by omega), rd_nat l i hlt, has_f m _ hm, Option.bind_some, wr_next (n := l.length) (by omega) (by omega), List.drop_eq_getElem_cons hlt]
    by_cases c : m.contains l[i] = true
    · rw [if_pos c, without_go l m hl hm d k (i + 1) out (by omega) (by omega) (by omega), List.filter_cons_of_neg (by show ¬ (!m.contains l[i]) = true; rw [c]; decide)]
    · rw [if_neg c, if_pos (by omega), without_go l m hl hm d k (i + 1) (out ++ [l[i]]) (by omega) (by omega) (by rw [List.length_append, List.length_singleton]; omega), List.filter_cons_of_pos (by show (!m.contains l[i]) = true; rw [Bool.eq_false_iff.mpr c]; rfl), List.append_assoc]
      rfl
theorem without_f (l m : List Int) (hl : l.length < 1099511627776) (hm : m.length < 1099511627776) (k : Nat) (hk : l.length < k) : gemotref10_Without.f k l m = some (l.filter (fun x => !m.contains x)) := by
  have := without_go l m hl hm l.length k 0 [] (by omega) hk (by simp)
  rw [List.drop_zero, List.nil_append] at this
  exact this
theorem both_go (l m : List Int) (hl : l.length < 1099511627776) (hm : m.length < 1099511627776) : ∀ (d k i : Nat) (out : List Int), i + d = l.length → d < k → out.length ≤ i →
    gemotref10_Both.l0 k l m out i = some (out ++ (l.drop i).filter (fun x => m.contains x))
  | 0, k + 1, i, out, hi, hk, ho => by
    rw [gemotref10_Both.l0, if_neg (by omega), List.drop_eq_nil_of_le (by omega), List.filter_nil, List.append_nil]
  | d + 1, k + 1, i, out, hi, hk, ho => by
    have hlt : i < l.length := by omega
    rw [gemotref10_Both.l0, if_pos (by omega), if_pos (by omega), rd_nat l i hlt, has_f m _ hm, Option.bind_some, wr_next (n := l.length) (by omega) (by omega), List.drop_eq_getElem_cons hlt]
    by_cases c : m.contains l[i] = true
    · rw [if_pos c, if_pos (by omega), both_go l m hl hm d k (i + 1) (out ++ [l[i]]) (by omega) (by omega) (by rw [List.length_append, List.length_singleton]; omega), List.filter_cons_of_pos c, List.append_assoc]
      rfl
    · rw [if_neg c, both_go l m hl hm d k (i + 1) out (by omega) (by omega) (by omega), List.filter_cons_of_neg c]
theorem both_f (l m : List Int) (hl : l.length < 1099511627776) (hm : m.length < 1099511627776) (k : Nat) (hk : l.length < k) : gemotref10_Both.f k l m = some (l.filter (fun x => m.contains x)) := by
  have := both_go l m hl hm l.length k 0 [] (by omega) hk (by simp)
  rw [List.drop_zero, List.nil_append] at this
  exact this
theorem sorted_eq {l m : List Int} (h : l.Perm m) (hl : l.Pairwise (· ≤ ·)) (hm : m.Pairwise (· ≤ ·)) : l = m :=
  h.eq_of_pairwise (fun a b _ _ h1 h2 => Int.le_antisymm h1 h2) hl hm
theorem mems_eq {t : Tr} {l : List Int} (h : t.leaves.Perm l) (hl : l.Pairwise (· ≤ ·)) : t.mems = l := sorted_eq ((mems_perm t).trans h) (mems_sorted t) hl
/-- The members that are left when one leaves. -/
theorem mems_out {t u : Tr} {p : Int} (h : t.Right) (ho : t.out p = some u) : u.mems = t.mems.filter (fun x => !([p] : List Int).contains x) := by
  refine mems_eq ?_ ((mems_sorted t).filter _)
  rw [(out_right h ho).2]
  refine (List.Perm.symm ?_)
  have h1 := (mems_perm t).filter (fun q => !decide (q = p))
  have h2 : (fun x => !([p] : List Int).contains x) = (fun q => !decide (q = p)) := by
    funext q
    by_cases c : q = p
    · simp [c]
    · simp [c]
  rw [h2]
  exact h1
end Go.Proofs.YtiofobdmkkbmlaaDoor.Pure
