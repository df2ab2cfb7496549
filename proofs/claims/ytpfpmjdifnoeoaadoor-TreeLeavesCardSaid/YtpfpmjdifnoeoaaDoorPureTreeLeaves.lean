/- The pure side of TreeLeaves: when all members but one leave, in any order, that one is left. -/
import Derived.Test.YtpfpmjdifnoeoaaDoorLGrow
import Derived.Test.YtpfpmjdifnoeoaaDoorF8
namespace Go.Proofs.YtpfpmjdifnoeoaaDoor.Pure
set_option linter.unusedVariables false
set_option linter.unusedSimpArgs false
open Go.RowKit Go.Proofs.YtpfpmjdifnoeoaaDoor.F Go.Proofs.YtpfpmjdifnoeoaaDoorW.PrintWords Go.Proofs.YtpfpmjdifnoeoaaDoorW.PrintLast Go.Proofs.YtpfpmjdifnoeoaaDoorW.PrintMore

theorem filter_ne_len : ∀ {l : List Int} {p : Int}, l.Nodup → p ∈ l → (l.filter fun q => !decide (q = p)).length + 1 = l.length
  | x :: l, p, hn, hm => by
    have h := List.nodup_cons.mp hn
    by_cases c : x = p
    · subst c
      rw [List.filter_cons_of_neg (by simp), List.length_cons, List.filter_eq_self.mpr (fun y hy => by
        have : y ≠ x := fun e => h.1 (e ▸ hy)
        simp [this])]
    · rw [List.filter_cons_of_pos (by simp [c]), List.length_cons, List.length_cons, filter_ne_len h.2 ((List.mem_cons.mp hm).resolve_left (fun e => c e.symm))]
theorem leaves_go (l : List Int) (hl : l.length ≤ 20) (hw : ∀ x ∈ l, (Lit.int .i64 x).wf = true) : ∀ (n k i : Nat) (t : Tr), t.Right → t.leaves.length = n → i + n ≤ 8 → 3 * n ≤ k → gemotlaw13_TreeLeaves.l0 k l t.text i = some true
  | 0, k, i, t, ht, hn, hi, hk => absurd t.leaves_pos (by omega)
  | 1, k + 3, i, t, ht, hn, hi, hk => by
    cases t with
    | node x y => exact absurd hn (by have := x.leaves_pos; have := y.leaves_pos; show (x.leaves ++ y.leaves).length ≠ 1; rw [List.length_append]; omega)
    | leaf q =>
      have hq : 1 ≤ q ∧ q ≤ 8 := ht.1 q (List.mem_singleton_self _)
      have hm : (Tr.leaf q).mems = [q] := by unfold Tr.mems Tr.leaves; exact List.mergeSort_singleton _
      rw [gemotlaw13_TreeLeaves.l0, if_pos (by omega), members_t ht, hm, Option.bind_some, if_pos (by simp), if_pos (by simp), show rd [q] 0 = q from rfl, leaf_t hq, Option.bind_some, if_pos rfl, depth_t ht, Option.bind_some]
      rfl
  | n + 2, k + 3, i, t, ht, hn, hi, hk => by
    have key : ∀ at_ : Int, 0 ≤ at_ → at_ < ((n + 2 : Nat) : Int) → gemotlaw13_TreeLeaves.j2 (k + 2) l t.text i t.mems at_ = some true := by
      intro a h0 h1
      obtain ⟨j, rfl⟩ := Int.eq_ofNat_of_zero_le h0
      have hj : j < t.mems.length := by rw [mems_len, hn]; omega
      have hp : t.mems[j] ∈ t.leaves := mems_mem.mp (List.getElem_mem hj)
      obtain ⟨u, hu⟩ := out_some (p := t.mems[j]) (by omega) ht.2
      obtain ⟨hr, hul⟩ := out_right ht hu
      have hun : u.leaves.length = n + 1 := by
        have := filter_ne_len ht.2 hp
        rw [hul]; omega
      rw [gemotlaw13_TreeLeaves.j2, if_pos (by omega), if_pos (by omega), rd_nat _ j hj, leave_in ht (by omega) hp hu, Option.bind_some, if_pos rfl, members_t hr, Option.bind_some, if_pos (by
        rw [mems_len, mems_len, hun, hn]; unfold wrap64; omega), wr_next (n := 8) (by omega) (by omega)]
      exact leaves_go l hl hw (n + 1) (k + 1) (i + 1) u hr hun (by omega) (by omega)
    rw [gemotlaw13_TreeLeaves.l0, if_pos (by omega), members_t ht, Option.bind_some, if_neg (by rw [mems_len, hn]; omega)]
    by_cases c : (l.length : Int) > 0
    · have hb : 0 ≤ Int.tmod (i : Int) (l.length : Int) ∧ Int.tmod (i : Int) (l.length : Int) < (l.length : Int) := ⟨Int.tmod_nonneg _ (by omega), Int.tmod_lt_of_pos _ c⟩
      obtain ⟨j, hj⟩ := Int.eq_ofNat_of_zero_le hb.1
      have hj2 : j < l.length := by omega
      rw [if_pos c, if_neg (by omega), if_pos hb.1, if_pos hb.2, hj, rd_nat l j hj2]
      obtain ⟨v, hv, v0, v1⟩ := pick13 (c := l[j]) (n := (t.mems.length : Int)) (ri64 (hw _ (List.getElem_mem hj2))) (by rw [mems_len, hn]; omega) (by rw [mems_len, hn]; omega)
      rw [hv, Option.bind_some]
      exact key v v0 (by rw [mems_len, hn] at v1; exact v1)
    · rw [if_neg c]
      exact key 0 (by omega) (by omega)
theorem TreeLeaves (l0 l1 : List Int) (h0 : l0.length ≤ 9223372036854775807 ∧ ∀ y ∈ l0, (Lit.int .i64 y).wf = true) (h1 : l1.length ≤ 9223372036854775807 ∧ ∀ y ∈ l1, (Lit.int .i64 y).wf = true) : ∃ k, gemotlaw13_TreeLeaves.f k l0 l1 = some true := by
  obtain ⟨t, ht, hm⟩ := made13 l0 (by omega) h0.2
  refine ⟨300, ?_⟩
  unfold gemotlaw13_TreeLeaves.f
  rw [shown13 300 (by omega), Option.bind_some, if_pos rfl, gemotlaw13_TreeLeaves.j0]
  by_cases c : (l1.length : Int) > 20
  · rw [if_pos (decide_eq_true c)]
  · rw [if_neg (by rw [decide_eq_false c]; decide), hm 299 (by omega), Option.bind_some]
    have := right_len ht
    exact leaves_go l1 (by omega) h1.2 _ 299 0 t ht rfl (by omega) (by omega)
end Go.Proofs.YtpfpmjdifnoeoaaDoor.Pure
