/- The pure side of PartsPowers: the exponents of an element that is raised are those it had, and the new one, by bytes. -/
import Derived.Test.YtpfpmjdifnoeoaaLLaw2
import Derived.Test.YtpfpmjdifnoeoaaB3
import Derived.Test.YtpfpmjdifnoeoaaF24
namespace Go.Proofs.Ytpfpmjdifnoeoaa.Pure
set_option linter.unusedVariables false
set_option linter.unusedSimpArgs false
set_option linter.unnecessarySimpa false
open Go.RowKit Go.Proofs.Ytpfpmjdifnoeoaa.F Go.Proofs.YtpfpmjdifnoeoaaW.PrintWords Go.Proofs.YtpfpmjdifnoeoaaW.PrintLast Go.Proofs.YtpfpmjdifnoeoaaW.PrintMore

/-- What is sorted, of what was sorted and one more: each next one is the next old one, or the new one. -/
theorem next_of {old rest : List ByteArray} {x : ByteArray} {ex : List ByteArray} (hs : (x :: rest).Pairwise (fun a b => bl a ≤ bl b)) (ho : old.Pairwise (fun a b => bl a ≤ bl b)) (hp : (x :: rest).Perm (old ++ ex)) :
    (∀ y ys, old = y :: ys → y = x → rest.Perm (ys ++ ex)) ∧ (∀ y ys, old = y :: ys → y ≠ x → x ∈ ex) ∧ (old = [] → x ∈ ex) := by
  refine ⟨?_, ?_, ?_⟩
  · rintro y ys rfl rfl
    exact (List.perm_cons _).mp hp
  · rintro y ys rfl hne
    have hx : x ∈ (y :: ys) ++ ex := hp.mem_iff.mp List.mem_cons_self
    have hy : y ∈ x :: rest := hp.mem_iff.mpr (List.mem_append_left _ List.mem_cons_self)
    rcases List.mem_append.mp hx with h | h
    · rcases List.mem_cons.mp h with h | h
      · exact absurd h.symm hne
      · have h1 : bl y ≤ bl x := (List.pairwise_cons.mp ho).1 x h
        rcases List.mem_cons.mp hy with h2 | h2
        · exact absurd h2 hne
        · have h3 : bl x ≤ bl y := (List.pairwise_cons.mp hs).1 y h2
          exact absurd (bl_inj (List.le_antisymm h1 h3)) hne
    · exact h
  · rintro rfl
    exact hp.mem_iff.mp List.mem_cons_self
theorem getD_drop {l : List ByteArray} {i : Int} (h0 : 0 ≤ i) (h : i < l.length) : l.drop i.toNat = rdOf ByteArray.empty l i :: l.drop (i + 1).toNat := by
  have h1 : i.toNat < l.length := by omega
  have h2 : (i + 1).toNat = i.toNat + 1 := by omega
  rw [List.drop_eq_getElem_cons h1, h2]
  simp [rdOf, List.getD_eq_getElem?_getD, h1]
theorem eq_beq {a b : ByteArray} : (a.toList == b.toList) = decide (a = b) := by
  by_cases c : a = b
  · rw [c]; simp
  · rw [decide_eq_false c, beq_eq_false_iff_ne]
    exact fun h => c (tl_eq.mp h)
theorem powersL {b : ByteArray} {old now : List ByteArray} (hs : now.Pairwise (fun x y => bl x ≤ bl y)) (ho : old.Pairwise (fun x y => bl x ≤ bl y)) (hl : now.length ≤ 1000) (hol : old.length ≤ 1000) :
    ∀ (d k : Nat) (i n : Int) (met : Bool), 0 ≤ n → n + d = now.length → 0 ≤ i → i ≤ old.length → (now.drop n.toNat).Perm (old.drop i.toNat ++ if met then [] else [b]) → 3 * d < k →
      gemotlaw2_PartsPowers.l0 k b old now i met n = some true
  | 0, k, i, n, met, h0, h1, h2, h3, hp, hk => by
    obtain ⟨k, rfl⟩ : ∃ m, k = m + 1 := ⟨k - 1, by omega⟩
    have he : now.drop n.toNat = [] := List.drop_of_length_le (by omega)
    rw [he] at hp
    have hp2 := hp.length_eq
    rw [List.length_append, List.length_drop] at hp2
    have hm : met = true := by
      cases met
      · simp at hp2
      · rfl
    subst hm
    simp at hp2
    simp only [gemotlaw2_PartsPowers.l0]
    rw [if_neg (by omega), if_pos (by omega)]
  | d + 1, k, i, n, met, h0, h1, h2, h3, hp, hk => by
    obtain ⟨k, rfl⟩ : ∃ m, k = m + 3 := ⟨k - 3, by omega⟩
    have hw : wrap64 (n + 1) = n + 1 := by unfold wrap64; omega
    have hw2 : wrap64 (i + 1) = i + 1 := by unfold wrap64; omega
    have hw3 : wrap64 (n - 1) = n - 1 := by unfold wrap64; omega
    have hx := getD_drop (l := now) h0 (by omega)
    have hsd : (now.drop n.toNat).Pairwise (fun x y => bl x ≤ bl y) := hs.sublist (List.drop_sublist _ _)
    have hod : (old.drop i.toNat).Pairwise (fun x y => bl x ≤ bl y) := ho.sublist (List.drop_sublist _ _)
    rw [hx] at hp hsd
    have hn := next_of hsd hod hp
    have key : gemotlaw2_PartsPowers.l0 (k + 3) b old now i met n = gemotlaw2_PartsPowers.j2 (k + 2) b old now i met n false := by
      simp only [gemotlaw2_PartsPowers.l0]
      rw [if_pos (by omega)]
      by_cases c : n > 0
      · rw [if_pos c, if_pos h0, hw3, if_pos (by omega), if_pos (by omega)]
        congr 1
        rw [less_not]
        have h5 := getD_drop (l := now) (i := n - 1) (by omega) (by omega)
        rw [show n - 1 + 1 = n by omega, hx] at h5
        have h6 : (now.drop (n - 1).toNat).Pairwise (fun x y => bl x ≤ bl y) := hs.sublist (List.drop_sublist _ _)
        rw [h5] at h6
        exact (List.pairwise_cons.mp h6).1 _ List.mem_cons_self
      · rw [if_neg c]
    rw [key]
    by_cases c : i < old.length
    · have hy := getD_drop (l := old) h2 c
      by_cases e : rdOf ByteArray.empty now n = rdOf ByteArray.empty old i
      · have hr := hn.1 _ _ hy e.symm
        simp only [gemotlaw2_PartsPowers.j2, gemotlaw2_PartsPowers.j3]
        rw [if_neg (by decide), if_pos c, if_pos h0, if_pos (by omega), if_pos h2, eq_beq, decide_eq_true e, if_pos rfl, hw, hw2]
        exact powersL hs ho hl hol d k (i + 1) (n + 1) met (by omega) (by omega) (by omega) (by omega) hr (by omega)
      · have hb := hn.2.1 _ _ hy (Ne.symm e)
        have hm : met = false ∧ rdOf ByteArray.empty now n = b := by
          cases met
          · exact ⟨rfl, by simpa using hb⟩
          · simp at hb
        obtain ⟨rfl, hb2⟩ := hm
        simp only [gemotlaw2_PartsPowers.j2, gemotlaw2_PartsPowers.j3]
        rw [if_neg (by decide), if_pos c, if_pos h0, if_pos (by omega), if_pos h2, eq_beq, decide_eq_false e, if_neg (by decide), if_pos h0, if_pos (by omega), if_pos (by rw [hb2]), if_neg (by decide), hw]
        refine powersL hs ho hl hol d k i (n + 1) true (by omega) (by omega) h2 h3 ?_ (by omega)
        rw [hb2] at hp
        have h7 : (b :: now.drop (n + 1).toNat).Perm (b :: old.drop i.toNat) := hp.trans (by simpa using List.perm_append_singleton b (old.drop i.toNat))
        simpa using (List.perm_cons _).mp h7
    · have hy : old.drop i.toNat = [] := List.drop_of_length_le (by omega)
      have hb := hn.2.2 hy
      have hm : met = false ∧ rdOf ByteArray.empty now n = b := by
        cases met
        · exact ⟨rfl, by simpa using hb⟩
        · simp at hb
      obtain ⟨rfl, hb2⟩ := hm
      simp only [gemotlaw2_PartsPowers.j2, gemotlaw2_PartsPowers.j3]
      rw [if_neg (by decide), if_neg c, if_neg (by decide), if_pos h0, if_pos (by omega), if_pos (by rw [hb2]), if_neg (by decide), hw]
      refine powersL hs ho hl hol d k i (n + 1) true (by omega) (by omega) h2 h3 ?_ (by omega)
      rw [hb2] at hp
      have h7 : (b :: now.drop (n + 1).toNat).Perm (b :: old.drop i.toNat) := hp.trans (by simpa using List.perm_append_singleton b (old.drop i.toNat))
      simpa using (List.perm_cons _).mp h7
theorem PartsPowers : ∀ (l0 : List (S171)) (a1 : Int) (a2 : Int), (l0.length ≤ 9223372036854775807 ∧ ∀ y ∈ l0, (Lit.int .i64 y.f0).wf = true ∧ (Lit.int .i64 y.f1).wf = true ∧ (Lit.int .i64 y.f2).wf = true ∧ (Lit.int .i64 y.f3).wf = true) → ((Lit.int .i64 a1).wf = true) → ((Lit.int .i64 a2).wf = true) → ∃ k, gemotlaw2_PartsPowers.f k l0 a1 a2 = some true := by
  intro l0 a1 a2 hl h1 h2
  obtain ⟨K, hK⟩ : ∃ K : Nat, K = 199 := ⟨_, rfl⟩
  refine ⟨K + 1, ?_⟩
  obtain ⟨out, ho, hm, hlen⟩ := made2 l0 hl.2
  unfold gemotlaw2_PartsPowers.f gemotlaw2_shown.f
  have h20 := hm.two
  have hpos : (0 : Int) < (out.length : Int) := by omega
  have r1 := pickF_range a1 hpos
  have r2 := pickF_range a2 hpos
  have ha := hm.at_ hlen a1
  have hb := hm.at_ hlen a2
  rw [Option.bind_some, if_pos rfl, ho, Option.bind_some, pick2 h1 hpos (by omega), Option.bind_some, if_pos r1.1, if_pos r1.2, pick2 h2 hpos (by omega), Option.bind_some, if_pos r2.1, if_pos r2.2]
  rw [show rdOf ByteArray.empty out (pickF a1 out.length) = atF out (pickF a1 out.length) from rfl, show rdOf ByteArray.empty out (pickF a2 out.length) = atF out (pickF a2 out.length) from rfl]
  generalize atF out (pickF a1 out.length) = a at ha ⊢
  generalize atF out (pickF a2 out.length) = b at hb ⊢
  have sa := ha.2
  have sb := hb.2
  have f1 : term_Power.f a b = some (powF a b) := by unfold term_Power.f; exact if_pos ⟨by omega, by omega⟩
  have hk : kindF a = bt a 0 := by unfold kindF; rw [if_pos ha.1.right]
  have f2 : parts_Kind.f a = some (bt a 0) := by unfold parts_Kind.f; rw [if_pos (by omega), hk]
  rw [f1, f2]
  simp only [Option.bind_some]
  by_cases c : elemB a = true
  · have hbt : bt a 0 = 103 ∨ bt a 0 = 101 := by
      unfold elemB at c
      rw [Bool.and_eq_true, Bool.or_eq_true, beq_iff_eq, beq_iff_eq] at c
      exact c.2
    have e1 : (if bt a 0 = 103 then gemotlaw2_PartsPowers.j0 (K + 1) a b (powF a b).1 (powF a b).2 false else gemotlaw2_PartsPowers.j0 (K + 1) a b (powF a b).1 (powF a b).2 (bt a 0 != 101)) = gemotlaw2_PartsPowers.j0 (K + 1) a b (powF a b).1 (powF a b).2 false := by
      rcases hbt with q | q
      · rw [if_pos q]
      · rw [if_neg (by omega), q, show ((101 : Int) != 101) = false from rfl]
    rw [e1]
    simp only [gemotlaw2_PartsPowers.j0]
    rw [if_neg (by decide)]
    by_cases z : (powF a b).2 = 0
    · rw [if_pos z]
      obtain ⟨_, hx, hp, hpp⟩ := pow_made (m := 42) (by decide) (by decide) ha.1 hb.1 z
      have he := elem_cases c
      have hkid : kidsP a = expsF a := by
        unfold kidsP
        rw [if_pos ha.1.right]
        by_cases g : expsF a = []
        · have h3 := he.1
          rw [g] at h3
          have h4 : elmOf [] = ⟨#[103]⟩ := rfl
          rw [g, h3, h4]
          exact kids_leaf gen_leaf
        · have n := elmOf_node g (by omega) (fun x hx => ⟨(he.2.2.1 x hx).1, (he.2.2.1 x hx).2.1⟩)
          rw [← he.1, sortB_of_sorted he.2.2.2] at n
          exact kids_node n (by omega)
      have hall : ∀ x ∈ expsF a ++ [b], Tm x ∧ depF x ≤ 399 := by
        intro x hx
        rcases List.mem_append.mp hx with q | q
        · exact ⟨(he.2.2.1 x q).1, (he.2.2.1 x q).2.1⟩
        · rw [List.mem_singleton.mp q]; exact ⟨hb.1.tm, by have := hb.1.dep; omega⟩
      have n := elmOf_node (l := expsF a ++ [b]) (by simp) (by rw [List.length_append]; simp; omega) hall
      have hkid2 : kidsP (elmOf (expsF a ++ [b])) = sortB (expsF a ++ [b]) := by
        unfold kidsP
        rw [if_pos hpp.right]
        exact kids_node n hpp.size
      have g1 : parts_Of.f a = some (expsF a) := by unfold parts_Of.f; rw [if_pos (by omega), hkid]
      have g2 : parts_Of.f (elmOf (expsF a ++ [b])) = some (sortB (expsF a ++ [b])) := by unfold parts_Of.f; rw [if_pos (by have := hpp.size; omega), hkid2]
      have hlen2 : (sortB (expsF a ++ [b])).length = (expsF a).length + 1 := by rw [(sortB_perm (expsF a ++ [b])).length_eq]; simp
      rw [hp, g1, Option.bind_some, g2, Option.bind_some]
      rw [if_pos (by unfold wrap64; omega)]
      exact powersL (sortB_sorted _) he.2.2.2 (by omega) (by omega) (sortB (expsF a ++ [b])).length K 0 0 false (by decide) (by omega) (by decide) (by omega) (by simpa using sortB_perm (expsF a ++ [b])) (by omega)
    · rw [if_neg z]
      rw [pow_eq c hb.1.right] at z ⊢
      split at z
      · rename_i q
        rw [if_pos q, if_pos rfl]
      · rename_i q
        rw [if_neg q]
        rcases whole_codes (elmOf (expsF a ++ [b])) with w | w | w
        · exact absurd w z
        · rw [w, if_pos rfl]
        · rw [w, if_neg (by decide)]; rfl
  · have hbt : ¬ bt a 0 = 103 ∧ ¬ bt a 0 = 101 := by
      refine ⟨fun q => c ?_, fun q => c ?_⟩
      · unfold elemB; rw [ha.1.right, q]; rfl
      · unfold elemB; rw [ha.1.right, q]; rfl
    rw [if_neg hbt.1, bne_iff_ne.mpr hbt.2]
    have hp : powF a b = (⟨#[]⟩, 1) := by unfold powF; rw [if_neg c]
    simp only [gemotlaw2_PartsPowers.j0]
    rw [if_pos trivial, hp, if_pos rfl]
    rw [show (⟨#[]⟩ : ByteArray).toList = [] from by rw [ByteArray.toList_eq]]
    rfl
end Go.Proofs.Ytpfpmjdifnoeoaa.Pure
