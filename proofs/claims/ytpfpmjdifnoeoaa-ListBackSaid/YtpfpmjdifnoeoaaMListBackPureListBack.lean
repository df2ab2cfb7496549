/- The pure side of ListBack: a row that was put is taken, a message that was packed is read, and what was read is written again. -/
import Derived.Test.YtpfpmjdifnoeoaaMListBackLLaw4
import Derived.Test.YtpfpmjdifnoeoaaMListBackLMsg
import Derived.Test.YtpfpmjdifnoeoaaMListBackF30
namespace Go.Proofs.Ytpfpmjdifnoeoaa.Pure
set_option linter.unusedVariables false
set_option linter.unusedSimpArgs false
open Go.RowKit Go.Proofs.Ytpfpmjdifnoeoaa.F Go.Proofs.YtpfpmjdifnoeoaaW.PrintWords Go.Proofs.YtpfpmjdifnoeoaaW.PrintLast Go.Proofs.YtpfpmjdifnoeoaaW.PrintMore
theorem same_refl (m : Msg) : sameM m m = true := by unfold sameM; rw [decide_eq_true_eq]; exact ⟨rfl, rfl, rfl, rfl, rfl, rfl, rfl, rfl⟩
theorem packB_size (m : Msg) : (packM m).1.size ≤ 20000 := by
  rcases packM_codes m with q | ⟨q, _⟩ | ⟨_, q | q | q⟩
  · rw [q.2.2.1]; exact ((right_iff _).mp q.2.2.2.1).2
  all_goals (rw [q]; exact Nat.zero_le _)
theorem right_ts {m : Msg} (h : (packM m).2 = 0) : ∀ x ∈ m.ts, x.size < 9223372036854775808 := fun x hx => by
  have := ((right_iff x).mp ((packM_ok h).2.2.2.1 x (List.mem_append_right _ hx))).2
  omega
theorem ts_len {m : Msg} (h : (packM m).2 = 0) : m.ts.length ≤ 150 := by
  have := (packM_ok h).2.2.2.2
  unfold rowM at this
  rw [List.length_append] at this
  omega
theorem backJ4 (s : ByteArray) (hs : s.size ≤ 3000) (k : Nat) : gemotlaw4_ListBack.j4 (k + 1) s = some true := by
  simp only [gemotlaw4_ListBack.j4]
  unfold list_Unpack.f
  rw [if_pos (by omega)]
  simp only [Option.bind_some]
  rcases unpack_codes s with c | c
  · obtain ⟨h1, h2⟩ := unpack_sound c
    have hz : (packM (unpackM s).1).2 = 0 := by rw [h1]
    have h3 := right_ts hz
    have h4 := ts_len hz
    have h5 := h2.len
    rw [if_pos c]
    have hp : list_Pack.f (unpackM s).1.kind (unpackM s).1.ie (unpackM s).1.ic (unpackM s).1.oe (unpackM s).1.oc (unpackM s).1.num (unpackM s).1.ms (unpackM s).1.ts = some (packM (unpackM s).1) := by
      unfold list_Pack.f
      exact if_pos ⟨⟨by omega, h3⟩, by omega⟩
    have hr : list_Right.f (unpackM s).1.kind (unpackM s).1.ie (unpackM s).1.ic (unpackM s).1.oe (unpackM s).1.oc (unpackM s).1.num (unpackM s).1.ms (unpackM s).1.ts = some true := by
      unfold list_Right.f
      rw [if_pos ⟨by omega, h3⟩]
      exact congrArg some ((rightM_iff (unpackM s).1).mpr h2)
    rw [hp, h1]
    simp only [Option.bind_some, if_true]
    rw [hr]
    rfl
  · rw [c]
    rfl
theorem backJ3 (s : ByteArray) (hs : s.size ≤ 3000) (l : List ByteArray) (hl : l.length ≤ 42) (hx : ∀ x ∈ l, x.size < 9223372036854775808) (a0 a1 a2 a3 a4 a5 : Int) (l6 : List Int) (l7 : List ByteArray) (h6 : l6.length < 20) (k : Nat) :
    gemotlaw4_ListBack.j3 (k + 2) s l a0 a1 a2 a3 a4 a5 l6 l7 = some true := by
  have h4 := backJ4 s hs k
  simp only [gemotlaw4_ListBack.j3]
  unfold list_Pack.f
  rw [if_pos ⟨⟨by omega, hx⟩, by omega⟩]
  simp only [Option.bind_some]
  by_cases c : (packM ⟨a0, a1, a2, a3, a4, a5, l6, l⟩).2 = 0
  · have hu := unpack_pack c
    have hz := packB_size ⟨a0, a1, a2, a3, a4, a5, l6, l⟩
    rw [if_pos c]
    unfold list_Unpack.f
    rw [if_pos (by omega), hu]
    simp only [Option.bind_some, if_true]
    unfold gemotlaw4_asMsg.f
    rw [if_pos (by omega)]
    simp only [Option.bind_some]
    unfold gemotlaw4_sameMsg.f
    rw [if_pos ⟨by omega, by omega⟩]
    simp only [Option.bind_some]
    rw [same_refl, if_pos rfl]
    exact h4
  · rw [if_neg c]
    exact h4
theorem backL0 (s : ByteArray) (hs : s.size ≤ 3000) (l : List ByteArray) (hl : l.length ≤ 42) (hx : ∀ x ∈ l, x.size < 9223372036854775808) (a0 a1 a2 a3 a4 a5 : Int) (l6 : List Int) (l7 : List ByteArray) (h6 : l6.length < 20) : ∀ (d k i : Nat), i + d = l.length → d + 3 < k →
    gemotlaw4_ListBack.l0 k s l l i a0 a1 a2 a3 a4 a5 l6 l7 = some true := by
  intro d
  induction d with
  | zero =>
    intro k i hi hk
    obtain ⟨k, rfl⟩ : ∃ m, k = m + 3 := ⟨k - 3, by omega⟩
    simp only [gemotlaw4_ListBack.l0]
    rw [if_neg (by omega)]
    exact backJ3 s hs l hl hx a0 a1 a2 a3 a4 a5 l6 l7 h6 k
  | succ d ih =>
    intro k i hi hk
    obtain ⟨k, rfl⟩ : ∃ m, k = m + 1 := ⟨k - 1, by omega⟩
    have hw : wrap64 ((i : Int) + 1) = ((i + 1 : Nat) : Int) := by unfold wrap64; omega
    simp only [gemotlaw4_ListBack.l0]
    rw [if_pos (by omega), if_pos (by omega), if_pos (by omega), if_pos trivial, hw]
    exact ih k (i + 1) (by omega) (by omega)
theorem ListBack : ∀ (l0 : List (S170)) (a1_0 a1_1 a1_2 a1_3 a1_4 a1_5 : Int) (l1_6 : List Int) (l1_7 : List ByteArray) (a2 : ByteArray), (l0.length ≤ 9223372036854775807 ∧ ∀ y ∈ l0, (Lit.int .i64 y.f0).wf = true ∧ (Lit.int .i64 y.f1).wf = true ∧ (Lit.int .i64 y.f2).wf = true ∧ (Lit.int .i64 y.f3).wf = true) → ((Lit.int .i64 a1_0).wf = true) → ((Lit.int .i64 a1_1).wf = true) → ((Lit.int .i64 a1_2).wf = true) → ((Lit.int .i64 a1_3).wf = true) → ((Lit.int .i64 a1_4).wf = true) → ((Lit.int .i64 a1_5).wf = true) → (l1_6.length ≤ 9223372036854775807 ∧ ∀ y ∈ l1_6, (Lit.int .i64 y).wf = true) → (l1_7.length ≤ 9223372036854775807 ∧ ∀ y ∈ l1_7, y.size ≤ 9223372036854775807) → (a2.size ≤ 9223372036854775807) → ∃ k, gemotlaw4_ListBack.f k l0 a1_0 a1_1 a1_2 a1_3 a1_4 a1_5 l1_6 l1_7 a2 = some true := by
  intro l0 a0 a1 a2 a3 a4 a5 l6 l7 s hl _ _ _ _ _ _ _ h7 _
  obtain ⟨K, hK⟩ : ∃ K : Nat, K = 100 := ⟨_, rfl⟩
  refine ⟨K + 2, ?_⟩
  obtain ⟨out, ho, hm, hlen⟩ := made4 l0 hl.2
  have hall : ∀ x ∈ out, rightB x = true := fun x hx => (hm.part x hx).right
  have hsz : ∀ x ∈ out, x.size < 9223372036854775808 := fun x hx => by
    have := ((right_iff x).mp (hall x hx)).2
    omega
  unfold gemotlaw4_ListBack.f gemotlaw4_shown.f gemotlaw4_short.f
  rw [if_pos h7.1]
  simp only [Option.bind_some]
  rw [if_pos trivial]
  cases hs : shortB l6 l7
  · simp only [gemotlaw4_ListBack.j0]
    rw [if_neg (by decide), if_pos trivial]
  have h6 : l6.length < 20 := by
    unfold shortB at hs
    rw [decide_eq_true_eq] at hs
    exact hs.1
  rw [if_pos rfl]
  by_cases c : (s.size : Int) > 3000
  · rw [decide_eq_true c]
    simp only [gemotlaw4_ListBack.j0]
    simp
  rw [decide_eq_false c]
  have hs3 : s.size ≤ 3000 := by omega
  simp only [gemotlaw4_ListBack.j0]
  rw [if_neg (by decide), ho]
  simp only [Option.bind_some]
  unfold list_Put.f
  rw [if_pos hsz]
  simp only [Option.bind_some]
  have hend : gemotlaw4_ListBack.j3 (K + 1) s out a0 a1 a2 a3 a4 a5 l6 l7 = some true := by
    obtain ⟨k, rfl⟩ : ∃ m, K = m + 1 := ⟨K - 1, by omega⟩
    exact backJ3 s hs3 out hlen hsz a0 a1 a2 a3 a4 a5 l6 l7 h6 k
  by_cases d : (putF out).2 = 0
  · rw [if_pos d]
    rcases putF_codes out with ⟨p1, p2, p3, p4, p5⟩ | p | p | p
    case inr.inl => rw [p] at d; exact absurd d (by decide)
    case inr.inr.inl => rw [p] at d; exact absurd d (by decide)
    case inr.inr.inr => rw [p] at d; exact absurd d (by decide)
    have hp3 := ((right_iff _).mp p3).2
    unfold list_Take.f
    rw [p2, if_pos (by omega), row_back out 150 p4 p3 p5]
    simp only [Option.bind_some, if_true, bne_self_eq_false]
    simp only [gemotlaw4_ListBack.j1]
    rw [if_neg (by decide)]
    exact backL0 s hs3 out hlen hsz a0 a1 a2 a3 a4 a5 l6 l7 h6 out.length K 0 (by omega) (by omega)
  · rw [if_neg d]
    exact hend
end Go.Proofs.Ytpfpmjdifnoeoaa.Pure
