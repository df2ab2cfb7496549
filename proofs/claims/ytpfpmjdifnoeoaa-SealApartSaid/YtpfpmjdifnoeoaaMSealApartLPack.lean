/- Plain facts about messages: what is packed says one message alone. -/
import Derived.Test.YtpfpmjdifnoeoaaMSealApartLRows
import Derived.Test.YtpfpmjdifnoeoaaMSealApartF43
namespace Go.Proofs.Ytpfpmjdifnoeoaa.Pure
set_option linter.unusedVariables false
set_option linter.unusedSimpArgs false
open Go.RowKit Go.Proofs.Ytpfpmjdifnoeoaa.F Go.Proofs.YtpfpmjdifnoeoaaW.PrintWords Go.Proofs.YtpfpmjdifnoeoaaW.PrintLast Go.Proofs.YtpfpmjdifnoeoaaW.PrintMore
theorem riseM_iff : ∀ (l : List Int) (last : Int), riseM last l = true ↔ (last :: l).Pairwise (· < ·) ∧ ∀ x ∈ l, x ≤ 8
  | [], last => by simp [riseM]
  | x :: l, last => by
    rw [riseM]
    by_cases c1 : x ≤ last
    · rw [if_pos c1]
      refine ⟨fun h => absurd h (by simp), fun h => ?_⟩
      have := (List.pairwise_cons.mp h.1).1 x List.mem_cons_self
      omega
    rw [if_neg c1]
    by_cases c2 : x > 8
    · rw [if_pos c2]
      refine ⟨fun h => absurd h (by simp), fun h => ?_⟩
      have := h.2 x List.mem_cons_self
      omega
    rw [if_neg c2, riseM_iff l x]
    constructor
    · rintro ⟨h1, h2⟩
      refine ⟨List.pairwise_cons.mpr ⟨fun y hy => ?_, h1⟩, fun y hy => ?_⟩
      · rcases List.mem_cons.mp hy with rfl | hy
        · omega
        · have := (List.pairwise_cons.mp h1).1 y hy; omega
      · rcases List.mem_cons.mp hy with rfl | hy
        · omega
        · exact h2 y hy
    · rintro ⟨h1, h2⟩
      exact ⟨(List.pairwise_cons.mp h1).2, fun y hy => h2 y (List.mem_cons_of_mem _ hy)⟩
theorem up_len : ∀ (l : List Int) (a : Int), (a :: l).Pairwise (· < ·) → (∀ x ∈ l, x ≤ 8) → a ≤ 8 → (l.length : Int) ≤ 8 - a
  | [], a, _, _, h => by simp; omega
  | x :: l, a, h1, h2, h3 => by
    have h4 := List.pairwise_cons.mp h1
    have h5 := h4.1 x List.mem_cons_self
    have := up_len l x h4.2 (fun y hy => h2 y (List.mem_cons_of_mem _ hy)) (h2 x List.mem_cons_self)
    rw [List.length_cons]; omega
structure RightM (m : Msg) : Prop where
  rise : (0 :: m.ms).Pairwise (· < ·)
  ms : ∀ x ∈ m.ms, 1 ≤ x ∧ x ≤ 8
  len : m.ms.length ≤ 8
  put : (putF m.ts).2 = 0
  ie : 0 ≤ m.ie ∧ m.ie ≤ 2147483647
  ic : 0 ≤ m.ic ∧ m.ic ≤ 8
  oe : 0 ≤ m.oe ∧ m.oe ≤ 2147483647
  oc : 0 ≤ m.oc ∧ m.oc ≤ 8
  kind : 0 ≤ m.kind ∧ m.kind ≤ 20
  num : 0 ≤ m.num ∧ m.num ≤ 2147483647
theorem rightM_iff (m : Msg) : rightM m = true ↔ RightM m := by
  unfold rightM restB idB
  rw [Bool.and_eq_true, riseM_iff, decide_eq_true_eq, decide_eq_true_eq, decide_eq_true_eq]
  constructor
  · rintro ⟨⟨h1, h2⟩, h3, h4, h5, h6, h7, h8, h9⟩
    have h0 := (List.pairwise_cons.mp h1).1
    refine ⟨h1, fun x hx => ⟨by have := h0 x hx; omega, h2 x hx⟩, ?_, h3, ⟨h4.1, h4.2.1⟩, h4.2.2, ⟨h5.1, h5.2.1⟩, h5.2.2, ⟨h6, h7⟩, ⟨h8, h9⟩⟩
    have := up_len m.ms 0 h1 h2 (by omega)
    omega
  · rintro ⟨h1, h2, h3, h4, h5, h6, h7, h8, h9, h10⟩
    exact ⟨⟨h1, fun x hx => (h2 x hx).2⟩, h4, ⟨h5.1, h5.2, h6.1, h6.2⟩, ⟨h7.1, h7.2, h8.1, h8.2⟩, h9.1, h9.2, h10.1, h10.2⟩
theorem packM_codes (m : Msg) : (packM m).2 = 0 ∧ RightM m ∧ (packM m).1 = putOut (rowM m) ∧ rightB (putOut (rowM m)) = true ∧ (∀ x ∈ rowM m, rightB x = true) ∧ (rowM m).length ≤ 150 ∨ packM m = (⟨#[]⟩, 1) ∧ ¬ RightM m ∨ RightM m ∧ (packM m = (⟨#[]⟩, 1) ∨ packM m = (⟨#[]⟩, 3) ∨ packM m = (⟨#[]⟩, 4)) := by
  unfold packM
  by_cases h : rightM m = true
  · rw [if_pos h]
    have hr := (rightM_iff m).mp h
    rcases putF_codes (rowM m) with q | q
    · exact .inl ⟨q.1, hr, q.2.1, q.2.2⟩
    · exact .inr (.inr ⟨hr, q⟩)
  · rw [if_neg h]
    exact .inr (.inl ⟨rfl, fun q => h ((rightM_iff m).mpr q)⟩)
theorem packM_ok {m : Msg} (h : (packM m).2 = 0) : RightM m ∧ (packM m).1 = putOut (rowM m) ∧ rightB (putOut (rowM m)) = true ∧ (∀ x ∈ rowM m, rightB x = true) ∧ (rowM m).length ≤ 150 := by
  rcases packM_codes m with q | ⟨q, _⟩ | ⟨_, q | q | q⟩
  · exact q.2
  all_goals (rw [q] at h; exact absurd h (by decide))
theorem numsM_range {m : Msg} (h : RightM m) : ∀ x ∈ numsM m, 0 ≤ x ∧ x ≤ 2147483647 := by
  intro x hx
  have h1 := h.ie; have h2 := h.ic; have h3 := h.oe; have h4 := h.oc; have h5 := h.kind; have h6 := h.num; have h7 := h.len
  rcases List.mem_append.mp hx with hx | hx
  · simp at hx
    omega
  · have := h.ms x hx
    omega
theorem numW_in {n : Int} (h : 0 ≤ n ∧ n ≤ 2147483647) : numW n = numF n := by
  have w : IntKind.u64.wrap n = n % 18446744073709551616 := rfl
  unfold numW
  rw [w, Int.emod_eq_of_lt h.1 (by omega)]
theorem numW_inj {a b : Int} (ha : 0 ≤ a ∧ a ≤ 2147483647) (hb : 0 ≤ b ∧ b ≤ 2147483647) (h : numW a = numW b) : a = b := by
  rw [numW_in ha, numW_in hb] at h
  exact numF_inj ⟨ha.1, by omega⟩ ⟨hb.1, by omega⟩ h
theorem numW_map_inj : ∀ {a b : List Int}, (∀ x ∈ a, 0 ≤ x ∧ x ≤ 2147483647) → (∀ x ∈ b, 0 ≤ x ∧ x ≤ 2147483647) → a.map numW = b.map numW → a = b
  | [], [], _, _, _ => rfl
  | [], _ :: _, _, _, h => by simp at h
  | _ :: _, [], _, _, h => by simp at h
  | x :: a, y :: b, ha, hb, h => by
    simp only [List.map_cons, List.cons.injEq] at h
    rw [numW_inj (ha x List.mem_cons_self) (hb y List.mem_cons_self) h.1, numW_map_inj (fun z hz => ha z (List.mem_cons_of_mem _ hz)) (fun z hz => hb z (List.mem_cons_of_mem _ hz)) h.2]
theorem Msg.eq {a b : Msg} (h1 : a.kind = b.kind) (h2 : a.ie = b.ie) (h3 : a.ic = b.ic) (h4 : a.oe = b.oe) (h5 : a.oc = b.oc) (h6 : a.num = b.num) (h7 : a.ms = b.ms) (h8 : a.ts = b.ts) : a = b := by
  cases a; cases b; simp_all
theorem rowM_inj {a b : Msg} (ha : RightM a) (hb : RightM b) (h : rowM a = rowM b) : a = b := by
  have ga := numsM_range ha
  have gb := numsM_range hb
  unfold rowM at h
  have hl : a.ms.length = b.ms.length := by
    have h1 := congrArg (fun l => l[6]?) h
    simp [numsM] at h1
    have := numW_inj ⟨by omega, by have := ha.len; omega⟩ ⟨by omega, by have := hb.len; omega⟩ h1
    omega
  have h2 := List.append_inj h (by simp [numsM, hl])
  have h3 := numW_map_inj ga gb h2.1
  simp only [numsM, List.cons_append, List.nil_append, List.cons.injEq] at h3
  obtain ⟨e1, e2, e3, e4, e5, e6, _, e7⟩ := h3
  exact Msg.eq e1 e2 e3 e4 e5 e6 e7 h2.2
theorem packM_inj {a b : Msg} (ha : (packM a).2 = 0) (hb : (packM b).2 = 0) (h : (packM a).1 = (packM b).1) : a = b := by
  obtain ⟨a1, a2, a3, a4, a5⟩ := packM_ok ha
  obtain ⟨b1, b2, b3, b4, b5⟩ := packM_ok hb
  rw [a2, b2] at h
  have h1 := row_back (rowM a) 150 a4 a3 a5
  have h2 := row_back (rowM b) 150 b4 b3 b5
  rw [h, h2] at h1
  exact rowM_inj a1 b1 (congrArg Prod.fst h1).symm
theorem numW_size (n : Int) : (numW n).size = 9 := numF_size _
theorem numW_right (n : Int) : rightB (numW n) = true := num_right _
theorem putOut_cons2 (x : ByteArray) (l : List ByteArray) : putOut (x :: l) = (⟨#[112]⟩ : ByteArray) ++ x ++ putOut l := rfl
end Go.Proofs.Ytpfpmjdifnoeoaa.Pure
