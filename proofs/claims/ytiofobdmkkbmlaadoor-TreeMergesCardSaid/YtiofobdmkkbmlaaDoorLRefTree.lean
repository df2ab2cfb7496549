/- The document's functions on trees, over plain trees. -/
import Derived.Test.YtiofobdmkkbmlaaDoorLRefTen
import Derived.Test.YtiofobdmkkbmlaaDoorB7
namespace Go.Proofs.YtiofobdmkkbmlaaDoor.Pure
set_option linter.unusedVariables false
set_option linter.unusedSimpArgs false
open Go.RowKit Go.Proofs.YtiofobdmkkbmlaaDoor.F Go.Proofs.YtiofobdmkkbmlaaDoorW.PrintWords Go.Proofs.YtiofobdmkkbmlaaDoorW.PrintLast Go.Proofs.YtiofobdmkkbmlaaDoorW.PrintMore

theorem bt_nat (s : ByteArray) (i : Nat) {c : UInt8} {r : List UInt8} (h : s.data.toList.drop i = c :: r) : bt s (i : Int) = (c.toNat : Int) := by
  have h1 : i < s.data.toList.length := by
    have := congrArg List.length h
    rw [List.length_drop, List.length_cons] at this
    omega
  have hi : (i : Int).toNat < s.size := by
    show (i : Int).toNat < s.data.size
    simpa using h1
  have e : s.data.toList[i] = c := by
    rw [List.drop_eq_getElem_cons h1] at h
    injection h
  unfold bt
  rw [dif_pos hi]
  have : (s[(i : Int).toNat]'hi) = c := by
    rw [← e]
    simp [ByteArray.getElem_eq_getElem_data]
  rw [this]
theorem drop_lt {s : ByteArray} {i : Nat} {c : UInt8} {r : List UInt8} (h : s.data.toList.drop i = c :: r) : i < s.size ∧ s.data.toList.drop (i + 1) = r ∧ r.length + i + 1 = s.size := by
  have h0 := congrArg List.length h
  rw [List.length_drop, List.length_cons] at h0
  have hs : s.data.toList.length = s.size := rfl
  refine ⟨by omega, ?_, by omega⟩
  have := congrArg (List.drop 1) h
  rw [List.drop_drop] at this
  simpa using this
theorem drop_nil {s : ByteArray} {i : Nat} (h : s.data.toList.drop i = []) : s.size ≤ i := by
  have h0 := congrArg List.length h
  rw [List.length_drop, List.length_nil] at h0
  have hs : s.data.toList.length = s.size := rfl
  omega
/-- The digits of a text. -/
def digL : List UInt8 → List Int
  | [] => []
  | c :: l => if 49 ≤ c.toNat ∧ c.toNat ≤ 56 then ((c.toNat : Int) - 48) :: digL l else digL l
theorem digits_go (s : ByteArray) (hs : s.size ≤ 1000) : ∀ (d k i : Nat) (out : List Int), i + d = s.size → d < k → out.length ≤ i → gemotref13_digits.l0 k s out i = some (out ++ digL (s.data.toList.drop i))
  | 0, k + 1, i, out, hi, hk, ho => by
    rw [gemotref13_digits.l0, if_neg (by omega)]
    have hs2 : s.data.toList.length = s.size := rfl
    rw [List.drop_eq_nil_of_le (by omega)]
    simp [digL]
  | d + 1, k + 1, i, out, hi, hk, ho => by
    cases hd : s.data.toList.drop i with
    | nil => have := drop_nil hd; omega
    | cons c r =>
      obtain ⟨h1, h2, h3⟩ := drop_lt hd
      have hw : wrap64 ((i : Int) + 1) = ((i + 1 : Nat) : Int) := wr_next (n := s.size) (by omega) (by omega)
      rw [gemotref13_digits.l0, if_pos (by omega), if_pos (by omega), bt_nat s i hd, hw, digL]
      by_cases a : (c.toNat : Int) ≥ 49
      · rw [if_pos a]
        by_cases b : (c.toNat : Int) ≤ 56
        · have hm : ((c.toNat : Int) - 48) % 256 = (c.toNat : Int) - 48 := by omega
          rw [if_pos b, if_pos (by omega), if_pos (show 49 ≤ c.toNat ∧ c.toNat ≤ 56 by omega), hm, digits_go s hs d k (i + 1) _ (by omega) (by omega) (by rw [List.length_append, List.length_singleton]; omega), h2, List.append_assoc]
          rfl
        · rw [if_neg b, if_neg (show ¬ (49 ≤ c.toNat ∧ c.toNat ≤ 56) by omega), digits_go s hs d k (i + 1) _ (by omega) (by omega) (by omega), h2]
      · rw [if_neg a, if_neg (show ¬ (49 ≤ c.toNat ∧ c.toNat ≤ 56) by omega), digits_go s hs d k (i + 1) _ (by omega) (by omega) (by omega), h2]
theorem digits_f (s : ByteArray) (hs : s.size ≤ 1000) (k : Nat) (hk : s.size < k) : gemotref13_digits.f k s = some (digL s.data.toList) := by
  have := digits_go s hs s.size k 0 [] (by omega) hk (by simp)
  rw [List.drop_zero, List.nil_append] at this
  exact this
theorem digL_cat : ∀ (a b : List UInt8), digL (a ++ b) = digL a ++ digL b
  | [], b => rfl
  | c :: a, b => by
    rw [List.cons_append, digL, digL, digL_cat a b]
    split <;> rfl
theorem digL_tree : ∀ (t : Tr), t.Ok → digL t.bytes = t.leaves
  | .leaf p, h => by
    have hp := h p (List.mem_singleton.mpr rfl)
    have hb := leaf_byte hp
    rw [Tr.bytes, digL, if_pos (by omega), hb, digL, Tr.leaves]
    congr 1
    omega
  | .node l r, h => by
    rw [Tr.bytes, digL, if_neg (by decide), digL_cat, digL_cat, digL_tree l h.left, digL_tree r h.right, Tr.leaves]
    have : digL [41] = [] := rfl
    rw [this, List.append_nil]
theorem digits_t {t : Tr} (h : t.Ok) (hs : t.text.size ≤ 1000) (k : Nat) (hk : t.text.size < k) : gemotref13_digits.f k t.text = some t.leaves := by
  rw [digits_f _ hs k hk]
  exact congrArg some (digL_tree t h)
/-- Where the tree ends that begins at a place. -/
def endL (s : ByteArray) (i : Nat) : Int := match prs (s.data.toList.drop i) with
  | none => -1
  | some (_, r) => ((s.size - r.length : Nat) : Int)
theorem prs_rest {s : ByteArray} {i : Nat} {t : Tr} {r : List UInt8} (h : prs (s.data.toList.drop i) = some (t, r)) : s.data.toList.drop (s.size - r.length) = r ∧ i < s.size - r.length ∧ s.size - r.length ≤ s.size ∧ r.length ≤ s.size := by
  have h1 := (prs_sound h).1
  have h2 := prs_len h
  have hs : s.data.toList.length = s.size := rfl
  rw [List.length_drop] at h2
  have h3 := congrArg List.length h1
  rw [List.length_drop, List.length_append] at h3
  refine ⟨?_, by omega, by omega, by omega⟩
  have h4 : s.size - r.length = i + t.bytes.length := by have := t.bytes_pos; omega
  rw [h4, ← List.drop_drop, h1, List.drop_left]
theorem end_f (s : ByteArray) (hs : s.size ≤ 1000) : ∀ (n k i : Nat), s.size - i ≤ n → 2 * n + 4 ≤ k → gemotref13_End.f k s i = some (endL s i)
  | n, 0, i, hn, hk => absurd hk (by omega)
  | n, 1, i, hn, hk => absurd hk (by omega)
  | n, k + 2, i, hn, hk => by
    unfold endL
    rw [gemotref13_End.f]
    cases hd : s.data.toList.drop i with
    | nil =>
      have := drop_nil hd
      rw [if_pos (by omega), prs_nil]
    | cons c r =>
      obtain ⟨h1, h2, h3⟩ := drop_lt hd
      have hw : wrap64 ((i : Int) + 1) = ((i + 1 : Nat) : Int) := wr_next (n := s.size) (by omega) (by omega)
      rw [if_neg (by omega), if_pos (by omega), if_pos (by omega), bt_nat s i hd, prs_cons]
      have hj : ∀ b : Bool, (if (c.toNat : Int) ≥ 49 then gemotref13_End.j0 (k + 1) s i (decide ((c.toNat : Int) ≤ 56)) else gemotref13_End.j0 (k + 1) s i false) = gemotref13_End.j0 (k + 1) s i (decide (49 ≤ c.toNat ∧ c.toNat ≤ 56)) := fun _ => by
        by_cases a : (c.toNat : Int) ≥ 49
        · rw [if_pos a]
          by_cases b : (c.toNat : Int) ≤ 56
          · rw [decide_eq_true b, decide_eq_true (by omega)]
          · rw [decide_eq_false b, decide_eq_false (by omega)]
        · rw [if_neg a, decide_eq_false (by omega)]
      rw [hj true, gemotref13_End.j0]
      by_cases a : 49 ≤ c.toNat ∧ c.toNat ≤ 56
      · rw [if_pos (decide_eq_true a), if_pos a, hw]
        simp only
        congr 1
        omega
      · rw [if_neg (by rw [decide_eq_false a]; decide), if_neg a, if_pos (by omega), if_pos (by omega), bt_nat s i hd]
        by_cases b : c.toNat = 40
        · obtain ⟨n, rfl⟩ : ∃ m, n = m + 1 := ⟨n - 1, by omega⟩
          rw [if_pos (by omega), if_pos b, hw, end_f s hs n k (i + 1) (by omega) (by omega), Option.bind_some]
          unfold endL
          rw [h2]
          cases hp : prs r with
          | none => simp
          | some x =>
            obtain ⟨t1, r1⟩ := x
            rw [← h2] at hp
            obtain ⟨e1, e2, e3, e4⟩ := prs_rest hp
            simp only
            rw [if_neg (by omega), end_f s hs n k _ (by omega) (by omega), Option.bind_some]
            unfold endL
            rw [e1]
            cases hp2 : prs r1 with
            | none => simp
            | some x =>
              obtain ⟨t2, r2⟩ := x
              rw [← e1] at hp2
              obtain ⟨g1, g2, g3, g4⟩ := prs_rest hp2
              simp only
              rw [if_neg (by omega)]
              cases r2 with
              | nil =>
                rw [List.length_nil, Nat.sub_zero, if_pos (by omega)]
              | cons d r3 =>
                generalize s.size - (d :: r3).length = e at g1 g2 g3 ⊢
                obtain ⟨k1, k2, k3⟩ := drop_lt g1
                clear g4 g2 g3 e4 e3 e2 hk hn h3
                have hw2 : wrap64 ((e : Int) + 1) = ((e + 1 : Nat) : Int) := wr_next (n := s.size) k1 (by omega)
                have l1 : ¬ (e : Int) ≥ (s.size : Int) := by omega
                have l2 : (e : Int) < (s.size : Int) := by omega
                have l3 : e + 1 = s.size - r3.length := by omega
                rw [if_neg l1, if_pos (Int.natCast_nonneg e), if_pos l2, bt_nat s _ g1, hw2, l3]
                simp only
                by_cases q : d.toNat = 41
                · rw [if_pos (show (d.toNat : Int) = 41 by omega), if_pos q]
                · rw [if_neg (show ¬ (d.toNat : Int) = 41 by omega), if_neg q]
        · rw [if_neg (by omega), if_neg b]
end Go.Proofs.YtiofobdmkkbmlaaDoor.Pure
