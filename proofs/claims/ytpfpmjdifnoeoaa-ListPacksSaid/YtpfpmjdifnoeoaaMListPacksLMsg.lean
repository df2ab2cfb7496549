/- Plain facts about messages: what was packed is read as it was, and what was read is packed again. -/
import Derived.Test.YtpfpmjdifnoeoaaMListPacksLPack
import Derived.Test.YtpfpmjdifnoeoaaMListPacksLVals
import Derived.Test.YtpfpmjdifnoeoaaMListPacksF51
namespace Go.Proofs.Ytpfpmjdifnoeoaa.Pure
set_option linter.unusedVariables false
set_option linter.unusedSimpArgs false
open Go.RowKit Go.Proofs.Ytpfpmjdifnoeoaa.F Go.Proofs.YtpfpmjdifnoeoaaW.PrintWords Go.Proofs.YtpfpmjdifnoeoaaW.PrintLast Go.Proofs.YtpfpmjdifnoeoaaW.PrintMore
theorem count_bytes (c n : Int) : bt (countF c n) ((1 : Nat) : Int) = n / 72057594037927936 % 256 ∧ bt (countF c n) ((2 : Nat) : Int) = n / 281474976710656 % 256 ∧ bt (countF c n) ((3 : Nat) : Int) = n / 1099511627776 % 256 ∧ bt (countF c n) ((4 : Nat) : Int) = n / 4294967296 % 256 ∧ bt (countF c n) ((5 : Nat) : Int) = n / 16777216 % 256 ∧ bt (countF c n) ((6 : Nat) : Int) = n / 65536 % 256 ∧ bt (countF c n) ((7 : Nat) : Int) = n / 256 % 256 ∧ bt (countF c n) ((8 : Nat) : Int) = n % 256 := by
  refine ⟨?_, ?_, ?_, ?_, ?_, ?_, ?_, ?_⟩
  · exact (byte_back (shr .u64 n ((56 : Nat) : Int))).trans (by rw [shr_div n 56 (by omega)]; rfl)
  · exact (byte_back (shr .u64 n ((48 : Nat) : Int))).trans (by rw [shr_div n 48 (by omega)]; rfl)
  · exact (byte_back (shr .u64 n ((40 : Nat) : Int))).trans (by rw [shr_div n 40 (by omega)]; rfl)
  · exact (byte_back (shr .u64 n ((32 : Nat) : Int))).trans (by rw [shr_div n 32 (by omega)]; rfl)
  · exact (byte_back (shr .u64 n ((24 : Nat) : Int))).trans (by rw [shr_div n 24 (by omega)]; rfl)
  · exact (byte_back (shr .u64 n ((16 : Nat) : Int))).trans (by rw [shr_div n 16 (by omega)]; rfl)
  · exact (byte_back (shr .u64 n ((8 : Nat) : Int))).trans (by rw [shr_div n 8 (by omega)]; rfl)
  · exact (byte_back (shr .u64 n ((0 : Nat) : Int))).trans (by rw [shr_div n 0 (by omega)]; simp)
theorem digits8 (a1 a2 a3 a4 a5 a6 a7 a8 n : Int) (h1 : 0 ≤ a1 ∧ a1 ≤ 255) (h2 : 0 ≤ a2 ∧ a2 ≤ 255) (h3 : 0 ≤ a3 ∧ a3 ≤ 255) (h4 : 0 ≤ a4 ∧ a4 ≤ 255) (h5 : 0 ≤ a5 ∧ a5 ≤ 255) (h6 : 0 ≤ a6 ∧ a6 ≤ 255) (h7 : 0 ≤ a7 ∧ a7 ≤ 255) (h8 : 0 ≤ a8 ∧ a8 ≤ 255)
    (b2 b3 b4 b5 b6 b7 : Int) (e2 : b2 = a1 * 256 + a2) (e3 : b3 = b2 * 256 + a3) (e4 : b4 = b3 * 256 + a4) (e5 : b5 = b4 * 256 + a5) (e6 : b6 = b5 * 256 + a6) (e7 : b7 = b6 * 256 + a7) (e8 : n = b7 * 256 + a8) :
    n / 72057594037927936 % 256 = a1 ∧ n / 281474976710656 % 256 = a2 ∧ n / 1099511627776 % 256 = a3 ∧ n / 4294967296 % 256 = a4 ∧ n / 16777216 % 256 = a5 ∧ n / 65536 % 256 = a6 ∧ n / 256 % 256 = a7 ∧ n % 256 = a8 := by
  refine ⟨?_, ?_, ?_, ?_, ?_, ?_, ?_, ?_⟩ <;> omega
theorem num_back {t : ByteArray} (h : kindF t = 117) : t = numF (valF t).1 := by
  have hz := val_size (.inr h)
  have hb : bt t 0 = 117 := (kind_right h (by decide)).2
  have hv : (valF t).1 = decK t 8 := by unfold valF; rw [if_pos (.inr h)]
  obtain ⟨c1, c2, c3, c4, c5, c6, c7, c8⟩ := count_bytes 117 (valF t).1
  have r1 := bt_pos t ((1 : Nat) : Int)
  have r2 := bt_pos t ((2 : Nat) : Int)
  have r3 := bt_pos t ((3 : Nat) : Int)
  have r4 := bt_pos t ((4 : Nat) : Int)
  have r5 := bt_pos t ((5 : Nat) : Int)
  have r6 := bt_pos t ((6 : Nat) : Int)
  have r7 := bt_pos t ((7 : Nat) : Int)
  have r8 := bt_pos t ((8 : Nat) : Int)
  have d1 : decK t 1 = bt t ((1 : Nat) : Int) := by rw [decK, decK]; simp
  have d2 : decK t 2 = decK t 1 * 256 + bt t ((2 : Nat) : Int) := by rw [decK]
  have d3 : decK t 3 = decK t 2 * 256 + bt t ((3 : Nat) : Int) := by rw [decK]
  have d4 : decK t 4 = decK t 3 * 256 + bt t ((4 : Nat) : Int) := by rw [decK]
  have d5 : decK t 5 = decK t 4 * 256 + bt t ((5 : Nat) : Int) := by rw [decK]
  have d6 : decK t 6 = decK t 5 * 256 + bt t ((6 : Nat) : Int) := by rw [decK]
  have d7 : decK t 7 = decK t 6 * 256 + bt t ((7 : Nat) : Int) := by rw [decK]
  have d8 : decK t 8 = decK t 7 * 256 + bt t ((8 : Nat) : Int) := by rw [decK]
  rw [← hv] at d8
  obtain ⟨g1, g2, g3, g4, g5, g6, g7, g8⟩ := digits8 _ _ _ _ _ _ _ _ _ r1 r2 r3 r4 r5 r6 r7 r8 _ _ _ _ _ _ (d2.trans (by rw [d1])) d3 d4 d5 d6 d7 d8
  clear r1 r2 r3 r4 r5 r6 r7 r8 d1 d2 d3 d4 d5 d6 d7 d8
  refine ext_bt (by rw [hz]; rfl) fun j hj => ?_
  rw [hz] at hj
  have : j = 0 ∨ j = 1 ∨ j = 2 ∨ j = 3 ∨ j = 4 ∨ j = 5 ∨ j = 6 ∨ j = 7 ∨ j = 8 := by omega
  rcases this with rfl | rfl | rfl | rfl | rfl | rfl | rfl | rfl | rfl
  · exact hb
  · exact (c1.trans g1).symm
  · exact (c2.trans g2).symm
  · exact (c3.trans g3).symm
  · exact (c4.trans g4).symm
  · exact (c5.trans g5).symm
  · exact (c6.trans g6).symm
  · exact (c7.trans g7).symm
  · exact (c8.trans g8).symm
theorem numK_ok : ∀ (l : List ByteArray), (numK l).2 = true → l = (numK l).1.map numW ∧ (numK l).1.length = l.length ∧ ∀ x ∈ (numK l).1, 0 ≤ x ∧ x ≤ 2147483647
  | [], _ => ⟨rfl, rfl, by simp [numK]⟩
  | t :: l, h => by
    rw [numK] at h ⊢
    split at h
    case isFalse => exact absurd h (by decide)
    rename_i c
    rw [if_pos c]
    split at h
    case isFalse => exact absurd h (by decide)
    rename_i d
    rw [if_pos d]
    obtain ⟨h1, h2, h3⟩ := numK_ok l d
    have hr : 0 ≤ (valF t).1 ∧ (valF t).1 ≤ 2147483647 := ⟨valF_pos t, c.2.1⟩
    refine ⟨?_, by simp [h2], ?_⟩
    · show t :: l = numW (valF t).1 :: (numK l).1.map numW
      rw [← h1, numW_in hr, ← num_back c.2.2]
    · intro x hx
      rcases List.mem_cons.mp hx with rfl | hx
      · exact hr
      · exact h3 x hx
theorem kind_num (n : Int) : kindF (numF n) = 117 := (kind_leaf (num_leaf n) (by rw [numF_size]; omega)).trans rfl
theorem numK_of : ∀ (ns : List Int), (∀ x ∈ ns, 0 ≤ x ∧ x ≤ 2147483647) → numK (ns.map numW) = (ns, true)
  | [], _ => rfl
  | n :: ns, h => by
    have hn := h n List.mem_cons_self
    rw [List.map_cons, numK, numW_in hn, val_num hn.1 (by omega), kind_num, if_pos ⟨rfl, hn.2, rfl⟩, numK_of ns (fun x hx => h x (List.mem_cons_of_mem _ hx))]
    rfl
theorem unpack_codes (t : ByteArray) : (unpackM t).2 = 0 ∨ unpackM t = (zeroM, 2) := by
  unfold unpackM
  repeat' split
  all_goals first | exact .inl rfl | exact .inr rfl
theorem unpack_sound {t : ByteArray} (h : (unpackM t).2 = 0) : packM (unpackM t).1 = (t, 0) ∧ RightM (unpackM t).1 := by
  unfold unpackM at h ⊢
  split at h
  case isFalse => exact absurd h (by decide)
  rename_i c1
  rw [if_pos c1]
  split at h
  case isFalse => exact absurd h (by decide)
  rename_i c2
  rw [if_pos c2]
  split at h
  case isFalse => exact absurd h (by decide)
  rename_i c3
  rw [if_pos c3]
  clear h
  have hr := (rightM_iff _).mp c3.2
  refine ⟨?_, hr⟩
  obtain ⟨s1, s2, s3⟩ := row_sound 150 t c1.1
  have ht : rightB t = true := by
    have h0 := c1.1
    have h7 := c1.2
    rw [rowN] at h0 h7
    split at h7
    · exact absurd h7 (by simp)
    · rename_i q
      rw [if_neg q] at h0
      split at h0
      · rename_i q2; exact (kind_right q2 (by decide)).1
      · exact absurd h0 (by decide)
  generalize (rowN 150 t).1 = l at c1 c2 c3 hr s1 s2 s3
  obtain ⟨a1, a2, a3⟩ := numK_ok _ c2.1
  obtain ⟨b1, b2, b3⟩ := numK_ok _ c3.1
  show packM (msgOf l) = (t, 0)
  have hl7 : (l.take 7).length = 7 := by rw [List.length_take]; omega
  have hm0 : 0 ≤ rd (numK (l.take 7)).1 6 := by
    refine (a3 _ ?_).1
    unfold rd
    rw [List.getD_eq_getElem?_getD, List.getElem?_eq_getElem (by rw [a2, hl7]; decide)]
    exact List.getElem_mem _
  have hm1 : rd (numK (l.take 7)).1 6 ≤ (l.length : Int) - 7 ∧ rd (numK (l.take 7)).1 6 ≤ 8 := by
    have := c2.2
    unfold mn at this
    split at this <;> omega
  have hrow : rowM (msgOf l) = l := by
    have hms : (msgOf l).ms.length = (rd (numK (l.take 7)).1 6).toNat := by
      show (numK ((l.drop 7).take (rd (numK (l.take 7)).1 6).toNat)).1.length = _
      rw [b2, List.length_take, List.length_drop]; omega
    have hn : numsM (msgOf l) = (numK (l.take 7)).1 ++ (numK ((l.drop 7).take (rd (numK (l.take 7)).1 6).toNat)).1 := by
      have e7 : ∀ (n : List Int), n.length = 7 → n = [rd n 0, rd n 1, rd n 2, rd n 3, rd n 4, rd n 5, rd n 6] := by
        intro n hn
        match n, hn with
        | [x0, x1, x2, x3, x4, x5, x6], _ => rfl
      have h1 := e7 (numK (l.take 7)).1 (by rw [a2, hl7])
      have h2 : ((msgOf l).ms.length : Int) = rd (numK (l.take 7)).1 6 := by rw [hms]; omega
      unfold numsM
      rw [h2]
      conv => rhs; rw [h1]
      rfl
    unfold rowM
    rw [hn, List.map_append, ← a1, ← b1]
    show l.take 7 ++ (l.drop 7).take (rd (numK (l.take 7)).1 6).toNat ++ l.drop (7 + (rd (numK (l.take 7)).1 6).toNat) = l
    rw [← List.drop_drop, List.append_assoc, List.take_append_drop, List.take_append_drop]
  unfold packM
  rw [if_pos c3.2, hrow, putF_right s3 s2, s1, if_neg (by have := ((right_iff t).mp ht).2; omega), if_pos ht]
theorem unpack_pack {m : Msg} (h : (packM m).2 = 0) : unpackM (packM m).1 = (m, 0) := by
  obtain ⟨a1, a2, a3, a4, a5⟩ := packM_ok h
  rw [a2]
  have hr := row_back (rowM m) 150 a4 a3 a5
  have hn := numsM_range a1
  have hl : (rowM m).length = 7 + m.ms.length + m.ts.length := by simp [rowM, numsM]; omega
  have h7 : (rowM m).take 7 = [m.kind, m.ie, m.ic, m.oe, m.oc, m.num, (m.ms.length : Int)].map numW := by simp [rowM, numsM]
  have d7 : (rowM m).drop 7 = m.ms.map numW ++ m.ts := by simp [rowM, numsM]
  have k7 := numK_of [m.kind, m.ie, m.ic, m.oe, m.oc, m.num, (m.ms.length : Int)] (fun x hx => hn x (List.mem_append_left _ hx))
  have kms := numK_of m.ms (fun x hx => hn x (List.mem_append_right _ hx))
  have hm : msgOf (rowM m) = m := by
    have e6 : rd (numK ((rowM m).take 7)).1 6 = (m.ms.length : Int) := by rw [h7, k7]; rfl
    unfold msgOf
    rw [e6]
    have t1 : ((rowM m).drop 7).take ((m.ms.length : Int)).toNat = m.ms.map numW := by rw [d7]; simp
    have t2 : (rowM m).drop (7 + ((m.ms.length : Int)).toNat) = m.ts := by rw [← List.drop_drop, d7]; simp
    rw [t1, t2, kms, h7, k7]
    rfl
  have hA : (numK (((rowM m).drop 7).take (rd (numK ((rowM m).take 7)).1 6).toNat)).2 = true := by
    have e6 : rd (numK ((rowM m).take 7)).1 6 = (m.ms.length : Int) := by rw [h7, k7]; rfl
    have t1 : ((rowM m).drop 7).take ((m.ms.length : Int)).toNat = m.ms.map numW := by rw [d7]; simp
    rw [e6, t1, kms]
  have hB : rightM (msgOf (rowM m)) = true := by rw [hm]; exact (rightM_iff m).mpr a1
  unfold unpackM
  rw [hr]
  have e6 : rd (numK ((rowM m).take 7)).1 6 = (m.ms.length : Int) := by rw [h7, k7]; rfl
  rw [if_pos ⟨rfl, by show 7 ≤ (rowM m).length; omega⟩, if_pos ⟨by show (numK ((rowM m).take 7)).2 = true; rw [h7, k7], by
    show rd (numK ((rowM m).take 7)).1 6 ≤ mn (((rowM m).length : Int) - 7) 8
    rw [e6]
    have := a1.len
    unfold mn
    split <;> omega⟩, if_pos ⟨hA, hB⟩]
  show (msgOf (rowM m), (0 : Int)) = _
  rw [hm]
theorem unpack_iff (t : ByteArray) (m : Msg) : unpackM t = (m, 0) ↔ packM m = (t, 0) := by
  constructor
  · intro h
    have := unpack_sound (t := t) (by rw [h])
    rw [h] at this
    exact this.1
  · intro h
    have := unpack_pack (m := m) (by rw [h])
    rw [h] at this
    exact this
end Go.Proofs.Ytpfpmjdifnoeoaa.Pure
