/- Plain facts about the format's terms: what a text says, read at a place. -/
import Derived.Test.YtpfpmjdifnoeoaaF66
import Derived.Test.YtpfpmjdifnoeoaaF84
namespace Go.Proofs.Ytpfpmjdifnoeoaa.Pure
open Go.RowKit Go.Proofs.Ytpfpmjdifnoeoaa.F Go.Proofs.YtpfpmjdifnoeoaaW.PrintWords Go.Proofs.YtpfpmjdifnoeoaaW.PrintLast

theorem up_le {α : Type} {f : Nat → Option α} (h : ∀ k, LeO (f k) (f (k + 1))) {k k' : Nat} (hk : k ≤ k') {r : α} (e : f k = some r) : f k' = some r := by
  obtain ⟨d, rfl⟩ : ∃ d, k' = k + d := ⟨k' - k, by omega⟩
  clear hk
  induction d with
  | zero => exact e
  | succ d ih => exact h _ r ih

/-! ### Bytes -/
theorem bt_nat (s : ByteArray) (j : Nat) (h : j < s.size) : bt s j = ((s[j]'h).toNat : Int) := by
  unfold bt
  rw [dif_pos (by simpa using h)]
  simp
theorem bt_big (s : ByteArray) (j : Nat) (h : s.size ≤ j) : bt s j = 0 := by
  unfold bt
  rw [dif_neg (by simpa using h)]
theorem ext_bt {a b : ByteArray} (hs : a.size = b.size) (h : ∀ j : Nat, j < a.size → bt a j = bt b j) : a = b := by
  apply ByteArray.ext
  apply Array.ext
  · exact hs
  · intro i h1 h2
    have := h i h1
    rw [bt_nat a i h1, bt_nat b i h2] at this
    exact UInt8.toNat_inj.mp (by exact_mod_cast this)
theorem bt_left (a b : ByteArray) (j : Nat) (h : j < a.size) : bt (a ++ b) j = bt a j := by
  have h2 : j < (a ++ b).size := by rw [ByteArray.size_append]; omega
  rw [bt_nat _ _ h2, bt_nat _ _ h]
  congr 2
  exact ByteArray.getElem_append_left h
theorem bt_right (a b : ByteArray) (j : Nat) (h : j < b.size) : bt (a ++ b) ((a.size + j : Nat) : Int) = bt b j := by
  have h2 : a.size + j < (a ++ b).size := by rw [ByteArray.size_append]; omega
  rw [bt_nat _ _ h2, bt_nat _ _ h]
  congr 2
  rw [ByteArray.getElem_append_right (by omega)]
  congr 1
  omega
theorem bt_extract (s : ByteArray) (i e j : Nat) (h : i + j < e) (h2 : e ≤ s.size) : bt (s.extract i e) j = bt s ((i + j : Nat) : Int) := by
  have h3 : j < (s.extract i e).size := by rw [ByteArray.size_extract]; omega
  rw [bt_nat _ _ h3, bt_nat _ _ (show i + j < s.size by omega), ByteArray.getElem_extract]

/-! ### A text lies in another one -/
structure Lies (s t : ByteArray) (a : Nat) : Prop where
  size : a + t.size ≤ s.size
  at_ : ∀ j : Nat, j < t.size → bt s ((a + j : Nat) : Int) = bt t j
theorem Lies.refl (s : ByteArray) : Lies s s 0 := ⟨by omega, fun j _ => by rw [Nat.zero_add]⟩
theorem Lies.mid (a b c : ByteArray) : Lies (a ++ b ++ c) b a.size := by
  refine ⟨by rw [ByteArray.size_append, ByteArray.size_append]; omega, fun j hj => ?_⟩
  rw [bt_left _ _ _ (by rw [ByteArray.size_append]; omega), bt_right _ _ _ hj]
theorem Lies.last (a b : ByteArray) : Lies (a ++ b) b a.size := ⟨by rw [ByteArray.size_append]; omega, fun j hj => bt_right _ _ _ hj⟩
theorem Lies.first (a b : ByteArray) : Lies (a ++ b) a 0 := ⟨by rw [ByteArray.size_append]; omega, fun j hj => by rw [Nat.zero_add]; exact bt_left _ _ _ hj⟩
theorem Lies.trans {s t u : ByteArray} {a b : Nat} (h : Lies s t a) (k : Lies t u b) : Lies s u (a + b) :=
  ⟨by have := h.size; have := k.size; omega, fun j hj => by have := k.size; rw [Nat.add_assoc, h.at_ _ (by omega), k.at_ j hj]⟩
theorem Lies.extract {s t : ByteArray} {a : Nat} (h : Lies s t a) (i e : Nat) (he : e ≤ t.size) : s.extract (a + i) (a + e) = t.extract i e := by
  have hz := h.size
  have e1 : (s.extract (a + i) (a + e)).size = (t.extract i e).size := by rw [ByteArray.size_extract, ByteArray.size_extract]; omega
  refine ext_bt e1 fun j hj => ?_
  rw [ByteArray.size_extract] at hj
  rw [bt_extract _ _ _ _ (by omega) (by omega), bt_extract _ _ _ _ (by omega) he, Nat.add_assoc, h.at_ _ (by omega)]
theorem Lies.whole {s t : ByteArray} {a : Nat} (h : Lies s t a) : s.extract a (a + t.size) = t := by
  have := h.extract 0 t.size (Nat.le_refl _)
  rw [Nat.add_zero, extract_all] at this
  exact this
theorem lies_extract (s : ByteArray) (i e : Nat) (h : i ≤ e) (he : e ≤ s.size) : Lies s (s.extract i e) i := by
  refine ⟨by rw [ByteArray.size_extract]; omega, fun j hj => ?_⟩
  rw [ByteArray.size_extract] at hj
  rw [bt_extract _ _ _ _ (by omega) he]

/-! ### A place's leaf, and what begins there: in s as in what lies in it -/
theorem leaf_lies {s t : ByteArray} {a : Nat} (h : Lies s t a) (i : Nat) (hi : i < t.size) (hl : leafF (t.extract i t.size) ≠ 0) : leafF (s.extract (a + i) s.size) = leafF (t.extract i t.size) := by
  have hz := h.size
  have hb : ∀ j : Nat, i + j < t.size → bt (s.extract (a + i) s.size) (j : Int) = bt (t.extract i t.size) (j : Int) := by
    intro j hj
    rw [bt_extract _ _ _ _ (by omega) (Nat.le_refl _), bt_extract _ _ _ _ (by omega) (Nat.le_refl _), Nat.add_assoc, h.at_ _ hj]
  have b0 := hb 0 (by omega)
  have b1 : 1 < (t.extract i t.size).size → _ := fun q => hb 1 (by rw [ByteArray.size_extract] at q; omega)
  have b2 : 2 < (t.extract i t.size).size → bt (s.extract (a + i) s.size) 2 = bt (t.extract i t.size) 2 := fun q => hb 2 (by rw [ByteArray.size_extract] at q; omega)
  have z1 : (t.extract i t.size).size = t.size - i := by rw [ByteArray.size_extract]; omega
  have z2 : (s.extract (a + i) s.size).size = s.size - (a + i) := by rw [ByteArray.size_extract]; omega
  simp only [Int.natCast_zero, Int.natCast_one] at b0 b1 b2
  unfold leafF at hl ⊢
  rw [b0]
  rw [z1] at hl b1 b2 ⊢
  rw [z2]
  by_cases k1 : bt (t.extract i t.size) 0 = 103
  · rw [if_pos k1, if_pos k1]
  rw [if_neg k1] at hl ⊢; rw [if_neg k1]
  by_cases k2 : bt (t.extract i t.size) 0 = 110 ∨ bt (t.extract i t.size) 0 = 117
  · rw [if_pos k2] at hl ⊢; rw [if_pos k2]
    by_cases c : 9 ≤ t.size - i
    · rw [if_pos c, if_pos (by omega)]
    · rw [if_neg c] at hl; exact absurd rfl hl
  rw [if_neg k2] at hl ⊢; rw [if_neg k2]
  by_cases k3 : bt (t.extract i t.size) 0 = 105
  · rw [if_pos k3] at hl ⊢; rw [if_pos k3]
    by_cases c : 1 < t.size - i ∧ 1 ≤ bt (t.extract i t.size) 1 ∧ bt (t.extract i t.size) 1 ≤ 8
    · rw [if_pos c, if_pos (by rw [b1 c.1]; omega)]
    · rw [if_neg c] at hl; exact absurd rfl hl
  rw [if_neg k3] at hl ⊢; rw [if_neg k3]
  by_cases k4 : bt (t.extract i t.size) 0 = 116
  · rw [if_pos k4] at hl ⊢; rw [if_pos k4]
    by_cases c : 3 ≤ t.size - i ∧ bt (t.extract i t.size) 1 = 0 ∧ bt (t.extract i t.size) 2 ≤ 100 ∧ 3 + bt (t.extract i t.size) 2 ≤ ((t.size - i : Nat) : Int)
    · rw [if_pos c, b1 (by omega), b2 (by omega), if_pos (by omega)]
    · rw [if_neg c] at hl; exact absurd rfl hl
  rw [if_neg k4] at hl
  exact absurd rfl hl
theorem leaf_first {s : ByteArray} {i : Nat} (hi : i < s.size) (h : leafF (s.extract i s.size) ≠ 0) : bt s i = 103 ∨ bt s i = 110 ∨ bt s i = 117 ∨ bt s i = 105 ∨ bt s i = 116 := by
  have b0 := bt_extract s i s.size 0 (by omega) (Nat.le_refl _)
  simp only [Int.natCast_zero, Nat.add_zero] at b0
  unfold leafF at h
  rw [b0] at h
  repeat' split at h
  all_goals first | omega | (exact absurd rfl h)
theorem begin_first {s : ByteArray} {i : Int} (h : (beginF s i).2.2.2.2.2.2 = true) : bt s i = 107 ∨ bt s i = 104 ∨ bt s i = 112 ∨ bt s i = 120 ∨ bt s i = 115 ∨ bt s i = 101 := by
  unfold beginF at h
  repeat' split at h
  all_goals first | omega | (exact absurd h (by simp))
theorem leaf_not {s : ByteArray} {i : Nat} (hi : i < s.size) (h : (beginF s i).2.2.2.2.2.2 = true) : leafF (s.extract i s.size) = 0 := by
  have h1 := begin_first h
  by_cases c : leafF (s.extract i s.size) = 0
  · exact c
  · have h2 := leaf_first hi c
    omega
theorem begin_lies {s t : ByteArray} {a : Nat} (h : Lies s t a) (i : Nat) (hi : i < t.size) (hb : (beginF t i).2.2.2.2.2.2 = true) :
    beginF s ((a + i : Nat) : Int) = ((beginF t i).1, (beginF t i).2.1, (beginF t i).2.2.1, a + (beginF t i).2.2.2.1, (beginF t i).2.2.2.2.1, a + (beginF t i).2.2.2.2.2.1, true) := by
  have hz := h.size
  have b0 := h.at_ i hi
  have e1 : ((a + i : Nat) : Int) + 1 = ((a + (i + 1) : Nat) : Int) := by omega
  have e1t : (i : Int) + 1 = ((i + 1 : Nat) : Int) := by omega
  have b1 : i + 1 < t.size → bt s (((a + i : Nat) : Int) + 1) = bt t ((i : Int) + 1) := fun q => by rw [e1, e1t]; exact h.at_ (i + 1) q
  unfold beginF at hb ⊢
  rw [b0]
  by_cases k1 : bt t i = 107
  · rw [if_pos k1] at hb ⊢; rw [if_pos k1]
    by_cases c : (i : Int) + 1 < (t.size : Int) ∧ (bt t ((i : Int) + 1) = 103 ∨ bt t ((i : Int) + 1) = 101)
    · rw [if_pos c, if_pos (by rw [b1 (by omega)]; exact ⟨by omega, c.2⟩)]
      simp only [Prod.mk.injEq, true_and, and_true]; omega
    · rw [if_neg c] at hb; exact absurd hb (by simp)
  rw [if_neg k1] at hb ⊢; rw [if_neg k1]
  by_cases k2 : bt t i = 104
  · rw [if_pos k2] at hb ⊢; rw [if_pos k2]; simp only [Prod.mk.injEq, true_and, and_true]; omega
  rw [if_neg k2] at hb ⊢; rw [if_neg k2]
  by_cases k3 : bt t i = 112 ∨ bt t i = 120
  · rw [if_pos k3] at hb ⊢; rw [if_pos k3]; simp only [Prod.mk.injEq, true_and, and_true]; omega
  rw [if_neg k3] at hb ⊢; rw [if_neg k3]
  by_cases k4 : bt t i = 115
  · rw [if_pos k4] at hb ⊢; rw [if_pos k4]; simp only [Prod.mk.injEq, true_and, and_true]; omega
  rw [if_neg k4] at hb ⊢; rw [if_neg k4]
  by_cases k5 : bt t i = 101
  · rw [if_pos k5] at hb ⊢; rw [if_pos k5]
    by_cases c : (i : Int) + 1 < (t.size : Int) ∧ 1 ≤ bt t ((i : Int) + 1) ∧ bt t ((i : Int) + 1) ≤ 32
    · rw [if_pos c, if_pos (by rw [b1 (by omega)]; exact ⟨by omega, c.2⟩), b1 (by omega)]
      simp only [Prod.mk.injEq, true_and, and_true]; omega
    · rw [if_neg c] at hb; exact absurd hb (by simp)
  rw [if_neg k5] at hb
  exact absurd hb (by simp)

/-! ### Where a term ends: in s as in what lies in it -/
theorem parts_lies {s t : ByteArray} {a : Nat} (h : Lies s t a) (pow : Bool) (p q : Int → Int × Int × Int)
    (hq : ∀ i : Int, 0 ≤ i → (q i).2.2 = 0 → i < (q i).1 ∧ (q i).1 ≤ t.size ∧ p (a + i) = (a + (q i).1, (q i).2.1, 0)) :
    ∀ (m : Nat) (i dep : Int) (last : ByteArray), 0 ≤ i → (partsF t q pow m i dep last).2.2 = 0 → partsF s p pow m (a + i) dep last = (a + (partsF t q pow m i dep last).1, (partsF t q pow m i dep last).2.1, 0)
  | 0, i, dep, last, _, _ => rfl
  | m + 1, i, dep, last, hi, hg => by
    simp only [partsF] at hg ⊢
    by_cases c1 : (q i).2.2 ≠ 0
    · rw [if_pos c1] at hg; exact absurd hg c1
    have c1' : (q i).2.2 = 0 := by simpa using c1
    obtain ⟨h1, h2, h3⟩ := hq i hi c1'
    have he : s.extract ((a : Int) + i).toNat ((a : Int) + (q i).1).toNat = t.extract i.toNat (q i).1.toNat := by
      rw [show ((a : Int) + i).toNat = a + i.toNat by omega, show ((a : Int) + (q i).1).toNat = a + (q i).1.toNat by omega]
      exact h.extract _ _ (by omega)
    rw [if_neg c1] at hg ⊢
    rw [h3]
    simp only [ne_eq, not_true_eq_false, if_false]
    rw [he]
    by_cases c2 : pow = true ∧ Op.bytesLess (t.extract i.toNat (q i).1.toNat).toList last.toList = true
    · rw [if_pos c2] at hg; exact absurd hg (by simp)
    · rw [if_neg c2] at hg ⊢
      rw [if_neg c2]
      exact parts_lies h pow p q hq m (q i).1 _ _ (by omega) hg
theorem end_lies {s t : ByteArray} {a : Nat} (h : Lies s t a) : ∀ (d : Nat) (i : Int), 0 ≤ i → (endF t d i).2.2 = 0 → endF s d (a + i) = (a + (endF t d i).1, (endF t d i).2.1, 0)
  | 0, i, _, hg => by simp [endF] at hg
  | d + 1, i, hi, hg => by
    have hz := h.size
    obtain ⟨n, rfl⟩ : ∃ n : Nat, i = n := ⟨i.toNat, by omega⟩
    simp only [endF] at hg ⊢
    by_cases c1 : (t.size : Int) ≤ (n : Int)
    · rw [if_pos c1] at hg; exact absurd hg (by simp)
    rw [if_neg c1] at hg ⊢
    rw [if_neg (show ¬ ((s.size : Int) ≤ (a : Int) + (n : Int)) by omega)]
    rw [show ((n : Int)).toNat = n by omega] at hg ⊢
    rw [show ((a : Int) + (n : Int)).toNat = a + n by omega]
    have hn : n < t.size := by omega
    by_cases c2 : leafF (t.extract n t.size) ≠ 0
    · rw [if_pos c2] at hg ⊢
      rw [leaf_lies h n hn c2, if_pos c2]
      simp only [Prod.mk.injEq, and_true]; omega
    rw [if_neg c2] at hg ⊢
    by_cases c3 : (beginF t n).2.2.2.2.2.2 = true
    · rw [if_pos c3] at hg ⊢
      have hb := begin_lies h n hn c3
      rw [show ((a + n : Nat) : Int) = (a : Int) + (n : Int) by omega] at hb
      have hl := leaf_not (s := s) (i := a + n) (by omega) (by rw [show ((a + n : Nat) : Int) = (a : Int) + (n : Int) by omega, hb])
      rw [if_neg (show ¬ (leafF (s.extract (a + n) s.size) ≠ 0) from fun q => q hl), hb]
      simp only [if_true]
      have h4 := beginF_ok (s := t) (at_ := (n : Int)) (by omega) (by omega) (b1 := (beginF t n).1) (b2 := (beginF t n).2.1) (b3 := (beginF t n).2.2.1) (b4 := (beginF t n).2.2.2.1) (b5 := (beginF t n).2.2.2.2.1) (b6 := (beginF t n).2.2.2.2.2.1) (by rw [← c3])
      exact parts_lies h _ (endF s d) (endF t d) (fun i hi hq => ⟨(endF_ok d i hi hq).1, (endF_ok d i hi hq).2.1, end_lies h d i hi hq⟩) _ _ _ _ (by omega) hg
    · rw [if_neg c3] at hg; exact absurd hg (by simp)

/-! ### More room, or less, than a term needs -/
theorem le_mx (x y : Int) : x ≤ (if x < y then y else x) ∧ y ≤ (if x < y then y else x) := by split <;> omega
theorem parts_dep {s : ByteArray} {p : Int → Int × Int × Int} {pow : Bool} : ∀ (m : Nat) (i dep : Int) (last : ByteArray), (partsF s p pow m i dep last).2.2 = 0 → dep + 1 ≤ (partsF s p pow m i dep last).2.1
  | 0, _, _, _, _ => Int.le_refl _
  | m + 1, i, dep, last, hg => by
    simp only [partsF] at hg ⊢
    split at hg
    · exact absurd hg ‹_›
    rename_i c1
    rw [if_neg c1]
    split at hg
    · exact absurd hg (by simp)
    rename_i c2
    rw [if_neg c2]
    have := parts_dep m _ _ _ hg
    have := le_mx dep (p i).2.1
    omega
theorem parts_room {s : ByteArray} {p q : Int → Int × Int × Int} {pow : Bool} {e : Int} (hp : ∀ i : Int, 0 ≤ i → (p i).2.2 = 0 → i < (p i).1) (hq : ∀ i : Int, 0 ≤ i → (p i).2.2 = 0 → (p i).2.1 ≤ e → q i = p i) :
    ∀ (m : Nat) (i dep : Int) (last : ByteArray), 0 ≤ i → (partsF s p pow m i dep last).2.2 = 0 → (partsF s p pow m i dep last).2.1 ≤ e + 1 → partsF s q pow m i dep last = partsF s p pow m i dep last
  | 0, _, _, _, _, _, _ => rfl
  | m + 1, i, dep, last, hi, hg, hd => by
    simp only [partsF] at hg hd ⊢
    by_cases c1 : (p i).2.2 ≠ 0
    · rw [if_pos c1] at hg; exact absurd hg c1
    have c1' : (p i).2.2 = 0 := by simpa using c1
    rw [if_neg c1] at hg hd ⊢
    by_cases c2 : pow = true ∧ Op.bytesLess (s.extract i.toNat (p i).1.toNat).toList last.toList = true
    · rw [if_pos c2] at hg; exact absurd hg (by simp)
    rw [if_neg c2] at hg hd ⊢
    have h2 := parts_dep m _ _ _ hg
    have h3 := hp i hi c1'
    have h4 := le_mx dep (p i).2.1
    rw [hq i hi c1' (by omega), if_neg c1, if_neg c2]
    exact parts_room hp hq m _ _ _ (by omega) hg hd
theorem end_room {s : ByteArray} : ∀ (D d : Nat) (i : Int), 0 ≤ i → (endF s D i).2.2 = 0 → (endF s D i).2.1 ≤ d → endF s d i = endF s D i
  | 0, _, _, _, hg, _ => by simp [endF] at hg
  | D + 1, 0, i, hi, hg, hd => by
    have := endF_ok (D + 1) i hi hg
    omega
  | D + 1, d + 1, i, hi, hg, hd => by
    simp only [endF] at hg hd ⊢
    by_cases c1 : (s.size : Int) ≤ i
    · rw [if_pos c1, if_pos c1]
    rw [if_neg c1] at hg hd ⊢; rw [if_neg c1]
    by_cases c2 : leafF (s.extract i.toNat s.size) ≠ 0
    · rw [if_pos c2, if_pos c2]
    rw [if_neg c2] at hg hd ⊢; rw [if_neg c2]
    by_cases c3 : (beginF s i).2.2.2.2.2.2 = true
    · rw [if_pos c3] at hg hd ⊢; rw [if_pos c3]
      have h4 := beginF_ok (s := s) (at_ := i) hi (by omega) (b1 := (beginF s i).1) (b2 := (beginF s i).2.1) (b3 := (beginF s i).2.2.1) (b4 := (beginF s i).2.2.2.1) (b5 := (beginF s i).2.2.2.2.1) (b6 := (beginF s i).2.2.2.2.2.1) (by rw [← c3])
      exact parts_room (e := d) (fun i hi hq => (endF_ok D i hi hq).1) (fun j hj hq hr => end_room D d j hj hq hr) _ _ _ _ (by omega) hg hd
    · rw [if_neg c3, if_neg c3]

/-! ### Terms -/
def depF (t : ByteArray) : Int := (endF t 400 0).2.1
/-- A text is a term, whole, no deeper than 400. -/
def Tm (t : ByteArray) : Prop := (endF t 400 0).2.2 = 0 ∧ (endF t 400 0).1 = t.size
theorem Tm.end_ {t : ByteArray} (h : Tm t) : endF t 400 0 = ((t.size : Int), depF t, 0) := Prod.ext h.2 (Prod.ext rfl h.1)
theorem Tm.of {t : ByteArray} {d : Nat} {e : Int} (hd : d ≤ 400) (h : endF t d 0 = ((t.size : Int), e, 0)) : Tm t ∧ depF t = e := by
  have h1 := endF_ok d 0 (Int.le_refl _) (s := t) (by rw [h])
  rw [h] at h1
  have h2 := end_room d 400 0 (Int.le_refl _) (s := t) (by rw [h]) (by rw [h]; omega)
  rw [h] at h2
  refine ⟨⟨by rw [h2], by rw [h2]⟩, by rw [depF, h2]⟩
theorem Tm.dep {t : ByteArray} (h : Tm t) : 1 ≤ depF t ∧ depF t ≤ 400 := by
  have := endF_ok 400 0 (Int.le_refl _) h.1
  exact ⟨this.2.2.1, this.2.2.2⟩
theorem Tm.pos {t : ByteArray} (h : Tm t) : 0 < t.size := by
  have := endF_ok 400 0 (Int.le_refl _) h.1
  have := h.2
  omega
theorem right_iff (t : ByteArray) : rightB t = true ↔ Tm t ∧ t.size ≤ 20000 := by
  unfold rightB scanF Tm
  rw [decide_eq_true_eq]
  by_cases c : (endF t 400 0).2.2 = 0
  · rw [if_pos c]
    exact ⟨fun h => ⟨⟨h.1, h.2.1⟩, h.2.2⟩, fun h => ⟨h.1.1, h.1.2, h.2⟩⟩
  · rw [if_neg c]
    exact ⟨fun h => absurd h.1 c, fun h => absurd h.1.1 c⟩
/-- A term that lies in a text, read there, with room enough. -/
theorem Tm.at_ {s t : ByteArray} {a : Nat} (h : Lies s t a) (ht : Tm t) (d : Nat) (hd : depF t ≤ d) : endF s d a = ((a + t.size : Int), depF t, 0) := by
  have h1 : endF t d 0 = ((t.size : Int), depF t, 0) := by
    rw [← ht.end_]
    exact end_room 400 d 0 (Int.le_refl _) ht.1 (by rw [ht.end_]; exact hd)
  have h2 := end_lies h d 0 (Int.le_refl _) (by rw [h1])
  rw [h1, Int.add_zero] at h2
  exact h2
def mx (a b : Int) : Int := if a < b then b else a
/-- Parts that stand one behind the other. -/
def cat : List ByteArray → ByteArray
  | [] => ⟨#[]⟩
  | t :: ts => t ++ cat ts
/-- No part is less than the one ahead of it. -/
def Rises : ByteArray → List ByteArray → Prop
  | _, [] => True
  | a, t :: ts => Op.bytesLess t.toList a.toList = false ∧ Rises t ts
theorem parts_cat {s : ByteArray} {d : Nat} {pow : Bool} : ∀ (ts : List ByteArray) (a : Nat) (dep : Int) (last : ByteArray), Lies s (cat ts) a → (∀ t ∈ ts, Tm t ∧ depF t ≤ d) → (pow = true → Rises last ts) →
    partsF s (endF s d) pow ts.length a dep last = ((a + (cat ts).size : Int), ts.foldl (fun x t => mx x (depF t)) dep + 1, 0)
  | [], a, dep, last, _, _, _ => by simp [partsF, cat]; rfl
  | t :: ts, a, dep, last, h, ht, hp => by
    have h1 : Lies s t a := by have := h.trans (Lies.first t (cat ts)); rwa [Nat.add_zero] at this
    have h2 : Lies s (cat ts) (a + t.size) := h.trans (Lies.last t (cat ts))
    have h3 := Tm.at_ h1 (ht t List.mem_cons_self).1 d (ht t List.mem_cons_self).2
    rw [List.length_cons, partsF, h3]
    simp only [ne_eq, not_true_eq_false, if_false]
    have h4 : s.extract ((a : Int)).toNat ((a : Int) + (t.size : Int)).toNat = t := by
      rw [show ((a : Int)).toNat = a by omega, show ((a : Int) + (t.size : Int)).toNat = a + t.size by omega]
      exact h1.whole
    rw [h4, if_neg (fun hc => by rw [(hp hc.1).1] at hc; exact absurd hc.2 (by simp))]
    have h5 := parts_cat ts (a + t.size) (mx dep (depF t)) t h2 (fun x hx => ht x (List.mem_cons_of_mem _ hx)) (fun hc => (hp hc).2)
    rw [show ((a : Int) + (t.size : Int)) = ((a + t.size : Nat) : Int) by omega]
    show partsF s (endF s d) pow ts.length ((a + t.size : Nat) : Int) (mx dep (depF t)) t = _
    rw [h5, List.foldl_cons, cat, ByteArray.size_append]
    simp only [Prod.mk.injEq, and_true]
    omega
/-- A term of parts, from its head. -/
theorem Tm.parts {h : ByteArray} {ts : List ByteArray} {pow : Bool} (hb : beginF (h ++ cat ts) 0 = ((ts.length : Int), 0, pow, (h.size : Int), ⟨#[]⟩, (h.size : Int), true)) (ht : ∀ t ∈ ts, Tm t ∧ depF t ≤ 399) (hp : pow = true → Rises ⟨#[]⟩ ts) (h0 : 0 < h.size) :
    Tm (h ++ cat ts) ∧ depF (h ++ cat ts) = ts.foldl (fun x t => mx x (depF t)) 0 + 1 := by
  have hs : 0 < (h ++ cat ts).size := by rw [ByteArray.size_append]; omega
  refine Tm.of (d := 400) (Nat.le_refl _) ?_
  rw [endF, if_neg (by omega)]
  have hl := leaf_not (s := h ++ cat ts) (i := 0) hs (by rw [show ((0 : Nat) : Int) = 0 from rfl, hb])
  rw [show (0 : Int).toNat = 0 from rfl, if_neg (fun q => q hl), hb]
  simp only [if_true]
  rw [Int.toNat_natCast, parts_cat ts h.size 0 ⟨#[]⟩ (Lies.last _ _) ht hp, ByteArray.size_append]
  simp only [Prod.mk.injEq, and_true]
  omega
theorem tm_pair {x y : ByteArray} (hx : Tm x) (hy : Tm y) (dx : depF x ≤ 399) (dy : depF y ≤ 399) : Tm ((⟨#[112]⟩ : ByteArray) ++ x ++ y) ∧ depF ((⟨#[112]⟩ : ByteArray) ++ x ++ y) = mx (depF x) (depF y) + 1 := by
  have e : (⟨#[112]⟩ : ByteArray) ++ x ++ y = (⟨#[112]⟩ : ByteArray) ++ cat [x, y] := by
    apply ByteArray.ext
    simp [cat, ByteArray.data_append]
  have b0 : bt ((⟨#[112]⟩ : ByteArray) ++ cat [x, y]) 0 = 112 := bt_left ⟨#[112]⟩ (cat [x, y]) 0 (by decide)
  have := Tm.parts (h := ⟨#[112]⟩) (ts := [x, y]) (pow := false) (by unfold beginF; rw [b0]; rfl) (by intro t ht; simp at ht; rcases ht with rfl | rfl <;> exact ⟨‹_›, ‹_›⟩) (fun h => by simp at h) (by decide)
  rw [e]
  refine ⟨this.1, this.2.trans ?_⟩
  have h1 := hx.dep
  simp only [List.foldl_cons, List.foldl_nil]
  rw [show mx 0 (depF x) = depF x by unfold mx; rw [if_pos (by omega)]]
/-! ### Numbers -/
theorem tm_num (n : Int) : Tm (numF n) ∧ depF (numF n) = 1 := by
  refine Tm.of (d := 1) (by omega) ?_
  have hz : (numF n).size = 9 := rfl
  have b0 : bt (numF n) 0 = 117 := rfl
  rw [endF, if_neg (by omega), show (0 : Int).toNat = 0 from rfl, extract_all]
  have : leafF (numF n) = 9 := by unfold leafF; rw [b0]; rfl
  rw [this]
  rfl
end Go.Proofs.Ytpfpmjdifnoeoaa.Pure
