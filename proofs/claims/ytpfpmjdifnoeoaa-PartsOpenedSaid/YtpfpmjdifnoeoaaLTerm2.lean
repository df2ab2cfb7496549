/- Plain facts about terms: what is read is a term; how a term stands of its parts. -/
import Derived.Test.YtpfpmjdifnoeoaaLTerm
namespace Go.Proofs.Ytpfpmjdifnoeoaa.Pure
set_option linter.unusedVariables false
set_option linter.unusedSimpArgs false
open Go.RowKit Go.Proofs.Ytpfpmjdifnoeoaa.F Go.Proofs.YtpfpmjdifnoeoaaW.PrintWords Go.Proofs.YtpfpmjdifnoeoaaW.PrintLast

theorem bt_pos (s : ByteArray) (i : Int) : 0 ≤ bt s i ∧ bt s i ≤ 255 := by
  unfold bt
  split
  · rename_i h
    have := (s[i.toNat]'h).toNat_lt
    omega
  · omega
theorem bt_zero {s : ByteArray} {j : Nat} (h : bt s j ≠ 0) : j < s.size := by
  rcases Nat.lt_or_ge j s.size with h1 | h1
  · exact h1
  · exact absurd (bt_big s j h1) h
theorem cat_ext (s : ByteArray) {i j k : Nat} (h : i ≤ j) (h2 : j ≤ k) (hk : k ≤ s.size) : s.extract i j ++ s.extract j k = s.extract i k := by
  have z1 : (s.extract i j).size = j - i := by rw [ByteArray.size_extract]; omega
  have z2 : (s.extract j k).size = k - j := by rw [ByteArray.size_extract]; omega
  refine ext_bt (by rw [ByteArray.size_append, z1, z2, ByteArray.size_extract]; omega) fun m hm => ?_
  rw [ByteArray.size_append, z1, z2] at hm
  rw [bt_extract _ _ _ _ (by omega) hk]
  rcases Nat.lt_or_ge m (j - i) with h3 | h3
  · rw [bt_left _ _ _ (by omega), bt_extract _ _ _ _ (by omega) (by omega)]
  · obtain ⟨q, rfl⟩ : ∃ q, m = j - i + q := ⟨m - (j - i), by omega⟩
    rw [← z1, bt_right _ _ _ (by omega), bt_extract _ _ _ _ (by omega) hk]
    congr 1
    omega
theorem ext_self (s : ByteArray) (i : Nat) : s.extract i i = ⟨#[]⟩ := by
  apply ByteArray.ext
  simp
theorem app_nil (s : ByteArray) : s ++ (⟨#[]⟩ : ByteArray) = s := by
  apply ByteArray.ext
  simp [ByteArray.data_append]
theorem nil_app (s : ByteArray) : (⟨#[]⟩ : ByteArray) ++ s = s := by
  apply ByteArray.ext
  simp [ByteArray.data_append]
theorem app_assoc (a b c : ByteArray) : a ++ b ++ c = a ++ (b ++ c) := by
  apply ByteArray.ext
  simp [ByteArray.data_append]
theorem ext_size (s : ByteArray) {i j : Nat} (h : j ≤ s.size) : (s.extract i j).size = j - i := by rw [ByteArray.size_extract]; omega
theorem leaf_same {u v : ByteArray} (hn : leafF u ≠ 0) (hv : leafF u ≤ v.size) (hb : ∀ j : Nat, j < v.size → bt v j = bt u j) : leafF v = leafF u := by
  have b0 : 0 < v.size → bt v 0 = bt u 0 := fun q => hb 0 q
  have b1 : 1 < v.size → bt v 1 = bt u 1 := fun q => hb 1 q
  have b2 : 2 < v.size → bt v 2 = bt u 2 := fun q => hb 2 q
  have p2 := bt_pos u 2
  clear hb
  unfold leafF at hn hv ⊢
  by_cases k1 : bt u 0 = 103
  · rw [if_pos k1] at hv ⊢
    rw [if_pos (by rw [b0 (by omega)]; exact k1)]
  rw [if_neg k1] at hn hv ⊢
  by_cases k2 : bt u 0 = 110 ∨ bt u 0 = 117
  · rw [if_pos k2] at hn hv ⊢
    by_cases c : 9 ≤ u.size
    · rw [if_pos c] at hv ⊢
      have e := b0 (by omega)
      rw [if_neg (by omega), if_pos (by omega), if_pos (by omega)]
    · rw [if_neg c] at hn; exact absurd rfl hn
  rw [if_neg k2] at hn hv ⊢
  by_cases k3 : bt u 0 = 105
  · rw [if_pos k3] at hn hv ⊢
    by_cases c : 1 < u.size ∧ 1 ≤ bt u 1 ∧ bt u 1 ≤ 8
    · rw [if_pos c] at hv ⊢
      have e := b0 (by omega)
      have e1 := b1 (by omega)
      rw [if_neg (by omega), if_neg (by omega), if_pos (by omega), if_pos (by omega)]
    · rw [if_neg c] at hn; exact absurd rfl hn
  rw [if_neg k3] at hn hv ⊢
  by_cases k4 : bt u 0 = 116
  · rw [if_pos k4] at hn hv ⊢
    by_cases c : 3 ≤ u.size ∧ bt u 1 = 0 ∧ bt u 2 ≤ 100 ∧ 3 + bt u 2 ≤ u.size
    · rw [if_pos c] at hv ⊢
      have e := b0 (by omega)
      have e1 := b1 (by omega)
      have e2 := b2 (by omega)
      rw [if_neg (by omega), if_neg (by omega), if_neg (by omega), if_pos (by omega), if_pos (by omega), e2]
    · rw [if_neg c] at hn; exact absurd rfl hn
  rw [if_neg k4] at hn
  exact absurd rfl hn
/-- A leaf's bytes, cut short, are no leaf. -/
theorem leaf_cut {u v : ByteArray} (hn : leafF u ≠ 0) (h0 : 0 < v.size) (hv : (v.size : Int) < leafF u) (hb : ∀ j : Nat, j < v.size → bt v j = bt u j) : leafF v = 0 := by
  have b0 : bt v 0 = bt u 0 := hb 0 h0
  have b1 : 1 < v.size → bt v 1 = bt u 1 := fun q => hb 1 q
  have b2 : 2 < v.size → bt v 2 = bt u 2 := fun q => hb 2 q
  have p2 := bt_pos u 2
  clear hb
  unfold leafF at hn hv ⊢
  by_cases k1 : bt u 0 = 103
  · rw [if_pos k1] at hv; omega
  rw [if_neg k1] at hn hv
  rw [if_neg (by omega)]
  by_cases k2 : bt u 0 = 110 ∨ bt u 0 = 117
  · rw [if_pos k2] at hn hv
    rw [if_pos (by omega)]
    by_cases c : 9 ≤ u.size
    · rw [if_pos c] at hv; rw [if_neg (by omega)]
    · rw [if_neg c] at hn; exact absurd rfl hn
  rw [if_neg k2] at hn hv
  rw [if_neg (by omega)]
  by_cases k3 : bt u 0 = 105
  · rw [if_pos k3] at hn hv
    rw [if_pos (by omega)]
    by_cases c : 1 < u.size ∧ 1 ≤ bt u 1 ∧ bt u 1 ≤ 8
    · rw [if_pos c] at hv; rw [if_neg (by omega)]
    · rw [if_neg c] at hn; exact absurd rfl hn
  rw [if_neg k3] at hn hv
  rw [if_neg (by omega)]
  by_cases k4 : bt u 0 = 116
  · rw [if_pos k4] at hn hv
    rw [if_pos (by omega)]
    by_cases c : 3 ≤ u.size ∧ bt u 1 = 0 ∧ bt u 2 ≤ 100 ∧ 3 + bt u 2 ≤ u.size
    · rw [if_pos c] at hv
      rw [if_neg]
      intro hc
      have e2 := b2 (by omega)
      omega
    · rw [if_neg c] at hn; exact absurd rfl hn
  rw [if_neg k4] at hn
  exact absurd rfl hn

/-! ### How a term that has parts begins -/
inductive HeadOf : ByteArray → List ByteArray → Bool → Prop
  | key (x : ByteArray) (h : bt x 0 = 103 ∨ bt x 0 = 101) : HeadOf ⟨#[107]⟩ [x] false
  | hash (x : ByteArray) : HeadOf ⟨#[104]⟩ [x] false
  | pair (x y : ByteArray) : HeadOf ⟨#[112]⟩ [x, y] false
  | sign (x y : ByteArray) : HeadOf ⟨#[120]⟩ [x, y] false
  | sealed (x y z : ByteArray) : HeadOf ⟨#[115]⟩ [x, y, z] false
  | pow (ts : List ByteArray) (h1 : 1 ≤ ts.length) (h2 : ts.length ≤ 32) : HeadOf ⟨#[101, UInt8.ofNat ts.length]⟩ ts true
theorem HeadOf.begin {h : ByteArray} {ts : List ByteArray} {pow : Bool} (hh : HeadOf h ts pow) (hp : ∀ t ∈ ts, 0 < t.size) :
    beginF (h ++ cat ts) 0 = ((ts.length : Int), 0, pow, (h.size : Int), ⟨#[]⟩, (h.size : Int), true) := by
  cases hh with
  | key x hx =>
    have hs := hp x List.mem_cons_self
    have b0 : bt ((⟨#[107]⟩ : ByteArray) ++ cat [x]) 0 = 107 := bt_left ⟨#[107]⟩ (cat [x]) 0 (by decide)
    have b1 : bt ((⟨#[107]⟩ : ByteArray) ++ cat [x]) 1 = bt x 0 := by
      have h1 := bt_right ⟨#[107]⟩ (cat [x]) 0 (by show 0 < (x ++ cat []).size; rw [ByteArray.size_append]; omega)
      have h2 : bt (cat [x]) 0 = bt x 0 := bt_left x (cat []) 0 hs
      exact h1.trans h2
    have hz : ((⟨#[107]⟩ : ByteArray) ++ cat [x]).size = 1 + x.size := by rw [ByteArray.size_append]; show 1 + (x ++ cat []).size = _; rw [ByteArray.size_append]; rfl
    unfold beginF
    rw [b0, if_pos rfl, if_pos (by rw [show (0 : Int) + 1 = 1 from rfl, b1, hz]; exact ⟨by omega, hx⟩)]
    rfl
  | hash x =>
    have b0 : bt ((⟨#[104]⟩ : ByteArray) ++ cat [x]) 0 = 104 := bt_left ⟨#[104]⟩ (cat [x]) 0 (by decide)
    unfold beginF; rw [b0]; rfl
  | pair x y =>
    have b0 : bt ((⟨#[112]⟩ : ByteArray) ++ cat [x, y]) 0 = 112 := bt_left ⟨#[112]⟩ (cat [x, y]) 0 (by decide)
    unfold beginF; rw [b0]; rfl
  | sign x y =>
    have b0 : bt ((⟨#[120]⟩ : ByteArray) ++ cat [x, y]) 0 = 120 := bt_left ⟨#[120]⟩ (cat [x, y]) 0 (by decide)
    unfold beginF; rw [b0]; rfl
  | sealed x y z =>
    have b0 : bt ((⟨#[115]⟩ : ByteArray) ++ cat [x, y, z]) 0 = 115 := bt_left ⟨#[115]⟩ (cat [x, y, z]) 0 (by decide)
    unfold beginF; rw [b0]; rfl
  | pow ts h1 h2 =>
    have b0 : bt ((⟨#[101, UInt8.ofNat ts.length]⟩ : ByteArray) ++ cat ts) 0 = 101 := bt_left ⟨#[101, UInt8.ofNat ts.length]⟩ (cat ts) 0 (by show 0 < 2; omega)
    have b1 : bt ((⟨#[101, UInt8.ofNat ts.length]⟩ : ByteArray) ++ cat ts) 1 = ts.length := by
      have h3 := bt_left ⟨#[101, UInt8.ofNat ts.length]⟩ (cat ts) 1 (by show 1 < 2; omega)
      have h4 : bt (⟨#[101, UInt8.ofNat ts.length]⟩ : ByteArray) ((1 : Nat) : Int) = ((UInt8.ofNat ts.length).toNat : Int) := rfl
      rw [h4, UInt8.toNat_ofNat_of_lt' (by show ts.length < 256; omega)] at h3
      exact h3
    have hz : 2 ≤ ((⟨#[101, UInt8.ofNat ts.length]⟩ : ByteArray) ++ cat ts).size := by rw [ByteArray.size_append]; show 2 ≤ 2 + _; omega
    unfold beginF
    rw [b0]
    simp only [show ¬ ((101 : Int) = 107) from by decide, show ¬ ((101 : Int) = 104) from by decide, show ¬ ((101 : Int) = 112 ∨ (101 : Int) = 120) from by decide, show ¬ ((101 : Int) = 115) from by decide, if_false, if_true]
    rw [show (0 : Int) + 1 = 1 from rfl, b1, if_pos ⟨by omega, by omega, by omega⟩]
    rfl
theorem HeadOf.size {h : ByteArray} {ts : List ByteArray} {pow : Bool} (hh : HeadOf h ts pow) : h.size = (if pow then 2 else 1) := by cases hh <;> rfl
theorem HeadOf.pos {h : ByteArray} {ts : List ByteArray} {pow : Bool} (hh : HeadOf h ts pow) : 0 < h.size := by rw [hh.size]; split <;> omega
/-- The deepest of terms, and 'dep' at least. -/
def deepest (dep : Int) (ts : List ByteArray) : Int := ts.foldl (fun x t => mx x (depF t)) dep
/-- A term that is put together: its head, its parts. -/
structure Node (t h : ByteArray) (ts : List ByteArray) (pow : Bool) : Prop where
  eq : t = h ++ cat ts
  head : HeadOf h ts pow
  parts : ∀ x ∈ ts, Tm x ∧ depF x ≤ 399
  rises : pow = true → Rises ⟨#[]⟩ ts
theorem Node.tm {t h : ByteArray} {ts : List ByteArray} {pow : Bool} (n : Node t h ts pow) : Tm t ∧ depF t = deepest 0 ts + 1 := by
  have := Tm.parts (n.head.begin fun x hx => (n.parts x hx).1.pos) n.parts n.rises n.head.pos
  rw [← n.eq] at this
  exact this
/-- A leaf: all its bytes. -/
def Leaf (t : ByteArray) : Prop := leafF t ≠ 0 ∧ leafF t = t.size
theorem leaf_zero : leafF ⟨#[]⟩ = 0 := by unfold leafF; rfl
theorem Leaf.pos {t : ByteArray} (h : Leaf t) : 0 < t.size := by
  rcases Nat.eq_zero_or_pos t.size with h1 | h1
  · have := h.2; rw [h1] at this; exact absurd this h.1
  · exact h1
theorem Leaf.tm {t : ByteArray} (h : Leaf t) : Tm t ∧ depF t = 1 := by
  refine Tm.of (d := 1) (by omega) ?_
  have := h.pos
  rw [endF, if_neg (by omega), show (0 : Int).toNat = 0 from rfl, extract_all, if_pos h.1, h.2]
  simp
theorem parts_sound {s : ByteArray} {d : Nat} {pow : Bool}
    (hd : ∀ i : Int, 0 ≤ i → (endF s d i).2.2 = 0 → Tm (s.extract i.toNat (endF s d i).1.toNat) ∧ depF (s.extract i.toNat (endF s d i).1.toNat) = (endF s d i).2.1) :
    ∀ (m : Nat) (i dep : Int) (last : ByteArray), 0 ≤ i → i ≤ s.size → (partsF s (endF s d) pow m i dep last).2.2 = 0 →
      ∃ ts : List ByteArray, ts.length = m ∧ s.extract i.toNat (partsF s (endF s d) pow m i dep last).1.toNat = cat ts ∧ (∀ t ∈ ts, Tm t ∧ depF t ≤ d) ∧ (pow = true → Rises last ts) ∧
        (partsF s (endF s d) pow m i dep last).2.1 = deepest dep ts + 1 ∧ i ≤ (partsF s (endF s d) pow m i dep last).1 ∧ (partsF s (endF s d) pow m i dep last).1 ≤ s.size
  | 0, i, dep, last, h0, h1, _ => ⟨[], rfl, by simp only [partsF]; rw [ext_self]; rfl, by simp, fun _ => trivial, rfl, by simp only [partsF]; omega, by simp only [partsF]; omega⟩
  | m + 1, i, dep, last, h0, h1, hg => by
    simp only [partsF] at hg ⊢
    by_cases c1 : (endF s d i).2.2 ≠ 0
    · rw [if_pos c1] at hg; exact absurd hg c1
    have c1' : (endF s d i).2.2 = 0 := by simpa using c1
    rw [if_neg c1] at hg ⊢
    by_cases c2 : pow = true ∧ Op.bytesLess (s.extract i.toNat (endF s d i).1.toNat).toList last.toList = true
    · rw [if_pos c2] at hg; exact absurd hg (by simp)
    rw [if_neg c2] at hg ⊢
    have ho := endF_ok d i h0 c1'
    obtain ⟨ts, e1, e2, e3, e4, e5, e6, e7⟩ := parts_sound hd m (endF s d i).1 _ _ (by omega) (by omega) hg
    have ht := hd i h0 c1'
    refine ⟨s.extract i.toNat (endF s d i).1.toNat :: ts, by rw [List.length_cons, e1], ?_, ?_, ?_, ?_, by omega, e7⟩
    · rw [cat, ← e2, cat_ext _ (by omega) (by omega) (by omega)]
    · intro t h
      rcases List.mem_cons.mp h with rfl | h
      · exact ⟨ht.1, by rw [ht.2]; omega⟩
      · exact e3 t h
    · intro hp
      refine ⟨?_, e4 hp⟩
      have : ¬ (Op.bytesLess (s.extract i.toNat (endF s d i).1.toNat).toList last.toList = true) := fun h => c2 ⟨hp, h⟩
      simpa using this
    · rw [e5]
      unfold deepest
      rw [List.foldl_cons, ht.2]
      rfl
theorem head_sound {s : ByteArray} {i : Nat} {ts : List ByteArray} {e : Nat} (hi : i < s.size) (hb : (beginF s i).2.2.2.2.2.2 = true) (hl : ts.length = (beginF s i).1.toNat)
    (he : s.extract (beginF s i).2.2.2.2.2.1.toNat e = cat ts) (hp : ∀ t ∈ ts, 0 < t.size) (h1 : (beginF s i).2.2.2.2.2.1.toNat ≤ e) (h2 : e ≤ s.size) :
    HeadOf (s.extract i (beginF s i).2.2.2.2.2.1.toNat) ts (beginF s i).2.2.1 := by
  have one : ∀ c : UInt8, bt s i = (c.toNat : Int) → s.extract i (i + 1) = ⟨#[c]⟩ := by
    intro c hc
    refine ext_bt (by rw [ext_size _ (by omega)]; show i + 1 - i = 1; omega) fun j hj => ?_
    rw [ext_size _ (by omega)] at hj
    obtain rfl : j = 0 := by omega
    rw [bt_extract _ _ _ _ (by omega) (by omega), Nat.add_zero, hc]
    rfl
  unfold beginF at hb hl he h1 ⊢
  by_cases k1 : bt s i = 107
  · rw [if_pos k1] at hb hl he h1 ⊢
    by_cases c : (i : Int) + 1 < (s.size : Int) ∧ (bt s ((i : Int) + 1) = 103 ∨ bt s ((i : Int) + 1) = 101)
    · rw [if_pos c] at hl he h1 ⊢
      simp only at hl he h1 ⊢
      rw [show ((i : Int) + 1).toNat = i + 1 by omega] at he h1 ⊢
      rw [one 107 k1]
      match ts, hl with
      | [x], _ =>
        refine .key x ?_
        have hx := hp x List.mem_cons_self
        have e1 : bt (s.extract (i + 1) e) 0 = bt x 0 := by rw [he]; exact bt_left x (cat []) 0 hx
        have e2 : (s.extract (i + 1) e).size = x.size := by rw [he]; show (x ++ cat []).size = _; rw [ByteArray.size_append]; show x.size + 0 = _; omega
        rw [ext_size _ h2] at e2
        have e3 := bt_extract s (i + 1) e 0 (by omega) h2
        rw [← e1]
        have e4 : (i : Int) + 1 = ((i + 1 + 0 : Nat) : Int) := by omega
        rw [show (0 : Int) = ((0 : Nat) : Int) from rfl, e3, ← e4]
        exact c.2
    · rw [if_neg c] at hb; exact absurd hb (by simp)
  rw [if_neg k1] at hb hl he h1 ⊢
  by_cases k2 : bt s i = 104
  · rw [if_pos k2] at hl he h1 ⊢
    simp only at hl he h1 ⊢
    rw [show ((i : Int) + 1).toNat = i + 1 by omega, one 104 k2]
    match ts, hl with
    | [x], _ => exact .hash x
  rw [if_neg k2] at hb hl he h1 ⊢
  by_cases k3 : bt s i = 112 ∨ bt s i = 120
  · rw [if_pos k3] at hl he h1 ⊢
    simp only at hl he h1 ⊢
    rw [show ((i : Int) + 1).toNat = i + 1 by omega]
    match ts, hl with
    | [x, y], _ =>
      rcases k3 with k3 | k3
      · rw [one 112 k3]; exact .pair x y
      · rw [one 120 k3]; exact .sign x y
  rw [if_neg k3] at hb hl he h1 ⊢
  by_cases k4 : bt s i = 115
  · rw [if_pos k4] at hl he h1 ⊢
    simp only at hl he h1 ⊢
    rw [show ((i : Int) + 1).toNat = i + 1 by omega, one 115 k4]
    match ts, hl with
    | [x, y, z], _ => exact .sealed x y z
  rw [if_neg k4] at hb hl he h1 ⊢
  by_cases k5 : bt s i = 101
  · rw [if_pos k5] at hb hl he h1 ⊢
    by_cases c : (i : Int) + 1 < (s.size : Int) ∧ 1 ≤ bt s ((i : Int) + 1) ∧ bt s ((i : Int) + 1) ≤ 32
    · rw [if_pos c] at hl he h1 ⊢
      simp only at hl he h1 ⊢
      rw [show ((i : Int) + 2).toNat = i + 2 by omega] at he h1 ⊢
      have e1 : s.extract i (i + 2) = ⟨#[101, UInt8.ofNat ts.length]⟩ := by
        refine ext_bt (by rw [ext_size _ (by omega)]; show i + 2 - i = 2; omega) fun j hj => ?_
        rw [ext_size _ (by omega)] at hj
        rw [bt_extract _ _ _ _ (by omega) (by omega)]
        match j, hj with
        | 0, _ => rw [Nat.add_zero, k5]; rfl
        | 1, _ =>
          have e2 : bt (⟨#[101, UInt8.ofNat ts.length]⟩ : ByteArray) ((1 : Nat) : Int) = ((UInt8.ofNat ts.length).toNat : Int) := rfl
          rw [e2, UInt8.toNat_ofNat_of_lt' (by show ts.length < 256; omega), show ((i + 1 : Nat) : Int) = (i : Int) + 1 by omega]
          omega
        | j + 2, hj => omega
      rw [e1]
      exact .pow ts (by omega) (by omega)
    · rw [if_neg c] at hb; exact absurd hb (by simp)
  rw [if_neg k5] at hb
  exact absurd hb (by simp)
/-- What is read is a term, whole: a leaf, or one of parts. -/
theorem end_sound {s : ByteArray} : ∀ (d : Nat) (i : Int), d ≤ 400 → 0 ≤ i → (endF s d i).2.2 = 0 →
    (Tm (s.extract i.toNat (endF s d i).1.toNat) ∧ depF (s.extract i.toNat (endF s d i).1.toNat) = (endF s d i).2.1) ∧
    (Leaf (s.extract i.toNat (endF s d i).1.toNat) ∨ ∃ h ts pow, Node (s.extract i.toNat (endF s d i).1.toNat) h ts pow)
  | 0, _, _, _, h => by simp [endF] at h
  | d + 1, i, hd, h0, hg => by
    obtain ⟨n, rfl⟩ : ∃ n : Nat, i = n := ⟨i.toNat, by omega⟩
    have hok := endF_ok (d + 1) n h0 hg
    simp only [endF] at hg hok ⊢
    by_cases c1 : (s.size : Int) ≤ n
    · rw [if_pos c1] at hg; exact absurd hg (by simp)
    rw [if_neg c1] at hg hok ⊢
    rw [Int.toNat_natCast] at hg hok ⊢
    have hn : n < s.size := by omega
    by_cases c2 : leafF (s.extract n s.size) ≠ 0
    · rw [if_pos c2] at hg hok ⊢
      simp only at hok ⊢
      obtain ⟨m, hm⟩ : ∃ m : Nat, leafF (s.extract n s.size) = m := ⟨(leafF (s.extract n s.size)).toNat, by omega⟩
      rw [hm] at hok ⊢
      rw [show ((n : Int) + (m : Int)).toNat = n + m by omega]
      have hs : (s.extract n (n + m)).size = m := by rw [ext_size _ (by omega)]; omega
      have hl : leafF (s.extract n (n + m)) = leafF (s.extract n s.size) := leaf_same c2 (by rw [hs, hm]; omega) (fun j hj => by
        rw [hs] at hj
        rw [bt_extract _ _ _ _ (by omega) (by omega), bt_extract _ _ _ _ (by omega) (Nat.le_refl _)])
      have hL : Leaf (s.extract n (n + m)) := ⟨by rw [hl]; exact c2, by rw [hl, hm, hs]⟩
      exact ⟨hL.tm, .inl hL⟩
    rw [if_neg c2] at hg hok ⊢
    by_cases c3 : (beginF s n).2.2.2.2.2.2 = true
    · rw [if_pos c3] at hg hok ⊢
      have h4 := beginF_ok (s := s) (at_ := n) (by omega) (by omega) (b1 := (beginF s n).1) (b2 := (beginF s n).2.1) (b3 := (beginF s n).2.2.1) (b4 := (beginF s n).2.2.2.1) (b5 := (beginF s n).2.2.2.2.1) (b6 := (beginF s n).2.2.2.2.2.1) (by rw [← c3])
      obtain ⟨ts, e1, e2, e3, e4, e5, e6, e7⟩ := parts_sound (d := d) (pow := (beginF s n).2.2.1) (fun j hj hq => (end_sound d j (by omega) hj hq).1) (beginF s n).1.toNat (beginF s n).2.2.2.2.2.1 0 ⟨#[]⟩ (by omega) (by omega) hg
      have hh := head_sound (e := (partsF s (endF s d) (beginF s n).2.2.1 (beginF s n).1.toNat (beginF s n).2.2.2.2.2.1 0 ⟨#[]⟩).1.toNat) hn c3 e1 e2 (fun t ht => (e3 t ht).1.pos) (by omega) (by omega)
      have hN : Node (s.extract n (partsF s (endF s d) (beginF s n).2.2.1 (beginF s n).1.toNat (beginF s n).2.2.2.2.2.1 0 ⟨#[]⟩).1.toNat) (s.extract n (beginF s n).2.2.2.2.2.1.toNat) ts (beginF s n).2.2.1 :=
        ⟨by rw [← e2, cat_ext _ (by omega) (by omega) (by omega)], hh, fun x hx => ⟨(e3 x hx).1, by have := (e3 x hx).2; omega⟩, e4⟩
      exact ⟨⟨hN.tm.1, hN.tm.2.trans e5.symm⟩, .inr ⟨_, _, _, hN⟩⟩
    · rw [if_neg c3] at hg; exact absurd hg (by simp)
/-- A term is a leaf, or stands of parts. -/
theorem Tm.cases {t : ByteArray} (h : Tm t) : Leaf t ∨ ∃ h ts pow, Node t h ts pow := by
  have := (end_sound 400 0 (Nat.le_refl _) (Int.le_refl _) h.1).2
  rw [h.2, Int.toNat_natCast, show (0 : Int).toNat = 0 from rfl, extract_all] at this
  exact this

/-! ### Terms ahead of other bytes -/
theorem take_app {t r : ByteArray} (h : Tm t) (hs : t.size ≤ 20000) : takeF (t ++ r) = (t, r, 0) := by
  have h1 := Tm.at_ (Lies.first t r) h 400 (by have := h.dep; omega)
  have h2 : scanF (t ++ r) = ((t.size : Int), depF t, 0) := by
    unfold scanF
    rw [show ((0 : Nat) : Int) = 0 from rfl, Int.zero_add] at h1
    rw [if_pos (by rw [h1]), h1]
  unfold takeF
  rw [h2]
  simp only [ne_eq, not_true_eq_false, if_false]
  rw [if_neg (by omega), Int.toNat_natCast]
  have e1 : (t ++ r).extract 0 t.size = t := by have := (Lies.first t r).whole; rwa [Nat.zero_add] at this
  have e2 : (t ++ r).extract t.size (t ++ r).size = r := by have := (Lies.last t r).whole; rwa [← ByteArray.size_append] at this
  rw [e1, e2]
theorem take_self {t : ByteArray} (h : Tm t) (hs : t.size ≤ 20000) : takeF t = (t, ⟨#[]⟩, 0) := by
  have := take_app (r := ⟨#[]⟩) h hs
  rwa [app_nil] at this
theorem take_sound {s : ByteArray} (h : (takeF s).2.2 = 0) : rightB (takeF s).1 = true ∧ (takeF s).1 ++ (takeF s).2.1 = s ∧ 0 < (takeF s).1.size := by
  unfold takeF at h ⊢
  by_cases c : (scanF s).2.2 ≠ 0
  · rw [if_pos c] at h; exact absurd h c
  rw [if_neg c] at h ⊢
  by_cases c2 : (scanF s).1 > 20000
  · rw [if_pos c2] at h; exact absurd h (by simp)
  rw [if_neg c2]
  have c' : (scanF s).2.2 = 0 := by simpa using c
  have hs : scanF s = endF s 400 0 := by
    unfold scanF at c' ⊢
    by_cases q : (endF s 400 0).2.2 = 0
    · rw [if_pos q]
    · rw [if_neg q] at c'; exact absurd c' q
  have hb := scanF_end c'
  rw [hs] at c' c2 hb ⊢
  have h1 := end_sound 400 0 (Nat.le_refl _) (Int.le_refl _) c'
  simp only
  rw [show (0 : Int).toNat = 0 from rfl] at h1
  have hz : (s.extract 0 (endF s 400 0).1.toNat).size = (endF s 400 0).1.toNat := by rw [ext_size _ (by omega)]; omega
  refine ⟨(right_iff _).mpr ⟨h1.1.1, by rw [hz]; omega⟩, ?_, by rw [hz]; omega⟩
  rw [cat_ext _ (by omega) (by omega) (by omega), extract_all]
theorem take_err {s : ByteArray} (h : (takeF s).2.2 ≠ 0) : (takeF s).1 = ⟨#[]⟩ ∧ (takeF s).2.1 = ⟨#[]⟩ := by
  unfold takeF at h ⊢
  by_cases c : (scanF s).2.2 ≠ 0
  · rw [if_pos c]; exact ⟨rfl, rfl⟩
  rw [if_neg c] at h ⊢
  by_cases c2 : (scanF s).1 > 20000
  · rw [if_pos c2]; exact ⟨rfl, rfl⟩
  rw [if_neg c2] at h
  exact absurd rfl h
/-- No term is the beginning of another one. -/
theorem tm_prefix {t r : ByteArray} (h : Tm t) (h2 : Tm (t ++ r)) : r = ⟨#[]⟩ := by
  have h1 := Tm.at_ (Lies.first t r) h 400 (by have := h.dep; omega)
  have h3 := h2.end_
  rw [show ((0 : Nat) : Int) = 0 from rfl, Int.zero_add, h3] at h1
  have h4 := congrArg Prod.fst h1
  simp only [ByteArray.size_append] at h4
  apply ByteArray.ext
  apply Array.eq_empty_of_size_eq_zero
  rw [ByteArray.size_data]
  omega
theorem tm_app_inj {a b r q : ByteArray} (ha : Tm a) (hb : Tm b) (h : a ++ r = b ++ q) : a = b ∧ r = q := by
  have h1 := Tm.at_ (Lies.first a r) ha 400 (by have := ha.dep; omega)
  have h2 := Tm.at_ (Lies.first b q) hb 400 (by have := hb.dep; omega)
  rw [h, h2] at h1
  have h3 := congrArg Prod.fst h1
  simp only at h3
  have hs : a.size = b.size := by omega
  have h4 := congrArg (fun x => x.data.toList) h
  simp only [ByteArray.data_append, Array.toList_append] at h4
  have h5 := List.append_inj h4 hs
  exact ⟨ByteArray.ext (Array.ext' h5.1), ByteArray.ext (Array.ext' h5.2)⟩
theorem cat_inj : ∀ {a b : List ByteArray}, (∀ t ∈ a, Tm t) → (∀ t ∈ b, Tm t) → cat a = cat b → a = b
  | [], [], _, _, _ => rfl
  | [], y :: b, _, hb, h => by
    have h1 := congrArg ByteArray.size h
    have h2 := (hb y List.mem_cons_self).pos
    simp only [cat, ByteArray.size_append] at h1
    have : (⟨#[]⟩ : ByteArray).size = 0 := rfl
    omega
  | x :: a, [], ha, _, h => by
    have h1 := congrArg ByteArray.size h
    have h2 := (ha x List.mem_cons_self).pos
    simp only [cat, ByteArray.size_append] at h1
    have : (⟨#[]⟩ : ByteArray).size = 0 := rfl
    omega
  | x :: a, y :: b, ha, hb, h => by
    have h1 := tm_app_inj (ha x List.mem_cons_self) (hb y List.mem_cons_self) h
    rw [h1.1, cat_inj (fun t ht => ha t (List.mem_cons_of_mem _ ht)) (fun t ht => hb t (List.mem_cons_of_mem _ ht)) h1.2]
theorem cat_app (a b : List ByteArray) : cat (a ++ b) = cat a ++ cat b := by
  induction a with
  | nil => rw [List.nil_append, cat, nil_app]
  | cons x a ih => rw [List.cons_append, cat, cat, ih, app_assoc]

/-! ### Cut short -/
theorem parts_ge {s : ByteArray} {p : Int → Int × Int × Int} {pow : Bool} (hp : ∀ i : Int, 0 ≤ i → (p i).2.2 = 0 → i < (p i).1) :
    ∀ (m : Nat) (i dep : Int) (last : ByteArray), 0 ≤ i → (partsF s p pow m i dep last).2.2 = 0 → i ≤ (partsF s p pow m i dep last).1 ∧ (1 ≤ m → i < (partsF s p pow m i dep last).1)
  | 0, i, dep, last, h0, _ => ⟨by simp only [partsF]; omega, fun h => by omega⟩
  | m + 1, i, dep, last, h0, hg => by
    simp only [partsF] at hg ⊢
    by_cases c1 : (p i).2.2 ≠ 0
    · rw [if_pos c1] at hg; exact absurd hg c1
    have c1' : (p i).2.2 = 0 := by simpa using c1
    rw [if_neg c1] at hg ⊢
    by_cases c2 : pow = true ∧ Op.bytesLess (s.extract i.toNat (p i).1.toNat).toList last.toList = true
    · rw [if_pos c2] at hg; exact absurd hg (by simp)
    rw [if_neg c2] at hg ⊢
    have h1 := hp i h0 c1'
    have h2 := (parts_ge hp m (p i).1 _ _ (by omega) hg).1
    exact ⟨by omega, fun _ => by omega⟩
theorem parts_cut {s u : ByteArray} {d e : Nat} {pow : Bool} (hu : u = s.extract 0 e) (he : e ≤ s.size)
    (hd : ∀ i : Int, 0 ≤ i → (endF s d i).2.2 = 0 → ((endF s d i).1 ≤ e → endF u d i = endF s d i) ∧ (i ≤ e → e < (endF s d i).1 → (endF u d i).2.2 = 2)) :
    ∀ (m : Nat) (i dep : Int) (last : ByteArray), 0 ≤ i → (partsF s (endF s d) pow m i dep last).2.2 = 0 →
      ((partsF s (endF s d) pow m i dep last).1 ≤ e → partsF u (endF u d) pow m i dep last = partsF s (endF s d) pow m i dep last) ∧
      (i ≤ e → e < (partsF s (endF s d) pow m i dep last).1 → (partsF u (endF u d) pow m i dep last).2.2 = 2)
  | 0, i, dep, last, h0, _ => ⟨fun _ => rfl, fun h1 h => by simp only [partsF] at h; omega⟩
  | m + 1, i, dep, last, h0, hg => by
    simp only [partsF] at hg ⊢
    by_cases c1 : (endF s d i).2.2 ≠ 0
    · rw [if_pos c1] at hg; exact absurd hg c1
    have c1' : (endF s d i).2.2 = 0 := by simpa using c1
    rw [if_neg c1] at hg ⊢
    by_cases c2 : pow = true ∧ Op.bytesLess (s.extract i.toNat (endF s d i).1.toNat).toList last.toList = true
    · rw [if_pos c2] at hg; exact absurd hg (by simp)
    rw [if_neg c2] at hg ⊢
    have ho := endF_ok d i h0 c1'
    have hge := (parts_ge (fun j hj hq => (endF_ok (s := s) d j hj hq).1) m (endF s d i).1 _ _ (by omega) hg).1
    by_cases c3 : (endF s d i).1 ≤ e
    · rw [(hd i h0 c1').1 c3, if_neg c1]
      have hx : u.extract i.toNat (endF s d i).1.toNat = s.extract i.toNat (endF s d i).1.toNat := by
        rw [hu]
        refine ext_bt (by rw [ext_size _ (by rw [ext_size _ he]; omega), ext_size _ (by omega)]) fun j hj => ?_
        rw [ext_size _ (by rw [ext_size _ he]; omega)] at hj
        rw [bt_extract _ _ _ _ (by omega) (by rw [ext_size _ he]; omega), bt_extract _ _ _ _ (by omega) he, bt_extract _ _ _ _ (by omega) (by omega), Nat.zero_add]
      rw [hx, if_neg c2]
      have h3 := parts_cut hu he hd m _ _ _ (by omega) hg
      exact ⟨h3.1, fun _ => h3.2 c3⟩
    · refine ⟨fun h => by omega, fun h1 _ => ?_⟩
      have h3 := (hd i h0 c1').2 h1 (by omega)
      rw [if_pos (by rw [h3]; decide)]
      exact h3
theorem begin_cut {s u : ByteArray} {e : Nat} (hu : u = s.extract 0 e) (he : e ≤ s.size) {i : Nat} (hi : i < e) (hb : (beginF s i).2.2.2.2.2.2 = true) :
    beginF u i = beginF s i ∨ ((beginF u i).2.2.2.2.2.2 = false ∧ (e : Int) ≤ (beginF s i).2.2.2.2.2.1) := by
  have hz : u.size = e := by rw [hu, ext_size _ he]; omega
  have b0 : bt u i = bt s i := by rw [hu, bt_extract _ _ _ _ (by omega) he, Nat.zero_add]
  have b1 : (i : Int) + 1 < (u.size : Int) → bt u ((i : Int) + 1) = bt s ((i : Int) + 1) := fun q => by
    have := bt_extract s 0 e (i + 1) (by omega) he
    rw [← hu, Nat.zero_add] at this
    exact_mod_cast this
  unfold beginF at hb ⊢
  rw [b0]
  by_cases k1 : bt s i = 107
  · rw [if_pos k1] at hb; rw [if_pos k1, if_pos k1]
    by_cases c : (i : Int) + 1 < (s.size : Int) ∧ (bt s ((i : Int) + 1) = 103 ∨ bt s ((i : Int) + 1) = 101)
    · rw [if_pos c]
      by_cases q : (i : Int) + 1 < (u.size : Int)
      · left; rw [if_pos (by rw [b1 q]; exact ⟨q, c.2⟩)]
      · right; rw [if_neg (fun h => q h.1)]; exact ⟨rfl, by simp only; omega⟩
    · rw [if_neg c] at hb; exact absurd hb (by simp)
  rw [if_neg k1] at hb; rw [if_neg k1, if_neg k1]
  by_cases k2 : bt s i = 104
  · left; rw [if_pos k2, if_pos k2]
  rw [if_neg k2] at hb; rw [if_neg k2, if_neg k2]
  by_cases k3 : bt s i = 112 ∨ bt s i = 120
  · left; rw [if_pos k3, if_pos k3]
  rw [if_neg k3] at hb; rw [if_neg k3, if_neg k3]
  by_cases k4 : bt s i = 115
  · left; rw [if_pos k4, if_pos k4]
  rw [if_neg k4] at hb; rw [if_neg k4, if_neg k4]
  by_cases k5 : bt s i = 101
  · rw [if_pos k5] at hb; rw [if_pos k5, if_pos k5]
    by_cases c : (i : Int) + 1 < (s.size : Int) ∧ 1 ≤ bt s ((i : Int) + 1) ∧ bt s ((i : Int) + 1) ≤ 32
    · rw [if_pos c]
      by_cases q : (i : Int) + 1 < (u.size : Int)
      · left; rw [if_pos (by rw [b1 q]; exact ⟨q, c.2⟩), b1 q]
      · right; rw [if_neg (fun h => q h.1)]; exact ⟨rfl, by simp only; omega⟩
    · rw [if_neg c] at hb; exact absurd hb (by simp)
  rw [if_neg k5] at hb
  exact absurd hb (by simp)
/-- What is read of bytes is read of their beginning, if that is long enough; else what is wrong is their form. -/
theorem end_cut {s u : ByteArray} {e : Nat} (hu : u = s.extract 0 e) (he : e ≤ s.size) : ∀ (d : Nat) (i : Int), 0 ≤ i → (endF s d i).2.2 = 0 →
    ((endF s d i).1 ≤ e → endF u d i = endF s d i) ∧ (i ≤ e → e < (endF s d i).1 → (endF u d i).2.2 = 2)
  | 0, i, _, hg => by simp [endF] at hg
  | d + 1, i, h0, hg => by
    obtain ⟨n, rfl⟩ : ∃ n : Nat, i = n := ⟨i.toNat, by omega⟩
    have hz : u.size = e := by rw [hu, ext_size _ he]; omega
    have hok := endF_ok (d + 1) n h0 hg
    simp only [endF] at hg hok ⊢
    by_cases c1 : (s.size : Int) ≤ n
    · rw [if_pos c1] at hg; exact absurd hg (by simp)
    rw [if_neg c1] at hg hok ⊢
    rw [Int.toNat_natCast] at hg hok ⊢
    have hn : n < s.size := by omega
    by_cases c0 : (u.size : Int) ≤ n
    · rw [if_pos c0]
      exact ⟨fun h => by omega, fun _ _ => rfl⟩
    rw [if_neg c0]
    have b0 : bt u n = bt s n := by rw [hu, bt_extract _ _ _ _ (by omega) he, Nat.zero_add]
    have hbs : ∀ j : Nat, j < (u.extract n u.size).size → bt (u.extract n u.size) j = bt (s.extract n s.size) j := by
      intro j hj
      rw [ext_size _ (Nat.le_refl _)] at hj
      rw [bt_extract _ _ _ _ (by omega) (Nat.le_refl _), bt_extract _ _ _ _ (by omega) (Nat.le_refl _), hu, bt_extract _ _ _ _ (by omega) he, Nat.zero_add]
    by_cases c2 : leafF (s.extract n s.size) ≠ 0
    · rw [if_pos c2] at hg hok ⊢
      simp only at hok ⊢
      by_cases c4 : (n : Int) + leafF (s.extract n s.size) ≤ e
      · have hl := leaf_same c2 (v := u.extract n u.size) (by rw [ext_size _ (Nat.le_refl _)]; omega) hbs
        rw [hl, if_pos c2]
        exact ⟨fun _ => rfl, fun _ h => by omega⟩
      · have hl := leaf_cut c2 (v := u.extract n u.size) (by rw [ext_size _ (Nat.le_refl _)]; omega) (by rw [ext_size _ (Nat.le_refl _)]; omega) hbs
        rw [if_neg (fun q => q hl), if_neg]
        · exact ⟨fun h => absurd h c4, fun _ _ => rfl⟩
        · intro hq
          have h1 := begin_first hq
          have h2 := leaf_first hn c2
          rw [b0] at h1
          omega
    rw [if_neg c2] at hg hok ⊢
    by_cases c3 : (beginF s n).2.2.2.2.2.2 = true
    · rw [if_pos c3] at hg hok ⊢
      have hlu : leafF (u.extract n u.size) = 0 := by
        rcases Int.decEq (leafF (u.extract n u.size)) 0 with q | q
        · have h1 := leaf_first (s := u) (by omega) q
          have h2 := begin_first c3
          rw [b0] at h1
          omega
        · exact q
      rw [if_neg (fun q => q hlu)]
      have h4 := beginF_ok (s := s) (at_ := n) (by omega) (by omega) (b1 := (beginF s n).1) (b2 := (beginF s n).2.1) (b3 := (beginF s n).2.2.1) (b4 := (beginF s n).2.2.2.1) (b5 := (beginF s n).2.2.2.2.1) (b6 := (beginF s n).2.2.2.2.2.1) (by rw [← c3])
      have hgt := (parts_ge (fun j hj hq => (endF_ok (s := s) d j hj hq).1) (beginF s n).1.toNat (beginF s n).2.2.2.2.2.1 _ _ (by omega) hg).2 (by omega)
      rcases begin_cut hu he (i := n) (by omega) c3 with hb | ⟨hb, hle⟩
      · rw [hb, if_pos c3]
        have h5 := parts_cut hu he (fun j hj hq => end_cut hu he d j hj hq) _ _ _ _ (by omega) hg
        by_cases c5 : (beginF s n).2.2.2.2.2.1 ≤ e
        · exact ⟨h5.1, fun _ => h5.2 c5⟩
        · refine ⟨fun h => by omega, fun _ _ => ?_⟩
          have h6 : (beginF s n).1.toNat ≠ 0 := by omega
          obtain ⟨m, hm⟩ := Nat.exists_eq_succ_of_ne_zero h6
          have h7 : (endF s d (beginF s n).2.2.2.2.2.1).2.2 = 0 := by
            rw [hm] at hg
            simp only [partsF] at hg
            by_cases q : (endF s d (beginF s n).2.2.2.2.2.1).2.2 ≠ 0
            · rw [if_pos q] at hg; exact absurd hg q
            · simpa using q
          have h8 : 1 ≤ d := by
            rcases Nat.eq_zero_or_pos d with q | q
            · subst q; simp [endF] at h7
            · exact q
          obtain ⟨d', rfl⟩ : ∃ d', d = d' + 1 := ⟨d - 1, by omega⟩
          have h9 : endF u (d' + 1) (beginF s n).2.2.2.2.2.1 = (0, 0, 2) := by simp only [endF]; rw [if_pos (by omega)]
          rw [hm, partsF, h9]
          simp
      · rw [if_neg (by rw [hb]; simp)]
        exact ⟨fun h => by omega, fun _ _ => rfl⟩
    · rw [if_neg c3] at hg; exact absurd hg (by simp)
/-- A term that is cut short is none. -/
theorem tm_cut {t : ByteArray} (h : Tm t) {n : Nat} (hn : n < t.size) : takeF (t.extract 0 n) = (⟨#[]⟩, ⟨#[]⟩, 2) ∧ rightB (t.extract 0 n) = false := by
  have h1 := (end_cut (u := t.extract 0 n) rfl (by omega) 400 0 (Int.le_refl _) h.1).2 (by omega) (by rw [h.2]; omega)
  have h2 : scanF (t.extract 0 n) = (0, 0, 2) := by unfold scanF; rw [if_neg (by rw [h1]; decide), h1]
  refine ⟨by unfold takeF; rw [h2]; rfl, by unfold rightB; rw [h2]; rfl⟩
end Go.Proofs.Ytpfpmjdifnoeoaa.Pure
