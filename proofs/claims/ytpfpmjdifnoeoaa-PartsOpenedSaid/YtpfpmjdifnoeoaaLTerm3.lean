/- Plain facts about terms: sorted rows of texts, elements, what is put together. -/
import Derived.Test.YtpfpmjdifnoeoaaLTerm2
import Derived.Test.YtpfpmjdifnoeoaaF88
import Derived.Test.YtpfpmjdifnoeoaaF90
import Derived.Test.YtpfpmjdifnoeoaaF141
import Derived.Sort.Walk0
namespace Go.Proofs.Ytpfpmjdifnoeoaa.Pure
set_option linter.unusedVariables false
set_option linter.unusedSimpArgs false
open Go.RowKit Go.Proofs.Ytpfpmjdifnoeoaa.F Go.Proofs.YtpfpmjdifnoeoaaW.PrintWords Go.Proofs.YtpfpmjdifnoeoaaW.PrintLast

/-! ### Texts by their bytes -/
def bl (s : ByteArray) : List UInt8 := s.data.toList
theorem bl_inj {a b : ByteArray} (h : bl a = bl b) : a = b := ByteArray.ext (Array.ext' h)
theorem bl_mk (l : List UInt8) : bl ⟨l.toArray⟩ = l := rfl
theorem bl_app (a b : ByteArray) : bl (a ++ b) = bl a ++ bl b := by simp [bl, ByteArray.data_append]
theorem less_iff (a b : ByteArray) : Op.bytesLess a.toList b.toList = true ↔ bl a < bl b := by
  rw [Go.Proofs.bytesLess_eq, decide_eq_true_eq, Lib.toList_data, Lib.toList_data]; rfl
theorem less_not (a b : ByteArray) : Op.bytesLess a.toList b.toList = false ↔ bl b ≤ bl a := by
  rw [← List.not_lt, ← less_iff]; simp
theorem rises_pairwise : ∀ (l : List ByteArray) (a : ByteArray), Rises a l ↔ (a :: l).Pairwise (fun x y => bl x ≤ bl y)
  | [], a => by simp [Rises]
  | t :: l, a => by
    rw [Rises, less_not, rises_pairwise l t]
    constructor
    · rintro ⟨h1, h2⟩
      refine List.pairwise_cons.mpr ⟨fun y hy => ?_, h2⟩
      rcases List.mem_cons.mp hy with rfl | hy
      · exact h1
      · exact List.le_trans h1 ((List.pairwise_cons.mp h2).1 y hy)
    · intro h
      exact ⟨(List.pairwise_cons.mp h).1 t List.mem_cons_self, (List.pairwise_cons.mp h).2⟩
theorem nil_le (l : List UInt8) : ([] : List UInt8) ≤ l := by
  rw [← List.not_lt]; exact List.not_lt_nil l
theorem rises_nil (l : List ByteArray) : Rises ⟨#[]⟩ l ↔ l.Pairwise (fun x y => bl x ≤ bl y) := by
  rw [rises_pairwise, List.pairwise_cons]
  exact ⟨fun h => h.2, fun h => ⟨fun y _ => nil_le _, h⟩⟩
theorem sortB_perm (l : List ByteArray) : (sortB l).Perm l := by
  unfold sortB
  have h := (List.mergeSort_perm (l.map (·.data.toList)) fun x y => decide (x ≤ y)).map fun x => (⟨x.toArray⟩ : ByteArray)
  rw [List.map_map] at h
  have e : l.map ((fun x => (⟨x.toArray⟩ : ByteArray)) ∘ fun x => x.data.toList) = l := by
    have : ((fun x : List UInt8 => (⟨x.toArray⟩ : ByteArray)) ∘ fun x => x.data.toList) = id := by funext x; simp
    rw [this, List.map_id]
  rw [e] at h
  exact h
theorem sortB_sorted (l : List ByteArray) : (sortB l).Pairwise (fun x y => bl x ≤ bl y) := by
  unfold sortB
  rw [List.pairwise_map]
  have h := List.pairwise_mergeSort (le := fun x y : List UInt8 => decide (x ≤ y)) (fun a b c h1 h2 => by
    rw [decide_eq_true_eq] at h1 h2 ⊢; exact List.le_trans h1 h2) (fun a b => by
    rw [Bool.or_eq_true, decide_eq_true_eq, decide_eq_true_eq]; exact List.le_total a b) (l.map (·.data.toList))
  exact h.imp fun {a b} h => by rw [decide_eq_true_eq] at h; exact h
theorem sorted_unique {a b : List ByteArray} (ha : a.Pairwise (fun x y => bl x ≤ bl y)) (hb : b.Pairwise (fun x y => bl x ≤ bl y)) (h : a.Perm b) : a = b :=
  List.Perm.eq_of_pairwise (fun _ _ _ _ h1 h2 => bl_inj (List.le_antisymm h1 h2)) ha hb h
theorem sortB_of_perm {a b : List ByteArray} (h : a.Perm b) : sortB a = sortB b :=
  sorted_unique (sortB_sorted a) (sortB_sorted b) (((sortB_perm a).trans h).trans (sortB_perm b).symm)
theorem sortB_of_sorted {a : List ByteArray} (h : a.Pairwise (fun x y => bl x ≤ bl y)) : sortB a = a := sorted_unique (sortB_sorted a) h (sortB_perm a)
theorem sortB_rises (l : List ByteArray) : Rises ⟨#[]⟩ (sortB l) := (rises_nil _).mpr (sortB_sorted l)
theorem joinB_cat (l : List ByteArray) : joinB l = cat l := by
  apply bl_inj
  show Lib.join (l.map (·.data.toList)) [] = bl (cat l)
  cases l with
  | nil => rfl
  | cons x l =>
    rw [List.map_cons, Lib.join_cons, cat, bl_app]
    congr 1
    induction l with
    | nil => rfl
    | cons y l ih =>
      have e : Lib.joinTail [] ((y :: l).map (·.data.toList)) = y.data.toList ++ Lib.joinTail [] (l.map (·.data.toList)) := by simp [Lib.joinTail]
      rw [e, ih, cat, bl_app]
      rfl
theorem cat_size_perm {a b : List ByteArray} (h : a.Perm b) : (cat a).size = (cat b).size := by
  induction h with
  | nil => rfl
  | cons x _ ih => simp only [cat, ByteArray.size_append, ih]
  | swap x y l => simp only [cat, ByteArray.size_append]; omega
  | trans _ _ h1 h2 => exact h1.trans h2
theorem deepest_le {m dep : Int} {ts : List ByteArray} (h : ∀ t ∈ ts, depF t ≤ m) (hd : dep ≤ m) : deepest dep ts ≤ m := by
  unfold deepest
  induction ts generalizing dep with
  | nil => exact hd
  | cons t ts ih =>
    rw [List.foldl_cons]
    exact ih (fun x hx => h x (List.mem_cons_of_mem _ hx)) (by have := h t List.mem_cons_self; unfold mx; split <;> omega)
theorem le_deepest {dep : Int} {ts : List ByteArray} : dep ≤ deepest dep ts ∧ ∀ t ∈ ts, depF t ≤ deepest dep ts := by
  unfold deepest
  induction ts generalizing dep with
  | nil => exact ⟨Int.le_refl _, by simp⟩
  | cons t ts ih =>
    rw [List.foldl_cons]
    have h1 := @ih (mx dep (depF t))
    have h2 : dep ≤ mx dep (depF t) ∧ depF t ≤ mx dep (depF t) := by unfold mx; split <;> omega
    refine ⟨by omega, fun x hx => ?_⟩
    rcases List.mem_cons.mp hx with rfl | hx
    · omega
    · exact h1.2 x hx
theorem cat_mem_size {t : ByteArray} : ∀ {ts : List ByteArray}, t ∈ ts → t.size ≤ (cat ts).size
  | x :: ts, h => by
    rw [cat, ByteArray.size_append]
    rcases List.mem_cons.mp h with rfl | h
    · omega
    · have := cat_mem_size h; omega

/-! ### What stands in a term -/
theorem split_cat : ∀ (ts : List ByteArray) (k : Nat), (∀ t ∈ ts, Tm t ∧ t.size ≤ 20000) → (cat ts).size ≤ k → splitF k (cat ts) = ts
  | [], 0, _, _ => rfl
  | [], k + 1, _, _ => by rw [splitF, if_pos (show (cat []).size = 0 from rfl)]
  | t :: ts, 0, h, hk => by
    have := (h t List.mem_cons_self).1.pos
    rw [cat, ByteArray.size_append] at hk
    omega
  | t :: ts, k + 1, h, hk => by
    have h1 := h t List.mem_cons_self
    have h2 := h1.1.pos
    rw [cat, ByteArray.size_append] at hk
    rw [splitF, if_neg (by rw [cat, ByteArray.size_append]; omega), cat, take_app h1.1 h1.2]
    simp only
    rw [split_cat ts k (fun x hx => h x (List.mem_cons_of_mem _ hx)) (by omega)]
theorem bt_head {t h : ByteArray} {ts : List ByteArray} {pow : Bool} (n : Node t h ts pow) : bt t 0 = bt h 0 := by
  rw [n.eq]
  exact bt_left h (cat ts) 0 n.head.pos
theorem Node.body {t h : ByteArray} {ts : List ByteArray} {pow : Bool} (n : Node t h ts pow) : t.extract h.size t.size = cat ts := by
  have := (Lies.last h (cat ts)).whole
  rw [← n.eq, ← ByteArray.size_append, ← n.eq] at this
  exact this
theorem Node.small {t h : ByteArray} {ts : List ByteArray} {pow : Bool} (n : Node t h ts pow) (hs : t.size ≤ 20000) : ∀ x ∈ ts, Tm x ∧ x.size ≤ 20000 := by
  intro x hx
  have h1 := cat_mem_size hx
  have h2 : t.size = h.size + (cat ts).size := by rw [n.eq, ByteArray.size_append]
  exact ⟨(n.parts x hx).1, by omega⟩
theorem leaf_bytes {t : ByteArray} (h : Leaf t) : bt t 0 = 103 ∨ bt t 0 = 110 ∨ bt t 0 = 117 ∨ bt t 0 = 105 ∨ bt t 0 = 116 := by
  have := h.1
  unfold leafF at this
  repeat' split at this
  all_goals first | omega | (exact absurd rfl this)
theorem node_bytes {t h : ByteArray} {ts : List ByteArray} {pow : Bool} (n : Node t h ts pow) : bt t 0 = 107 ∨ bt t 0 = 104 ∨ bt t 0 = 112 ∨ bt t 0 = 120 ∨ bt t 0 = 115 ∨ (bt t 0 = 101 ∧ pow = true) := by
  rw [bt_head n]
  cases n.head
  · exact .inl rfl
  · exact .inr (.inl rfl)
  · exact .inr (.inr (.inl rfl))
  · exact .inr (.inr (.inr (.inl rfl)))
  · exact .inr (.inr (.inr (.inr (.inl rfl))))
  · exact .inr (.inr (.inr (.inr (.inr ⟨rfl, rfl⟩))))
/-- An element of exponents. -/
def elmOf (l : List ByteArray) : ByteArray := if l = [] then ⟨#[103]⟩ else (⟨#[101, UInt8.ofNat l.length]⟩ : ByteArray) ++ cat (sortB l)
theorem head_pow (n : Nat) (h : n ≤ 32) : strOfNums [101, (n : Nat)] = (⟨#[101, UInt8.ofNat n]⟩ : ByteArray) := by
  show (⟨#[UInt8.ofNat 101, UInt8.ofNat ((n : Int)).toNat]⟩ : ByteArray) = _
  rw [Int.toNat_natCast]
  rfl
theorem elmOf_node {l : List ByteArray} (h0 : l ≠ []) (h1 : l.length ≤ 32) (hp : ∀ x ∈ l, Tm x ∧ depF x ≤ 399) : Node (elmOf l) ⟨#[101, UInt8.ofNat l.length]⟩ (sortB l) true := by
  have hl := sortB_length l
  refine ⟨by unfold elmOf; rw [if_neg h0], ?_, fun x hx => hp x (sort_mem l x hx), fun _ => sortB_rises l⟩
  have := HeadOf.pow (sortB l) (by rw [hl]; exact List.length_pos_iff.mpr h0) (by rw [hl]; exact h1)
  rwa [hl] at this
theorem elmOf_size {l : List ByteArray} (h0 : l ≠ []) : (elmOf l).size = 2 + (cat l).size := by
  unfold elmOf
  rw [if_neg h0, ByteArray.size_append, cat_size_perm (sortB_perm l)]
  rfl
theorem elmOf_inj {l m : List ByteArray} (hl : l.length ≤ 32) (hm : m.length ≤ 32) (h1 : ∀ x ∈ l, Tm x ∧ depF x ≤ 399) (h2 : ∀ x ∈ m, Tm x ∧ depF x ≤ 399) (h : elmOf l = elmOf m) : l.Perm m := by
  by_cases c : l = []
  · by_cases d : m = []
    · rw [c, d]
    · have := congrArg (fun x => bt x 0) h
      rw [bt_head (elmOf_node d hm h2)] at this
      unfold elmOf at this
      rw [if_pos c] at this
      exact absurd this (by show ¬ ((103 : Int) = 101); decide)
  · by_cases d : m = []
    · have := congrArg (fun x => bt x 0) h
      rw [bt_head (elmOf_node c hl h1)] at this
      unfold elmOf at this
      rw [if_pos d] at this
      exact absurd this (by show ¬ ((101 : Int) = 103); decide)
    · have h3 := h
      unfold elmOf at h3
      rw [if_neg c, if_neg d] at h3
      have h4 := congrArg (fun x => bl x) h3
      simp only [bl_app] at h4
      have h5 := (List.append_inj h4 rfl).2
      have h6 := cat_inj (fun t ht => (h1 t (sort_mem l t ht)).1) (fun t ht => (h2 t (sort_mem m t ht)).1) (bl_inj h5)
      have := sortB_perm l
      rw [h6] at this
      exact this.symm.trans (sortB_perm m)
theorem exps_node {t h : ByteArray} {ts : List ByteArray} (n : Node t h ts true) (hs : t.size ≤ 20000) : expsF t = ts := by
  have hb : bt t 0 = 101 := by
    rcases node_bytes n with q | q | q | q | q | q
    all_goals first | exact q.1 | skip
    all_goals (rw [bt_head n] at q; have hh := n.head; cases hh; exact absurd q (by show ¬ ((101 : Int) = _); decide))
  unfold expsF
  rw [if_neg (by omega)]
  have h2 := n.body
  rw [show h.size = 2 by rw [n.head.size]; rfl] at h2
  rw [h2]
  exact split_cat ts _ (n.small hs) (by have := congrArg ByteArray.size n.eq; rw [ByteArray.size_append] at this; omega)
/-- A right element is one of its exponents, which stand in it by bytes. -/
theorem elem_cases {t : ByteArray} (h : elemB t = true) : t = elmOf (expsF t) ∧ (expsF t).length ≤ 32 ∧ (∀ x ∈ expsF t, Tm x ∧ depF x ≤ 399 ∧ x.size ≤ 20000) ∧ (expsF t).Pairwise (fun x y => bl x ≤ bl y) := by
  unfold elemB at h
  rw [Bool.and_eq_true, Bool.or_eq_true, beq_iff_eq, beq_iff_eq] at h
  obtain ⟨hr, hb⟩ := h
  obtain ⟨ht, hs⟩ := (right_iff t).mp hr
  rcases ht.cases with hl | ⟨hd, ts, pow, n⟩
  · have h103 : bt t 0 = 103 := by have := leaf_bytes hl; omega
    have h1 : leafF t = 1 := by unfold leafF; rw [if_pos h103]
    have h2 : t.size = 1 := by have := hl.2; omega
    have he : expsF t = [] := by unfold expsF; rw [if_pos h103]
    rw [he]
    refine ⟨?_, by simp, by simp, List.Pairwise.nil⟩
    refine ext_bt h2 fun j hj => ?_
    obtain rfl : j = 0 := by omega
    rw [show ((0 : Nat) : Int) = 0 from rfl, h103]
    rfl
  · have hp : pow = true ∧ bt t 0 = 101 := by
      rcases node_bytes n with q | q | q | q | q | q
      all_goals first | exact ⟨q.2, q.1⟩ | omega
    obtain ⟨rfl, h101⟩ := hp
    have he := exps_node n hs
    rw [he]
    have hd2 := n.head
    have hr := n.rises rfl
    have hsorted := (rises_nil ts).mp hr
    cases hd2 with
    | pow _ h1 h2 =>
      have hne : ts ≠ [] := by rintro rfl; simp at h1
      refine ⟨?_, h2, fun x hx => ⟨(n.parts x hx).1, (n.parts x hx).2, (n.small hs x hx).2⟩, hsorted⟩
      unfold elmOf
      rw [if_neg hne, sortB_of_sorted hsorted]
      exact n.eq
theorem elem_of_node {l : List ByteArray} (h0 : l ≠ []) (h1 : l.length ≤ 32) (hp : ∀ x ∈ l, Tm x ∧ depF x ≤ 399) (hs : (elmOf l).size ≤ 20000) : elemB (elmOf l) = true ∧ expsF (elmOf l) = sortB l := by
  have n := elmOf_node h0 h1 hp
  refine ⟨?_, exps_node n hs⟩
  unfold elemB
  rw [(right_iff _).mpr ⟨n.tm.1, hs⟩, bt_head n]
  rfl
theorem gen_elem : elemB ⟨#[103]⟩ = true ∧ expsF ⟨#[103]⟩ = [] := by
  have hl : Leaf ⟨#[103]⟩ := by
    have : leafF ⟨#[103]⟩ = 1 := by unfold leafF; rfl
    exact ⟨by rw [this]; decide, by rw [this]; rfl⟩
  refine ⟨?_, rfl⟩
  unfold elemB
  rw [(right_iff _).mpr ⟨hl.tm.1, by decide⟩]
  rfl
/-- What a power comes to. -/
theorem pow_eq {a b : ByteArray} (ha : elemB a = true) (hb : rightB b = true) : powF a b = if 32 < (expsF a).length + 1 then (⟨#[]⟩, 3) else wholeF (elmOf (expsF a ++ [b])) := by
  unfold powF
  rw [if_pos ha, if_pos hb]
  by_cases c : 32 < (expsF a).length + 1
  · rw [if_pos c, if_pos c]
  · rw [if_neg c, if_neg c, head_pow _ (by omega), joinB_cat]
    unfold elmOf
    rw [if_neg (by simp), List.length_append]
    rfl
theorem whole_ok {t : ByteArray} (h : (wholeF t).2 = 0) : (wholeF t).1 = t ∧ rightB t = true ∧ t.size ≤ 20000 := by
  unfold wholeF at h ⊢
  split at h
  · exact absurd h (by decide)
  · rename_i c
    rw [if_neg c]
    split at h
    · rename_i d
      rw [if_pos d]
      exact ⟨rfl, d, by omega⟩
    · exact absurd h (by decide)
theorem whole_right {t : ByteArray} (h : rightB t = true) : wholeF t = (t, 0) := by
  have := (right_iff t).mp h
  unfold wholeF
  rw [if_neg (by omega), if_pos h]
theorem whole_codes (t : ByteArray) : (wholeF t).2 = 0 ∨ (wholeF t = (⟨#[]⟩, 3)) ∨ (wholeF t = (⟨#[]⟩, 4)) := by
  unfold wholeF
  split
  · exact .inr (.inl rfl)
  · split
    · exact .inl rfl
    · exact .inr (.inr rfl)
/-- Is a node right? -/
theorem node_right {t h : ByteArray} {ts : List ByteArray} {pow : Bool} (n : Node t h ts pow) (hs : t.size ≤ 20000) : rightB t = true := (right_iff t).mpr ⟨n.tm.1, hs⟩
theorem addF_cat (h : ByteArray) (l : List ByteArray) : addF h l = h ++ cat l := by
  unfold addF
  induction l generalizing h with
  | nil => rw [List.foldl_nil, cat, app_nil]
  | cons x l ih => rw [List.foldl_cons, ih, cat, app_assoc]
theorem ofF_ok {h : ByteArray} {l : List ByteArray} (hl : ∀ x ∈ l, rightB x = true) : ofF h l = wholeF (h ++ cat l) := by
  unfold ofF
  rw [if_pos (List.all_eq_true.mpr hl), addF_cat]
theorem ofF_bad {h : ByteArray} {l : List ByteArray} {x : ByteArray} (hx : x ∈ l) (hb : rightB x = false) : ofF h l = (⟨#[]⟩, 1) := by
  unfold ofF
  rw [if_neg]
  intro q
  have := List.all_eq_true.mp q x hx
  rw [hb] at this
  exact absurd this (by simp)
/-- A term deeper than may be is none. -/
theorem deep_not {h : ByteArray} {ts : List ByteArray} {pow : Bool} (hh : HeadOf h ts pow) (hp : ∀ x ∈ ts, Tm x) {x : ByteArray} (hx : x ∈ ts) (hd : 400 ≤ depF x) : ¬ Tm (h ++ cat ts) := by
  intro ht
  rcases ht.cases with hl | ⟨h', ts', pow', n⟩
  · have h1 := leaf_bytes hl
    rw [show bt (h ++ cat ts) 0 = bt h 0 from bt_left h (cat ts) 0 hh.pos] at h1
    have e : ∀ x, bt ⟨#[101, x]⟩ 0 = 101 := fun _ => rfl
    cases hh <;> first | exact absurd h1 (by decide) | (simp only [e] at h1; exact absurd h1 (by decide))
  · have hz : h.size = h'.size ∧ pow = pow' := by
      have h1 := bt_head n
      rw [show bt (h ++ cat ts) 0 = bt h 0 from bt_left h (cat ts) 0 hh.pos] at h1
      have h2 := n.head
      have e : ∀ x, bt ⟨#[101, x]⟩ 0 = 101 := fun _ => rfl
      cases hh <;> cases h2 <;> first | exact ⟨rfl, rfl⟩ | exact absurd h1 (by decide) | (simp only [e] at h1; exact absurd h1 (by decide))
    have h3 := congrArg bl n.eq
    rw [bl_app, bl_app] at h3
    have h4 := List.append_inj h3 hz.1
    have h5 := cat_inj hp (fun t ht => (n.parts t ht).1) (bl_inj h4.2)
    have := (n.parts x (by rw [← h5]; exact hx)).2
    omega
end Go.Proofs.Ytpfpmjdifnoeoaa.Pure
