/- Plain trees: leaves with processes, and two trees in brackets: their texts, what is read of a text, members, depth. -/
import Derived.Test.YtiofobdmkkbmlaaDoorF0
namespace Go.Proofs.YtiofobdmkkbmlaaDoor.Pure
set_option linter.unusedVariables false
set_option linter.unusedSimpArgs false
open Go.RowKit

inductive Tr where
  | leaf (p : Int) : Tr
  | node (l r : Tr) : Tr
/-- A tree's text. -/
def Tr.bytes : Tr → List UInt8
  | .leaf p => [UInt8.ofNat (48 + p.toNat)]
  | .node l r => 40 :: (l.bytes ++ (r.bytes ++ [41]))
def Tr.text (t : Tr) : ByteArray := ⟨t.bytes.toArray⟩
def Tr.leaves : Tr → List Int
  | .leaf p => [p]
  | .node l r => l.leaves ++ r.leaves
def Tr.depth : Tr → Nat
  | .leaf _ => 0
  | .node l r => 1 + max l.depth r.depth
def Tr.nodes : Tr → Nat
  | .leaf _ => 1
  | .node l r => 1 + l.nodes + r.nodes
/-- All leaves are processes. -/
def Tr.Ok (t : Tr) : Prop := ∀ p ∈ t.leaves, 1 ≤ p ∧ p ≤ 8
theorem Tr.Ok.left {l r : Tr} (h : (Tr.node l r).Ok) : l.Ok := fun p hp => h p (List.mem_append_left _ hp)
theorem Tr.Ok.right {l r : Tr} (h : (Tr.node l r).Ok) : r.Ok := fun p hp => h p (List.mem_append_right _ hp)
theorem Tr.Ok.node {l r : Tr} (hl : l.Ok) (hr : r.Ok) : (Tr.node l r).Ok := fun p hp => (List.mem_append.mp hp).elim (hl p) (hr p)
theorem Tr.leaves_pos (t : Tr) : 0 < t.leaves.length := by
  induction t with
  | leaf p => exact Nat.one_pos
  | node l r hl hr => rw [Tr.leaves, List.length_append]; omega
theorem Tr.bytes_pos (t : Tr) : 0 < t.bytes.length := by
  cases t with
  | leaf p => exact Nat.one_pos
  | node l r => rw [Tr.bytes, List.length_cons]; omega
theorem Tr.bytes_len (t : Tr) : t.bytes.length + 2 = 3 * t.leaves.length := by
  induction t with
  | leaf p => rfl
  | node l r hl hr => simp only [Tr.bytes, Tr.leaves, List.length_cons, List.length_append, List.length_nil]; omega
theorem Tr.nodes_len (t : Tr) : t.nodes + 1 = 2 * t.leaves.length := by
  induction t with
  | leaf p => rfl
  | node l r hl hr => simp only [Tr.nodes, Tr.leaves, List.length_append]; omega
theorem Tr.depth_lt (t : Tr) : t.depth < t.leaves.length := by
  induction t with
  | leaf p => exact Nat.one_pos
  | node l r hl hr => simp only [Tr.depth, Tr.leaves, List.length_append]; omega
theorem Tr.len_pow (t : Tr) : t.leaves.length ≤ 2 ^ t.depth := by
  induction t with
  | leaf p => exact Nat.le_refl _
  | node l r hl hr =>
    simp only [Tr.depth, Tr.leaves, List.length_append]
    have h1 : 2 ^ l.depth ≤ 2 ^ max l.depth r.depth := Nat.pow_le_pow_right (by decide) (Nat.le_max_left _ _)
    have h2 : 2 ^ r.depth ≤ 2 ^ max l.depth r.depth := Nat.pow_le_pow_right (by decide) (Nat.le_max_right _ _)
    rw [Nat.pow_add]
    omega
/-- The tree that a text begins with, and what is behind it. -/
def parseN : Nat → List UInt8 → Option (Tr × List UInt8)
  | 0, _ => none
  | _ + 1, [] => none
  | n + 1, c :: s =>
    if 49 ≤ c.toNat ∧ c.toNat ≤ 56 then some (.leaf ((c.toNat : Int) - 48), s)
    else if c.toNat = 40 then (match parseN n s with
      | none => none
      | some (l, s1) => match parseN n s1 with
        | none => none
        | some (r, s2) => match s2 with
          | [] => none
          | d :: s3 => if d.toNat = 41 then some (.node l r, s3) else none)
    else none
theorem byte_leaf {c : UInt8} (h : 49 ≤ c.toNat ∧ c.toNat ≤ 56) : UInt8.ofNat (48 + ((c.toNat : Int) - 48).toNat) = c := by
  have : 48 + ((c.toNat : Int) - 48).toNat = c.toNat := by omega
  rw [this]
  exact UInt8.ofNat_toNat
theorem leaf_byte {p : Int} (h : 1 ≤ p ∧ p ≤ 8) : (UInt8.ofNat (48 + p.toNat)).toNat = 48 + p.toNat := by
  rw [UInt8.toNat_ofNat']
  omega
theorem parseN_sound : ∀ (n : Nat) (s : List UInt8) (t : Tr) (r : List UInt8), parseN n s = some (t, r) → s = t.bytes ++ r ∧ t.Ok
  | 0, _, _, _, h => by cases h
  | _ + 1, [], _, _, h => by cases h
  | n + 1, c :: s, t, r, h => by
    rw [parseN] at h
    split at h
    · rename_i hc
      cases h
      refine ⟨?_, ?_⟩
      · rw [Tr.bytes, byte_leaf hc]; rfl
      · intro p hp
        cases List.mem_singleton.mp hp
        omega
    split at h
    case isFalse => cases h
    rename_i hc
    split at h
    · cases h
    rename_i l s1 h1
    split at h
    · cases h
    rename_i q s2 h2
    split at h
    · cases h
    rename_i d s3
    split at h
    case isFalse => cases h
    rename_i hd
    cases h
    obtain ⟨e1, o1⟩ := parseN_sound n s l s1 h1
    obtain ⟨e2, o2⟩ := parseN_sound n s1 q _ h2
    refine ⟨?_, o1.node o2⟩
    have c40 : c = 40 := UInt8.toNat_inj.mp hc
    have d41 : d = 41 := UInt8.toNat_inj.mp hd
    rw [Tr.bytes, e1, e2, c40, d41]
    simp
theorem parseN_same : ∀ (n m : Nat) (s : List UInt8), s.length < n → s.length < m → parseN n s = parseN m s
  | 0, _, _, h, _ => absurd h (Nat.not_lt_zero _)
  | _ + 1, 0, _, _, h => absurd h (Nat.not_lt_zero _)
  | n + 1, m + 1, [], _, _ => rfl
  | n + 1, m + 1, c :: s, hn, hm => by
    rw [List.length_cons] at hn hm
    rw [parseN, parseN]
    rw [parseN_same n m s (by omega) (by omega)]
    cases h1 : parseN m s with
    | none => rfl
    | some x =>
      obtain ⟨l, s1⟩ := x
      have h2 := (parseN_sound m s l s1 h1).1
      have h3 := congrArg List.length h2
      rw [List.length_append] at h3
      simp only
      rw [parseN_same n m s1 (by omega) (by omega)]
def prs (s : List UInt8) : Option (Tr × List UInt8) := parseN (s.length + 1) s
theorem prs_nil : prs [] = none := rfl
theorem prs_cons (c : UInt8) (s : List UInt8) : prs (c :: s) =
    if 49 ≤ c.toNat ∧ c.toNat ≤ 56 then some (.leaf ((c.toNat : Int) - 48), s)
    else if c.toNat = 40 then (match prs s with
      | none => none
      | some (l, s1) => match prs s1 with
        | none => none
        | some (r, s2) => match s2 with
          | [] => none
          | d :: s3 => if d.toNat = 41 then some (.node l r, s3) else none)
    else none := by
  unfold prs
  rw [List.length_cons, parseN]
  cases h1 : parseN (s.length + 1) s with
  | none => rfl
  | some x =>
    obtain ⟨l, s1⟩ := x
    have h3 := congrArg List.length (parseN_sound _ _ _ _ h1).1
    rw [List.length_append] at h3
    simp only
    rw [parseN_same (s.length + 1) (s1.length + 1) s1 (by omega) (by omega)]
theorem prs_sound {s : List UInt8} {t : Tr} {r : List UInt8} (h : prs s = some (t, r)) : s = t.bytes ++ r ∧ t.Ok := parseN_sound _ _ _ _ h
theorem prs_of : ∀ (t : Tr) (r : List UInt8), t.Ok → prs (t.bytes ++ r) = some (t, r)
  | .leaf p, r, h => by
    have hp := h p (List.mem_singleton.mpr rfl)
    have hb := leaf_byte hp
    rw [Tr.bytes, List.cons_append, List.nil_append, prs_cons, if_pos (by omega), hb]
    congr 3
    omega
  | .node a b, r, h => by
    rw [Tr.bytes, List.cons_append, prs_cons, if_neg (by decide), if_pos (by decide)]
    rw [List.append_assoc, prs_of a _ h.left]
    simp only
    rw [List.append_assoc, prs_of b _ h.right]
    rfl
theorem prs_len {s : List UInt8} {t : Tr} {r : List UInt8} (h : prs s = some (t, r)) : r.length < s.length := by
  have h1 := congrArg List.length (prs_sound h).1
  have h2 := t.bytes_pos
  rw [List.length_append] at h1
  omega
/-- Rising, on from a number, and none above eight, and one at least. -/
def rowUp : Int → List Int → Bool
  | last, [] => decide (0 < last)
  | last, x :: l => if x ≤ last ∨ x > 8 then false else rowUp x l
def Tr.mems (t : Tr) : List Int := t.leaves.mergeSort (fun a b => decide (a ≤ b))
/-- A tree that is right: each member once. -/
def Tr.Right (t : Tr) : Prop := t.Ok ∧ t.leaves.Nodup
instance (t : Tr) : Decidable t.Ok := inferInstanceAs (Decidable (∀ p ∈ t.leaves, 1 ≤ p ∧ p ≤ 8))
instance (t : Tr) : Decidable t.Right := inferInstanceAs (Decidable (t.Ok ∧ t.leaves.Nodup))
def treeOf (s : ByteArray) : Option Tr := match prs s.data.toList with
  | some (t, []) => if t.Right then some t else none
  | _ => none
theorem treeOf_some {s : ByteArray} {t : Tr} : treeOf s = some t ↔ s = t.text ∧ t.Right := by
  unfold treeOf
  constructor
  · intro h
    split at h
    case h_2 => cases h
    rename_i u hu
    split at h
    case isFalse => cases h
    rename_i hr
    cases h
    have h1 := (prs_sound hu).1
    rw [List.append_nil] at h1
    exact ⟨ByteArray.ext (Array.ext' h1), hr⟩
  · rintro ⟨rfl, hr⟩
    have h1 := prs_of t [] hr.1
    rw [List.append_nil] at h1
    have h2 : t.text.data.toList = t.bytes := rfl
    rw [h2, h1]
    simp only
    rw [if_pos hr]
theorem treeOf_text {t : Tr} (h : t.Right) : treeOf t.text = some t := treeOf_some.mpr ⟨rfl, h⟩
theorem text_inj {a b : Tr} (ha : a.Ok) (hb : b.Ok) (h : a.text = b.text) : a = b := by
  have h1 : a.bytes = b.bytes := by
    have := congrArg (fun s => s.data.toList) h
    exact this
  have h2 := prs_of a [] ha
  rw [h1, prs_of b [] hb] at h2
  cases h2
  rfl
/-! members -/
theorem mems_perm (t : Tr) : t.mems.Perm t.leaves := List.mergeSort_perm _ _
theorem mems_len (t : Tr) : t.mems.length = t.leaves.length := (mems_perm t).length_eq
theorem mems_mem {t : Tr} {p : Int} : p ∈ t.mems ↔ p ∈ t.leaves := (mems_perm t).mem_iff
/-! a full tree, the place at which one joins -/
def Tr.full (t : Tr) : Bool := decide (t.leaves.length = 2 ^ t.depth)
def Tr.place : Tr → Nat
  | .leaf _ => 0
  | .node l r => if (Tr.node l r).full = true then (Tr.node l r).depth else min l.place r.place
def Tr.put (d : Nat) (p : Int) : Tr → Tr
  | .leaf q => .node (.leaf q) (.leaf p)
  | .node l r => if (Tr.node l r).full = true then .node (.node l r) (.leaf p) else if r.place = d then .node l (r.put d p) else .node (l.put d p) r
def Tr.join (t : Tr) (p : Int) : Tr := t.put t.place p
theorem full_leaf (p : Int) : (Tr.leaf p).full = true := rfl
theorem full_node {l r : Tr} : (Tr.node l r).full = true ↔ l.full = true ∧ r.full = true ∧ l.depth = r.depth := by
  unfold Tr.full
  rw [decide_eq_true_eq, decide_eq_true_eq, decide_eq_true_eq]
  simp only [Tr.leaves, Tr.depth, List.length_append]
  have h1 := l.len_pow
  have h2 := r.len_pow
  rw [Nat.pow_add]
  constructor
  · intro h
    have h3 : 2 ^ l.depth ≤ 2 ^ max l.depth r.depth := Nat.pow_le_pow_right (by decide) (Nat.le_max_left _ _)
    have h4 : 2 ^ r.depth ≤ 2 ^ max l.depth r.depth := Nat.pow_le_pow_right (by decide) (Nat.le_max_right _ _)
    have h5 : 2 ^ l.depth = 2 ^ max l.depth r.depth := by omega
    have h6 : 2 ^ r.depth = 2 ^ max l.depth r.depth := by omega
    have h7 := (Nat.pow_right_inj (by decide)).mp h5
    have h8 := (Nat.pow_right_inj (by decide)).mp h6
    omega
  · rintro ⟨e1, e2, e3⟩
    rw [e1, e2, e3, Nat.max_self]
    omega
theorem place_full {t : Tr} (h : t.full = true) : t.place = t.depth := by
  cases t with
  | leaf p => rfl
  | node l r => rw [Tr.place, if_pos h]
theorem place_lt : ∀ {t : Tr}, t.full ≠ true → t.place < t.depth
  | .leaf p, h => absurd rfl h
  | .node l r, h => by
    rw [Tr.place, if_neg h, Tr.depth]
    have hl : l.place ≤ l.depth := by
      by_cases c : l.full = true
      · rw [place_full c]; exact Nat.le_refl _
      · exact Nat.le_of_lt (place_lt c)
    omega
theorem place_le (t : Tr) : t.place ≤ t.depth := by
  by_cases c : t.full = true
  · rw [place_full c]; exact Nat.le_refl _
  · exact Nat.le_of_lt (place_lt c)
theorem put_full {t : Tr} (h : t.full = true) (d : Nat) (p : Int) : t.put d p = .node t (.leaf p) := by
  cases t with
  | leaf q => rfl
  | node l r => rw [Tr.put, if_pos h]
theorem put_depth : ∀ (t : Tr) (p : Int), (t.put t.place p).depth = if t.full = true then t.depth + 1 else t.depth
  | .leaf q, p => rfl
  | .node l r, p => by
    by_cases c : (Tr.node l r).full = true
    · rw [if_pos c, put_full c]
      show 1 + max (Tr.node l r).depth 0 = _
      omega
    · rw [if_neg c, Tr.put, if_neg c, Tr.place, if_neg c]
      have hn : ¬ (l.full = true ∧ r.full = true ∧ l.depth = r.depth) := fun q => c (full_node.mpr q)
      have hl := place_le l
      have hr := place_le r
      by_cases e : r.place = min l.place r.place
      · rw [if_pos e, Tr.depth, Tr.depth, ← e, put_depth r p]
        by_cases f : r.full = true
        · rw [if_pos f]
          have h1 := place_full f
          by_cases g : l.full = true
          · have h2 := place_full g
            have : l.depth ≠ r.depth := fun q => hn ⟨g, f, q⟩
            omega
          · have := place_lt g
            omega
        · rw [if_neg f]
      · have e2 : min l.place r.place = l.place := by omega
        rw [if_neg e, Tr.depth, Tr.depth, e2, put_depth l p]
        by_cases f : l.full = true
        · rw [if_pos f]
          have h1 := place_full f
          omega
        · rw [if_neg f]
theorem join_depth (t : Tr) (p : Int) : (t.join p).depth = if t.full = true then t.depth + 1 else t.depth := put_depth t p
theorem put_leaves : ∀ (t : Tr) (d : Nat) (p : Int), (t.put d p).leaves.Perm (t.leaves ++ [p])
  | .leaf q, d, p => List.Perm.refl _
  | .node l r, d, p => by
    rw [Tr.put]
    split
    · exact List.Perm.refl _
    · split
      · simp only [Tr.leaves]
        rw [List.append_assoc]
        exact (put_leaves r d p).append_left _
      · simp only [Tr.leaves]
        refine ((put_leaves l d p).append_right _).trans ?_
        rw [List.append_assoc, List.append_assoc]
        exact (List.perm_append_comm).append_left _
theorem join_leaves (t : Tr) (p : Int) : (t.join p).leaves.Perm (t.leaves ++ [p]) := put_leaves t _ p
theorem join_right {t : Tr} {p : Int} (h : t.Right) (hp : 1 ≤ p ∧ p ≤ 8) (hn : p ∉ t.leaves) : (t.join p).Right := by
  have hp2 := join_leaves t p
  refine ⟨fun q hq => ?_, hp2.nodup_iff.mpr ?_⟩
  · rcases List.mem_append.mp (hp2.mem_iff.mp hq) with h1 | h1
    · exact h.1 q h1
    · cases List.mem_singleton.mp h1; exact hp
  · rw [List.nodup_append]
    refine ⟨h.2, by simp, ?_⟩
    intro a ha b hb
    cases List.mem_singleton.mp hb
    rintro rfl
    exact hn ha
/-! a tree without a process -/
def Tr.out (p : Int) : Tr → Option Tr
  | .leaf q => if q = p then none else some (.leaf q)
  | .node l r => match l.out p, r.out p with
    | none, x => x
    | some a, none => some a
    | some a, some b => some (.node a b)
theorem out_not {p : Int} : ∀ {t : Tr}, p ∉ t.leaves → t.out p = some t
  | .leaf q, h => by rw [Tr.out, if_neg (fun e => h (by rw [e]; exact List.mem_singleton.mpr rfl))]
  | .node l r, h => by
    rw [Tr.out, out_not (t := l) (fun e => h (List.mem_append_left _ e)), out_not (t := r) (fun e => h (List.mem_append_right _ e))]
theorem out_leaves {p : Int} : ∀ (t : Tr), ((t.out p).map Tr.leaves).getD [] = t.leaves.filter (fun q => !decide (q = p))
  | .leaf q => by
    rw [Tr.out, Tr.leaves]
    by_cases c : q = p
    · rw [if_pos c]; simp [c]
    · rw [if_neg c]; simp [c, Tr.leaves]
  | .node l r => by
    have h1 := out_leaves (p := p) l
    have h2 := out_leaves (p := p) r
    rw [Tr.out, Tr.leaves, List.filter_append, ← h1, ← h2]
    cases l.out p <;> cases r.out p <;> simp [Tr.leaves]
theorem out_depth {p : Int} : ∀ {t u : Tr}, t.out p = some u → u.depth ≤ t.depth
  | .leaf q, u, h => by
    rw [Tr.out] at h
    split at h
    · cases h
    · cases h; exact Nat.le_refl _
  | .node l r, u, h => by
    rw [Tr.out] at h
    rw [Tr.depth]
    cases hl : l.out p with
    | none =>
      rw [hl] at h
      cases hr : r.out p with
      | none => rw [hr] at h; cases h
      | some b => rw [hr] at h; cases h; have := out_depth hr; omega
    | some a =>
      rw [hl] at h
      have h1 := out_depth hl
      cases hr : r.out p with
      | none => rw [hr] at h; cases h; omega
      | some b => rw [hr] at h; cases h; have := out_depth hr; rw [Tr.depth]; omega
theorem out_put {p : Int} : ∀ {t : Tr} (d : Nat), p ∉ t.leaves → (t.put d p).out p = some t
  | .leaf q, d, h => by
    have hq : q ≠ p := fun e => h (by rw [e]; exact List.mem_singleton.mpr rfl)
    simp [Tr.put, Tr.out, hq]
  | .node l r, d, h => by
    have hl : p ∉ l.leaves := fun e => h (List.mem_append_left _ e)
    have hr : p ∉ r.leaves := fun e => h (List.mem_append_right _ e)
    rw [Tr.put]
    split
    · rw [Tr.out, out_not h, Tr.out, if_pos rfl]
    · split
      · rw [Tr.out, out_not hl, out_put d hr]
      · rw [Tr.out, out_not hr, out_put d hl]
theorem out_join {t : Tr} {p : Int} (h : p ∉ t.leaves) : (t.join p).out p = some t := out_put _ h
theorem out_some {t : Tr} {p : Int} (h : 2 ≤ t.leaves.length) (hn : t.leaves.Nodup) : ∃ u, t.out p = some u := by
  cases ho : t.out p with
  | some u => exact ⟨u, rfl⟩
  | none =>
    have h1 := out_leaves (p := p) t
    rw [ho] at h1
    have h2 : ∀ q ∈ t.leaves, q = p := by
      intro q hq
      have := List.filter_eq_nil_iff.mp h1.symm q hq
      simpa using this
    match hl : t.leaves, h, hn, h2 with
    | [], h, _, _ => simp at h
    | [a], h, _, _ => simp at h
    | a :: b :: l, _, hn, h2 =>
      have ha := h2 a List.mem_cons_self
      have hb := h2 b (List.mem_cons_of_mem _ List.mem_cons_self)
      rw [ha, hb] at hn
      simp at hn
theorem out_right {t u : Tr} {p : Int} (h : t.Right) (ho : t.out p = some u) : u.Right ∧ u.leaves = t.leaves.filter (fun q => !decide (q = p)) := by
  have h1 := out_leaves (p := p) t
  rw [ho] at h1
  have h2 : u.leaves = t.leaves.filter (fun q => !decide (q = p)) := h1
  refine ⟨⟨fun q hq => h.1 q ?_, ?_⟩, h2⟩
  · rw [h2] at hq
    exact (List.mem_filter.mp hq).1
  · rw [h2]
    exact h.2.filter _
end Go.Proofs.YtiofobdmkkbmlaaDoor.Pure
