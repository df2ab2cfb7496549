/- The document's functions on trees, over plain trees: which text is one, its members, its depth, its parts, the place at which one joins, what is left of it. -/
import Derived.Test.YtiofobdmkkbmlaaDoorWX
import Derived.Test.YtiofobdmkkbmlaaDoorLRefTree
namespace Go.Proofs.YtiofobdmkkbmlaaDoor.Pure
set_option linter.unusedVariables false
set_option linter.unusedSimpArgs false
open Go.RowKit Go.Proofs.YtiofobdmkkbmlaaDoor.F Go.Proofs.YtiofobdmkkbmlaaDoorW.PrintWords Go.Proofs.YtiofobdmkkbmlaaDoorW.PrintLast Go.Proofs.YtiofobdmkkbmlaaDoorW.PrintMore

theorem shl_pow2 (d : Nat) (h : d ≤ 8) : shl .i64 1 (d : Int) = ((2 ^ d : Nat) : Int) := by
  have : ∀ d : Nat, d ≤ 8 → shl .i64 1 (d : Int) = ((2 ^ d : Nat) : Int) := by decide
  exact this d h
theorem nodup_of_take {l : List Int} (h : ∀ j (hj : j < l.length), l[j] ∉ l.take j) : l.Nodup := by
  rw [List.Nodup, List.pairwise_iff_getElem]
  intro i j hi hj hij e
  apply h j hj
  rw [← e]
  have h1 : i < (l.take j).length := by rw [List.length_take]; omega
  have h2 : (l.take j)[i] = l[i] := List.getElem_take
  rw [← h2]
  exact List.getElem_mem h1
theorem take_of_nodup {l : List Int} (h : l.Nodup) (j : Nat) (hj : j < l.length) : l[j] ∉ l.take j := by
  intro hm
  obtain ⟨i, hi, e⟩ := List.mem_iff_getElem.mp hm
  rw [List.length_take] at hi
  rw [List.getElem_take] at e
  rw [List.Nodup, List.pairwise_iff_getElem] at h
  exact h i j (by omega) hj (by omega) e
/-- What is answered when all digits are looked through. -/
def rightEnd (s : ByteArray) : Option Bool := if (s.size : Int) < 100 then (if endL s 0 = (s.size : Int) then some (decide ((s.size : Int) > 0)) else some false) else some false
theorem right_loop (s : ByteArray) (hs : s.size ≤ 1000) (l : List Int) (hl : l.length ≤ 1000) : ∀ (d k i : Nat), i + d = l.length → d + 2100 ≤ k →
    (l.Nodup → gemotref13_Right.l0 k s l i = rightEnd s) ∧ ((∃ j, ∃ hj : j < l.length, i ≤ j ∧ l[j] ∈ l.take j) → gemotref13_Right.l0 k s l i = some false)
  | 0, k + 1, i, hi, hk => by
    refine ⟨fun _ => ?_, fun ⟨j, hj, h1, _⟩ => absurd h1 (by omega)⟩
    have he := end_f s hs s.size k 0 (by omega) (by omega)
    rw [gemotref13_Right.l0, if_neg (by omega), rightEnd]
    rw [show (0 : Int) = ((0 : Nat) : Int) from rfl, he, Option.bind_some]
  | d + 1, k + 1, i, hi, hk => by
    have hlt : i < l.length := by omega
    have hw : wrap64 ((i : Int) + 1) = ((i + 1 : Nat) : Int) := wr_next (n := l.length) (by omega) (by omega)
    obtain ⟨ih1, ih2⟩ := right_loop s hs l hl d k (i + 1) (by omega) (by omega)
    have hH : gemotref10_Has.f (l.take ((i : Nat) : Int).toNat) l[i] = some ((l.take i).contains l[i]) := by
      rw [Int.toNat_natCast]
      exact has_f _ _ (by rw [List.length_take]; omega)
    rw [gemotref13_Right.l0, if_pos (by omega), if_pos (by omega), if_pos (by omega), rd_nat l i hlt, hH, Option.bind_some, hw]
    by_cases c : (l.take i).contains l[i] = true
    · rw [if_pos c]
      exact ⟨fun hn => absurd (List.contains_iff_mem.mp c) (take_of_nodup hn i hlt), fun _ => rfl⟩
    · rw [if_neg c]
      refine ⟨ih1, fun ⟨j, hj, h1, h2⟩ => ih2 ⟨j, hj, ?_, h2⟩⟩
      rcases Nat.lt_or_ge i j with h | h
      · exact h
      · have : i = j := by omega
        subst this
        exact absurd (List.contains_iff_mem.mpr h2) c
theorem right_f (s : ByteArray) (hs : s.size < 100) (k : Nat) (hk : 3300 ≤ k) : gemotref13_Right.f k s = some (treeOf s).isSome := by
  have hsl : s.data.toList.length = s.size := rfl
  have hdl : ∀ l : List UInt8, (digL l).length ≤ l.length := by
    intro l
    induction l with
    | nil => exact Nat.le_refl _
    | cons c l ih =>
      rw [digL]
      split
      · rw [List.length_cons, List.length_cons]; omega
      · rw [List.length_cons]; omega
  have hd := hdl s.data.toList
  obtain ⟨r1, r2⟩ := right_loop s (by omega) (digL s.data.toList) (by omega) (digL s.data.toList).length k 0 (by omega) (by omega)
  unfold gemotref13_Right.f
  rw [digits_f s (by omega) k (by omega), Option.bind_some]
  by_cases hn : (digL s.data.toList).Nodup
  · refine (r1 hn).trans ?_
    unfold rightEnd endL treeOf
    rw [List.drop_zero, if_pos (by omega)]
    cases hp : prs s.data.toList with
    | none =>
      simp only
      rw [if_neg (by omega)]
      rfl
    | some x =>
      obtain ⟨t, r⟩ := x
      have hl := prs_len hp
      obtain ⟨h1, h2⟩ := prs_sound hp
      cases r with
      | nil =>
        simp only [List.length_nil, Nat.sub_zero]
        rw [List.append_nil] at h1
        rw [h1, digL_tree t h2] at hn
        rw [if_pos trivial, if_pos ⟨h2, hn⟩]
        rw [List.length_nil] at hl
        rw [decide_eq_true (by omega)]
        rfl
      | cons c r =>
        simp only
        rw [List.length_cons] at hl
        rw [if_neg (by rw [List.length_cons]; omega)]
        rfl
  · have hx : ∃ j, ∃ hj : j < (digL s.data.toList).length, 0 ≤ j ∧ (digL s.data.toList)[j] ∈ (digL s.data.toList).take j := by
      refine Classical.byContradiction fun hc => hn (nodup_of_take fun j hj hm => hc ⟨j, hj, Nat.zero_le _, hm⟩)
    refine (r2 hx).trans ?_
    cases hu : treeOf s with
    | none => rfl
    | some t =>
      obtain ⟨e1, e2⟩ := treeOf_some.mp hu
      refine absurd ?_ hn
      rw [e1]
      show (digL t.bytes).Nodup
      rw [digL_tree t e2.1]
      exact e2.2
theorem members_loop (s : ByteArray) (hs : s.size ≤ 1000) (l : List Int) (hd : digL s.data.toList = l) (hl : l.length ≤ 1000) : ∀ (d k x : Nat) (out : List Int), x + d = 9 → d + 1010 ≤ k → out.length ≤ x →
    ∃ m, gemotref13_Members.l0 k s out x = some (out ++ m) ∧ m.Pairwise (· < ·) ∧ (∀ y, y ∈ m ↔ y ∈ l ∧ (x : Int) ≤ y ∧ y ≤ 8)
  | 0, k + 1, x, out, hx, hk, ho => by
    refine ⟨[], ?_, List.Pairwise.nil, fun y => ⟨fun h => absurd h List.not_mem_nil, fun h => by omega⟩⟩
    rw [gemotref13_Members.l0, if_neg (by omega), List.append_nil]
  | d + 1, k + 1, x, out, hx, hk, ho => by
    have hw : wrap64 ((x : Int) + 1) = ((x + 1 : Nat) : Int) := wr_next (n := 9) (by omega) (by omega)
    rw [gemotref13_Members.l0, if_pos (by omega), digits_f s hs k (by omega), hd, Option.bind_some, has_f l _ (by omega), Option.bind_some, hw]
    by_cases c : l.contains (x : Int) = true
    · have hc := List.contains_iff_mem.mp c
      obtain ⟨m, h1, h2, h3⟩ := members_loop s hs l hd hl d k (x + 1) (out ++ [(x : Int)]) (by omega) (by omega) (by rw [List.length_append, List.length_singleton]; omega)
      rw [if_pos c, if_pos (by omega)]
      refine ⟨(x : Int) :: m, ?_, ?_, fun y => ?_⟩
      · rw [h1, List.append_assoc]; rfl
      · refine List.pairwise_cons.mpr ⟨fun y hy => ?_, h2⟩
        have := ((h3 y).mp hy).2.1
        omega
      · rw [List.mem_cons, h3 y]
        constructor
        · rintro (h | h)
          · subst h; exact ⟨hc, by omega, by omega⟩
          · exact ⟨h.1, by omega, h.2.2⟩
        · rintro ⟨h, h4, h5⟩
          by_cases e : y = (x : Int)
          · exact .inl e
          · exact .inr ⟨h, by omega, h5⟩
    · have hc : (x : Int) ∉ l := fun h => c (List.contains_iff_mem.mpr h)
      obtain ⟨m, h1, h2, h3⟩ := members_loop s hs l hd hl d k (x + 1) out (by omega) (by omega) (by omega)
      rw [if_neg c]
      refine ⟨m, h1, h2, fun y => ?_⟩
      rw [h3 y]
      constructor
      · rintro ⟨h, h4, h5⟩; exact ⟨h, by omega, h5⟩
      · rintro ⟨h, h4, h5⟩
        refine ⟨h, ?_, h5⟩
        have : y ≠ (x : Int) := fun e => hc (e ▸ h)
        omega
theorem members_none {s : ByteArray} (hs : s.size < 100) (h : treeOf s = none) (k : Nat) (hk : 3300 ≤ k) : gemotref13_Members.f k s = some [] := by
  unfold gemotref13_Members.f
  rw [right_f s hs k hk, h, Option.bind_some, if_neg (by decide)]
theorem members_ref {t : Tr} (h : t.Right) (k : Nat) (hk : 3300 ≤ k) : gemotref13_Members.f k t.text = some t.mems := by
  have hs := right_small h
  unfold gemotref13_Members.f
  rw [right_f t.text (by omega) k hk, treeOf_text h, Option.bind_some, if_pos (by rfl)]
  have h8 := right_len h
  obtain ⟨m, h1, h2, h3⟩ := members_loop t.text (by omega) t.leaves (digL_tree t h.1) (by omega) 8 k 1 [] (by omega) (by omega) (by decide)
  refine h1.trans ?_
  rw [List.nil_append, mems_eq (t := t) (l := m) ?_ (h2.imp (fun h => Int.le_of_lt h))]
  refine (List.perm_ext_iff_of_nodup h.2 (h2.imp (fun h => Int.ne_of_lt h))).mpr fun y => ?_
  rw [h3 y]
  exact ⟨fun q => ⟨q, (h.1 y q).1, (h.1 y q).2⟩, fun q => q.1⟩
/-! ### depth, parts, place, put, out -/
theorem text_cut (l r : Tr) : (Tr.node l r).text.size = l.bytes.length + r.bytes.length + 2 := by
  show (Tr.node l r).bytes.length = _
  rw [Tr.bytes, List.length_cons, List.length_append, List.length_append, List.length_singleton]
  omega
theorem extract_list (s : ByteArray) (i j : Nat) : (s.extract i j).data.toList = (s.data.toList.drop i).take (j - i) := by
  simp [List.take_drop]
  try rw [List.take_drop]
theorem parts_f {l r : Tr} (h : (Tr.node l r).Ok) (hs : (Tr.node l r).text.size ≤ 1000) (k : Nat) (hk : 2010 ≤ k) : gemotref13_Parts.f k (Tr.node l r).text = some (l.text, r.text) := by
  have hc := text_cut l r
  have h1 : (Tr.node l r).text.data.toList.drop 1 = l.bytes ++ (r.bytes ++ [41]) := rfl
  have he : gemotref13_End.f k (Tr.node l r).text 1 = some ((1 + l.bytes.length : Nat) : Int) := by
    have := end_f (Tr.node l r).text hs (Tr.node l r).text.size k 1 (by omega) (by omega)
    rw [show (1 : Int) = ((1 : Nat) : Int) from rfl, this]
    unfold endL
    rw [h1, prs_of l _ h.left]
    simp only
    rw [List.length_append, List.length_singleton, hc]
    congr 2
    omega
  have hw : wrap64 (((Tr.node l r).text.size : Int) - 1) = ((l.bytes.length + r.bytes.length + 1 : Nat) : Int) := by rw [wr_in (by omega), hc]; omega
  unfold gemotref13_Parts.f
  rw [he, Option.bind_some, if_pos (by omega), if_pos (by omega), if_pos (by omega), hw, if_pos (by omega), if_pos (by omega)]
  have e1 : (Tr.node l r).text.extract 1 ((1 + l.bytes.length : Nat) : Int).toNat = l.text := by
    apply ByteArray.ext
    apply Array.ext'
    rw [extract_list, h1, Int.toNat_natCast, Nat.add_sub_cancel_left, List.take_left]
    rfl
  have e2 : (Tr.node l r).text.extract ((1 + l.bytes.length : Nat) : Int).toNat ((l.bytes.length + r.bytes.length + 1 : Nat) : Int).toNat = r.text := by
    apply ByteArray.ext
    apply Array.ext'
    rw [extract_list, Int.toNat_natCast, Int.toNat_natCast, ← List.drop_drop, h1, List.drop_left]
    have : l.bytes.length + r.bytes.length + 1 - (1 + l.bytes.length) = r.bytes.length := by omega
    rw [this, List.take_left]
    rfl
  rw [e1, e2]
theorem Tr.Right.left {l r : Tr} (h : (Tr.node l r).Right) : l.Right := ⟨h.1.left, (List.nodup_append.mp h.2).1⟩
theorem Tr.Right.right {l r : Tr} (h : (Tr.node l r).Right) : r.Right := ⟨h.1.right, (List.nodup_append.mp h.2).2.1⟩
theorem leaf_size (p : Int) : (Tr.leaf p).text.size = 1 := rfl
theorem node_size (l r : Tr) : ¬ ((Tr.node l r).text.size : Int) = 1 := by
  have := text_cut l r
  have := l.bytes_pos
  omega
theorem deep_f : ∀ (t : Tr), t.Right → ∀ k, 2020 + t.depth ≤ k → gemotref13_deep.f k t.text = some (t.depth : Int)
  | .leaf p, h, 0, hk => absurd hk (by omega)
  | .leaf p, h, k + 1, hk => by rw [gemotref13_deep.f, if_pos (show ((Tr.leaf p).text.size : Int) = 1 from rfl)]; rfl
  | .node l r, h, 0, hk => absurd hk (by omega)
  | .node l r, h, k + 1, hk => by
    have hs := right_big h
    have hd := (Tr.node l r).depth_lt
    have h8 := right_len h
    have hdd : (Tr.node l r).depth = 1 + max l.depth r.depth := rfl
    rw [gemotref13_deep.f, if_neg (node_size l r), parts_f h.1 hs k (by omega), Option.bind_some, deep_f l h.left k (by omega), Option.bind_some, deep_f r h.right k (by omega), Option.bind_some, wr_in (by unfold mx; split <;> omega), hdd]
    congr 1
    unfold mx
    split <;> omega
theorem full_f {t : Tr} (h : t.Right) (k : Nat) (hk : 2030 ≤ k) : gemotref13_full.f k t.text = some t.full := by
  have h8 := right_len h
  have hd := t.depth_lt
  have hs := right_big h
  unfold gemotref13_full.f
  rw [digits_t h.1 hs k (by omega), Option.bind_some, deep_f t h k (by omega), Option.bind_some, if_pos (by omega), shl_pow2 _ (by omega)]
  unfold Tr.full
  congr 1
  by_cases c : t.leaves.length = 2 ^ t.depth
  · rw [decide_eq_true c, c, beq_self_eq_true]
  · rw [decide_eq_false c]
    exact beq_eq_false_iff_ne.mpr (fun q => c (Int.ofNat_inj.mp q))
theorem place_f : ∀ (t : Tr), t.Right → ∀ k, 2040 + t.depth ≤ k → gemotref13_place.f k t.text = some (t.place : Int)
  | t, h, 0, hk => absurd hk (by omega)
  | .leaf p, h, k + 1, hk => by
    rw [gemotref13_place.f, full_f h k (by omega), Option.bind_some, if_pos (full_leaf p), deep_f _ h k (by omega), Option.bind_some]
    rfl
  | .node l r, h, k + 1, hk => by
    have hs := right_big h
    have hdd : (Tr.node l r).depth = 1 + max l.depth r.depth := rfl
    rw [gemotref13_place.f, full_f h k (by omega), Option.bind_some, Tr.place]
    by_cases c : (Tr.node l r).full = true
    · rw [if_pos c, if_pos c, deep_f _ h k (by omega), Option.bind_some]
    · rw [if_neg c, if_neg c, parts_f h.1 hs k (by omega), Option.bind_some, place_f l h.left k (by omega), Option.bind_some, place_f r h.right k (by omega), Option.bind_some]
      congr 1
      unfold mn
      split <;> omega
theorem leaf_f {p : Int} (h : 1 ≤ p ∧ p ≤ 8) : gemotref13_leaf.f p = some (Tr.leaf p).text := by
  have : p = 1 ∨ p = 2 ∨ p = 3 ∨ p = 4 ∨ p = 5 ∨ p = 6 ∨ p = 7 ∨ p = 8 := by omega
  have hw : wrap64 (p + 1) = p + 1 := wr_in (by omega)
  unfold gemotref13_leaf.f
  rw [hw, if_pos (by omega), if_pos (by omega), if_pos (by omega)]
  refine congrArg some (ByteArray.ext (Array.ext' ?_))
  rw [extract_list]
  rcases this with rfl | rfl | rfl | rfl | rfl | rfl | rfl | rfl <;> decide
theorem put_f (p : Int) (hp : 1 ≤ p ∧ p ≤ 8) : ∀ (t : Tr), t.Right → p ∉ t.leaves → ∀ (d k : Nat), 2060 + t.depth ≤ k → gemotref13_put.f k t.text d p = some (t.put d p).text
  | t, h, hm, d, 0, hk => absurd hk (by omega)
  | .leaf q, h, hm, d, k + 1, hk => by
    rw [gemotref13_put.f, full_f h k (by omega), Option.bind_some, if_pos (full_leaf q), if_pos (by rw [leaf_size]; omega), leaf_f hp, Option.bind_some, if_pos (by rw [ByteArray.size_append, leaf_size, leaf_size]; decide), if_pos (by rw [ByteArray.size_append, ByteArray.size_append, leaf_size, leaf_size]; decide), text_node]
    rfl
  | .node l r, h, hm, d, k + 1, hk => by
    have hs := right_small h
    have hdd : (Tr.node l r).depth = 1 + max l.depth r.depth := rfl
    have z40 : (⟨#[40]⟩ : ByteArray).size = 1 := rfl
    have ml : p ∉ l.leaves := fun e => hm (List.mem_append_left _ e)
    have mr : p ∉ r.leaves := fun e => hm (List.mem_append_right _ e)
    have sl := right_small h.left
    have sr := right_small h.right
    rw [gemotref13_put.f, full_f h k (by omega), Option.bind_some, Tr.put]
    by_cases c : (Tr.node l r).full = true
    · rw [if_pos c, if_pos c, if_pos (by omega), leaf_f hp, Option.bind_some, if_pos (by rw [ByteArray.size_append, leaf_size]; omega), if_pos (by rw [ByteArray.size_append, ByteArray.size_append, leaf_size]; omega), text_node]
    · rw [if_neg c, if_neg c, parts_f h.1 (by omega) k (by omega), Option.bind_some, place_f r h.right k (by omega), Option.bind_some]
      dsimp only
      by_cases e : r.place = d
      · have hput := put_f p hp r h.right mr d k (by omega)
        have sp : (r.put d p).text.size ≤ 25 := by
          have h1 := (put_leaves r d p).length_eq
          have h2 := right_len h.right
          have h3 := (r.put d p).bytes_len
          rw [List.length_append, List.length_singleton] at h1
          show (r.put d p).bytes.length ≤ 25
          omega
        rw [if_pos (by omega), if_pos e, if_pos (by omega), hput, Option.bind_some, if_pos (by rw [ByteArray.size_append]; omega), if_pos (by rw [ByteArray.size_append, ByteArray.size_append]; omega), text_node]
      · have hput := put_f p hp l h.left ml d k (by omega)
        have sp : (l.put d p).text.size ≤ 25 := by
          have h1 := (put_leaves l d p).length_eq
          have h2 := right_len h.left
          have h3 := (l.put d p).bytes_len
          rw [List.length_append, List.length_singleton] at h1
          show (l.put d p).bytes.length ≤ 25
          omega
        rw [if_neg (by omega), if_neg e, hput, Option.bind_some, if_pos (by omega), if_pos (by rw [ByteArray.size_append]; omega), if_pos (by rw [ByteArray.size_append, ByteArray.size_append]; omega), text_node]
theorem text_ne (t : Tr) : ¬ t.text.toList = ([] : List UInt8) := by
  rw [ByteArray.toList_eq]
  intro h
  have := t.bytes_pos
  have h2 : t.bytes = [] := h
  rw [h2] at this
  exact absurd this (by decide)
/-- The text of what is left. -/
def outB (o : Option Tr) : ByteArray := (o.map Tr.text).getD ⟨#[]⟩
theorem out_f (p : Int) (hp : 1 ≤ p ∧ p ≤ 8) : ∀ (t : Tr), t.Right → ∀ (k : Nat), 2060 + t.depth ≤ k → gemotref13_out.f k t.text p = some (outB (t.out p))
  | t, h, 0, hk => absurd hk (by omega)
  | .leaf q, h, k + 1, hk => by
    rw [gemotref13_out.f, if_pos (by rw [leaf_size]; rfl), leaf_f hp, Option.bind_some, Tr.out]
    by_cases c : q = p
    · rw [c, if_pos rfl, if_pos rfl]; rfl
    · have : ¬ (Tr.leaf q).text.toList = (Tr.leaf p).text.toList := fun e => by
        rw [ByteArray.toList_eq, ByteArray.toList_eq] at e
        have := text_inj h.1 (leaf_right hp).1 (ByteArray.ext (Array.ext' e))
        injection this with h3
        exact c h3
      rw [if_neg this, if_neg c]; rfl
  | .node l r, h, k + 1, hk => by
    have hdd : (Tr.node l r).depth = 1 + max l.depth r.depth := rfl
    have hb := right_big h
    have z0 : (⟨#[]⟩ : ByteArray).size = 0 := rfl
    have z40 : (⟨#[40]⟩ : ByteArray).size = 1 := rfl
    have e0 : (⟨#[]⟩ : ByteArray).toList = ([] : List UInt8) := by rw [ByteArray.toList_eq]
    rw [gemotref13_out.f, if_neg (node_size l r), parts_f h.1 hb k (by omega), Option.bind_some, out_f p hp l h.left k (by omega), Option.bind_some, out_f p hp r h.right k (by omega), Option.bind_some, Tr.out]
    cases ol : l.out p with
    | none =>
      show (if (⟨#[]⟩ : ByteArray).toList = ([] : List UInt8) then _ else _) = _
      rw [if_pos e0]
      cases or_ : r.out p with
      | none => rfl
      | some b =>
        have sb := right_small (out_right h.right or_).1
        show (if (⟨#[]⟩ : ByteArray).size + b.text.size ≤ _ then some ((⟨#[]⟩ : ByteArray) ++ b.text) else none) = some b.text
        rw [if_pos (by omega)]
        exact congrArg some (by apply ByteArray.ext; simp)
    | some a =>
      have sa := right_small (out_right h.left ol).1
      show (if a.text.toList = ([] : List UInt8) then _ else _) = _
      rw [if_neg (text_ne a)]
      cases or_ : r.out p with
      | none =>
        show (if (⟨#[]⟩ : ByteArray).toList = ([] : List UInt8) then (if a.text.size + (⟨#[]⟩ : ByteArray).size ≤ _ then some (a.text ++ (⟨#[]⟩ : ByteArray)) else none) else _) = some a.text
        rw [if_pos e0, if_pos (by omega)]
        exact congrArg some (by apply ByteArray.ext; simp)
      | some b =>
        have sb := right_small (out_right h.right or_).1
        show (if b.text.toList = ([] : List UInt8) then _ else (if 1 + a.text.size ≤ _ then (if ((⟨#[40]⟩ : ByteArray) ++ a.text).size + b.text.size ≤ _ then (if (((⟨#[40]⟩ : ByteArray) ++ a.text) ++ b.text).size + 1 ≤ _ then some ((((⟨#[40]⟩ : ByteArray) ++ a.text) ++ b.text) ++ (⟨#[41]⟩ : ByteArray)) else none) else none) else none)) = some (Tr.node a b).text
        rw [if_neg (text_ne b), if_pos (by omega), if_pos (by rw [ByteArray.size_append]; omega), if_pos (by rw [ByteArray.size_append, ByteArray.size_append]; omega), text_node]
end Go.Proofs.YtiofobdmkkbmlaaDoor.Pure
