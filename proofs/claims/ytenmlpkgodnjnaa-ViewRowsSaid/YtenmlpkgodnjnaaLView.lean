/- Plain facts about rows of processes and the views' functions. -/
import Derived.Test.YtenmlpkgodnjnaaLList
import Derived.Test.YtenmlpkgodnjnaaF28
import Derived.Test.YtenmlpkgodnjnaaF30
namespace Go.Proofs.Ytenmlpkgodnjnaa.Pure
open Go.RowKit Go.Proofs.Ytenmlpkgodnjnaa.F Go.Proofs.YtenmlpkgodnjnaaW.PrintWords Go.Proofs.YtenmlpkgodnjnaaW.PrintLast

theorem drop_rd (l : List Int) (i : Int) (h0 : 0 ≤ i) (h : i < l.length) : l.drop i.toNat = rd l i :: l.drop (i + 1).toNat := by
  have h1 : i.toNat < l.length := by omega
  rw [List.drop_eq_getElem_cons h1, show (i + 1).toNat = i.toNat + 1 by omega]
  congr 1
  simp [rd, List.getD_eq_getElem?_getD, h1]
/-- Is it a row that goes on behind 'last'? -/
def upB : Int → List Int → Bool
  | last, [] => decide (last > 0)
  | last, x :: xs => if x ≤ last then false else if x > 8 then false else upB x xs
theorem row_l0 (l : List Int) (hl : l.length < 9223372036854775000) : ∀ (d k : Nat) (last i : Int), 0 ≤ i → i ≤ l.length → (l.length : Int) - i = d → d < k → view_Row.l0 k last l l.length i = some (upB last (l.drop i.toNat)) := by
  intro d
  induction d with
  | zero =>
    intro k last i h0 h1 hd hk
    obtain ⟨k, rfl⟩ : ∃ m, k = m + 1 := ⟨k - 1, by omega⟩
    simp only [view_Row.l0]
    rw [if_neg (by omega), List.drop_eq_nil_of_le (by omega)]
    rfl
  | succ d ih =>
    intro k last i h0 h1 hd hk
    obtain ⟨k, rfl⟩ : ∃ m, k = m + 1 := ⟨k - 1, by omega⟩
    have hw : wrap64 (i + 1) = i + 1 := by unfold wrap64; omega
    simp only [view_Row.l0]
    rw [if_pos (by omega), if_pos (by omega), if_pos (by omega), hw, drop_rd l i h0 (by omega), ih k _ (i + 1) (by omega) (by omega) (by omega) (by omega)]
    show _ = some (if _ then _ else if _ then _ else _)
    split
    · rfl
    · split <;> rfl
theorem row_f (k : Nat) (l : List Int) (hl : l.length < 9223372036854775000) (hk : l.length < k) : view_Row.f k l = some (upB 0 l) :=
  row_l0 l hl l.length k 0 0 (Int.le_refl _) (by omega) (by omega) hk
theorem upB_iff : ∀ (l : List Int) (last : Int), 0 ≤ last → (upB last l = true ↔ (last :: l).Pairwise (· < ·) ∧ (∀ x ∈ l, x ≤ 8) ∧ (0 < last ∨ l ≠ []))
  | [], last, h => by simp [upB]
  | x :: l, last, h => by
    unfold upB
    by_cases c1 : x ≤ last
    · rw [if_pos c1]
      refine ⟨fun h => absurd h (by simp), fun h => ?_⟩
      have := (List.pairwise_cons.mp h.1).1 x List.mem_cons_self
      omega
    rw [if_neg c1]
    by_cases c2 : x > 8
    · rw [if_pos c2]
      refine ⟨fun h => absurd h (by simp), fun h => ?_⟩
      have := h.2.1 x List.mem_cons_self
      omega
    rw [if_neg c2, upB_iff l x (by omega)]
    constructor
    · rintro ⟨h1, h2, _⟩
      refine ⟨List.pairwise_cons.mpr ⟨fun y hy => ?_, h1⟩, fun y hy => ?_, .inr (by simp)⟩
      · rcases List.mem_cons.mp hy with rfl | hy
        · omega
        · have := (List.pairwise_cons.mp h1).1 y hy; omega
      · rcases List.mem_cons.mp hy with rfl | hy
        · omega
        · exact h2 y hy
    · rintro ⟨h1, h2, _⟩
      exact ⟨(List.pairwise_cons.mp h1).2, fun y hy => h2 y (List.mem_cons_of_mem _ hy), .inl (by omega)⟩
/-- Rising, and all of them processes. -/
def RowP (l : List Int) : Prop := l.Pairwise (· < ·) ∧ ∀ x ∈ l, 1 ≤ x ∧ x ≤ 8
theorem row_iff (l : List Int) : upB 0 l = true ↔ RowP l ∧ l ≠ [] := by
  rw [upB_iff l 0 (Int.le_refl _), List.pairwise_cons]
  constructor
  · rintro ⟨⟨h1, h2⟩, h3, h4⟩
    exact ⟨⟨h2, fun x hx => ⟨by have := h1 x hx; omega, h3 x hx⟩⟩, h4.resolve_left (by omega)⟩
  · rintro ⟨⟨h1, h2⟩, h3⟩
    exact ⟨⟨fun x hx => by have := h2 x hx; omega, h1⟩, fun x hx => (h2 x hx).2, .inr h3⟩
theorem rowP_length {l : List Int} (h : RowP l) : l.length ≤ 8 := by
  have g : ∀ (l : List Int) (a : Int), (a :: l).Pairwise (· < ·) → (∀ x ∈ l, x ≤ 8) → a ≤ 8 → (l.length : Int) ≤ 8 - a := by
    intro l
    induction l with
    | nil => intro a _ _ h; simp; omega
    | cons x l ih =>
      intro a h1 h2 h3
      have h4 := List.pairwise_cons.mp h1
      have h5 := h4.1 x List.mem_cons_self
      have := ih x h4.2 (fun y hy => h2 y (List.mem_cons_of_mem _ hy)) (h2 x List.mem_cons_self)
      rw [List.length_cons]; omega
  have := g l 0 (List.pairwise_cons.mpr ⟨fun x hx => by have := h.2 x hx; omega, h.1⟩) (fun x hx => (h.2 x hx).2) (by omega)
  omega
theorem sorted_ext : ∀ {a b : List Int}, a.Pairwise (· < ·) → b.Pairwise (· < ·) → (∀ x, x ∈ a ↔ x ∈ b) → a = b
  | [], [], _, _, _ => rfl
  | [], y :: b, _, _, h => absurd ((h y).mpr List.mem_cons_self) (by simp)
  | x :: a, [], _, _, h => absurd ((h x).mp List.mem_cons_self) (by simp)
  | x :: a, y :: b, ha, hb, h => by
    have ha' := List.pairwise_cons.mp ha
    have hb' := List.pairwise_cons.mp hb
    have e : x = y := by
      rcases List.mem_cons.mp ((h x).mp List.mem_cons_self) with e | h1
      · exact e
      rcases List.mem_cons.mp ((h y).mpr List.mem_cons_self) with e | h2
      · exact e.symm
      have := ha'.1 y h2
      have := hb'.1 x h1
      omega
    subst e
    rw [sorted_ext ha'.2 hb'.2 fun z => ⟨fun hz => ?_, fun hz => ?_⟩]
    · rcases List.mem_cons.mp ((h z).mp (List.mem_cons_of_mem _ hz)) with rfl | hz'
      · exact absurd (ha'.1 z hz) (by omega)
      · exact hz'
    · rcases List.mem_cons.mp ((h z).mpr (List.mem_cons_of_mem _ hz)) with rfl | hz'
      · exact absurd (hb'.1 z hz) (by omega)
      · exact hz'
theorem has_f (l : List Int) (p : Int) : view_Has.f l p = some (l.contains p) := rfl
theorem equal_l0 (a b : List Int) (hab : a.length = b.length) (hl : a.length < 9223372036854775000) : ∀ (d k : Nat) (i : Int), 0 ≤ i → i ≤ a.length → (a.length : Int) - i = d → d < k → slices_Equal_int_int.l0 k a b a.length i = some (a.drop i.toNat == b.drop i.toNat) := by
  intro d
  induction d with
  | zero =>
    intro k i h0 h1 hd hk
    obtain ⟨k, rfl⟩ : ∃ m, k = m + 1 := ⟨k - 1, by omega⟩
    simp only [slices_Equal_int_int.l0]
    rw [if_neg (by omega), List.drop_eq_nil_of_le (by omega), List.drop_eq_nil_of_le (by omega)]
    rfl
  | succ d ih =>
    intro k i h0 h1 hd hk
    obtain ⟨k, rfl⟩ : ∃ m, k = m + 1 := ⟨k - 1, by omega⟩
    have hw : wrap64 (i + 1) = i + 1 := by unfold wrap64; omega
    simp only [slices_Equal_int_int.l0]
    rw [if_pos (by omega), if_pos (by omega), if_pos (by omega), if_pos (by omega), hw, drop_rd a i h0 (by omega), drop_rd b i h0 (by omega), ih k (i + 1) (by omega) (by omega) (by omega) (by omega)]
    by_cases c : rd a i = rd b i
    · rw [if_pos c, c]; simp
    · rw [if_neg c]; simp [c]
theorem same_f (k : Nat) (a b : List Int) (hl : a.length < 9223372036854775000) (hk : a.length < k) : view_Same.f k a b = some (a == b) := by
  unfold view_Same.f slices_Equal_int_int.f
  by_cases c : (a.length : Int) = (b.length : Int)
  · rw [if_pos c, equal_l0 a b (by omega) hl a.length k 0 (Int.le_refl _) (by omega) (by omega) hk]
    rfl
  · rw [if_neg c]
    have : (a == b) = false := by
      rw [beq_eq_false_iff_ne]
      rintro rfl
      exact c rfl
    rw [this]; rfl
/-- Is it a view: a row of processes, of which the coordinator is one, and an epoch? -/
def viewB (e c : Int) (l : List Int) : Bool := upB 0 l && l.contains c && decide (0 ≤ e ∧ e ≤ 2147483647)
theorem right_f (k : Nat) (e c : Int) (l : List Int) (hl : l.length < 9223372036854775000) (hk : l.length < k) : view_Right.f k e c l = some (viewB e c l) := by
  unfold view_Right.f viewB
  rw [row_f k l hl hk, has_f]
  simp only [Option.bind_some]
  cases upB 0 l
  · rfl
  cases l.contains c
  · rfl
  simp only [if_true, Bool.true_and]
  by_cases h : e ≥ 0
  · rw [if_pos h, show (decide (0 ≤ e ∧ e ≤ 2147483647)) = decide (e ≤ 2147483647) from decide_eq_decide.mpr (by omega)]
  · rw [if_neg h, decide_eq_false (by omega)]
theorem viewB_iff (e c : Int) (l : List Int) : viewB e c l = true ↔ RowP l ∧ c ∈ l ∧ 0 ≤ e ∧ e ≤ 2147483647 := by
  unfold viewB
  rw [Bool.and_eq_true, Bool.and_eq_true, row_iff, List.contains_iff_mem, decide_eq_true_eq]
  constructor
  · rintro ⟨⟨⟨h1, h2⟩, h3⟩, h4⟩; exact ⟨h1, h3, h4⟩
  · rintro ⟨h1, h2, h3⟩
    exact ⟨⟨⟨h1, by rintro rfl; simp at h2⟩, h2⟩, h3⟩
/-! ### A view's message -/
theorem lright_l0 (e c : Int) (l : List Int) (h : RowP l) (he : 0 ≤ e ∧ e ≤ 2147483647) (hc : 1 ≤ c ∧ c ≤ 8) : ∀ (d k : Nat) (last i : Int), 0 ≤ i → i ≤ l.length → (l.length : Int) - i = d → d < k → (∀ x ∈ l.drop i.toNat, last < x) →
    list_Right.l0 k last l l.length i 0 e c 0 0 0 l [] = some true := by
  have hl := rowP_length h
  intro d
  induction d with
  | zero =>
    intro k last i h0 h1 hd hk _
    obtain ⟨k, rfl⟩ : ∃ m, k = m + 1 := ⟨k - 1, by omega⟩
    have hp := put_nums [] (by simp)
    simp only [List.map_nil] at hp
    simp only [list_Right.l0]
    rw [if_neg (by omega), hp]
    simp only [Option.bind_some, if_true, list_right.f]
    rw [if_pos (by omega), if_pos (by omega), if_pos (by omega), decide_eq_true (by omega)]
    rfl
  | succ d ih =>
    intro k last i h0 h1 hd hk hx
    obtain ⟨k, rfl⟩ : ∃ m, k = m + 1 := ⟨k - 1, by omega⟩
    have hw : wrap64 (i + 1) = i + 1 := by unfold wrap64; omega
    have hdr := drop_rd l i h0 (by omega)
    rw [hdr] at hx
    have h3 := hx _ List.mem_cons_self
    have h4 : rd l i ∈ l := List.mem_of_mem_drop (show rd l i ∈ l.drop i.toNat by rw [hdr]; exact List.mem_cons_self)
    have h5 := h.2 _ h4
    simp only [list_Right.l0]
    rw [if_pos (by omega), if_pos (by omega), if_pos (by omega), if_neg (by omega), if_neg (by omega), hw]
    refine ih k _ (i + 1) (by omega) (by omega) (by omega) (by omega) ?_
    intro x hx'
    have h6 := h.1.sublist (List.drop_sublist i.toNat l)
    rw [hdr] at h6
    exact (List.pairwise_cons.mp h6).1 x hx'
theorem pack_l0 (a0 a1 a2 a3 a4 a5 : Int) (l6 : List Int) (ns : List Int) (hn : ns.length ≤ 150) : ∀ (d k : Nat) (i : Int) (out : List ByteArray), 0 ≤ i → i ≤ ns.length → (ns.length : Int) - i = d → d < k → out = (ns.take i.toNat).map (fun n => numF (IntKind.u64.wrap n)) →
    list_Pack.l0 k out ns ns.length i a0 a1 a2 a3 a4 a5 l6 [] = some (numsOut ns, 0) := by
  intro d
  induction d with
  | zero =>
    intro k i out h0 h1 hd hk ho
    obtain ⟨k, rfl⟩ : ∃ m, k = m + 1 := ⟨k - 1, by omega⟩
    rw [List.take_of_length_le (by omega)] at ho
    simp only [list_Pack.l0]
    rw [if_neg (by omega), if_pos (by rw [ho, List.length_map]; simp; omega), List.append_nil, ho, put_nums ns hn]
    rfl
  | succ d ih =>
    intro k i out h0 h1 hd hk ho
    obtain ⟨k, rfl⟩ : ∃ m, k = m + 1 := ⟨k - 1, by omega⟩
    have hw : wrap64 (i + 1) = i + 1 := by unfold wrap64; omega
    simp only [list_Pack.l0, term_Number.f, Option.bind_some]
    rw [if_pos (by omega), if_pos (by omega), if_pos (by omega), if_pos (by rw [ho, List.length_map, List.length_take]; omega), hw]
    refine ih k (i + 1) _ (by omega) (by omega) (by omega) (by omega) ?_
    rw [ho, show (i + 1).toNat = i.toNat + 1 by omega, List.take_add_one, List.map_append]
    congr 1
    have h1 : i.toNat < ns.length := by omega
    simp [rd, List.getD_eq_getElem?_getD, h1]
def viewOut (e c : Int) (l : List Int) : ByteArray := numsOut ([0, e, c, 0, 0, 0, (l.length : Int)] ++ l)
theorem term_f (k : Nat) (e c : Int) (l : List Int) (hl : l.length < 9223372036854775000) (hk : l.length + 20 < k) : view_Term.f k e c l = some (if viewB e c l = true then (viewOut e c l, 0) else (⟨#[]⟩, 1)) := by
  unfold view_Term.f
  rw [right_f k e c l hl (by omega)]
  simp only [Option.bind_some]
  by_cases h : viewB e c l = true
  · rw [if_pos h, if_pos h]
    have hv := (viewB_iff e c l).mp h
    have hn := rowP_length hv.1
    have hc := hv.1.2 c hv.2.1
    unfold list_Pack.f list_Right.f
    rw [lright_l0 e c l hv.1 hv.2.2 hc l.length k 0 0 (Int.le_refl _) (by omega) (by omega) (by omega) (fun x hx => by have := hv.1.2 x (List.mem_of_mem_drop hx); omega)]
    simp only [Option.bind_some, if_true]
    rw [if_pos (by simp; omega), pack_l0 0 e c 0 0 0 l _ (by simp; omega) (l.length + 7) k 0 [] (Int.le_refl _) (by omega) (by simp; omega) (by omega) (by simp)]
    rfl
  · rw [if_neg h, if_neg h]
theorem viewOut_inj {e c e' c' : Int} {l l' : List Int} (h : viewB e c l = true) (h' : viewB e' c' l' = true) (he : viewOut e c l = viewOut e' c' l') : e = e' ∧ c = c' ∧ l = l' := by
  have g : ∀ {e c : Int} {l : List Int}, viewB e c l = true → ∀ x ∈ [0, e, c, 0, 0, 0, (l.length : Int)] ++ l, -9223372036854775808 ≤ x ∧ x ≤ 9223372036854775807 := by
    intro e c l h x hx
    have hv := (viewB_iff e c l).mp h
    have hn := rowP_length hv.1
    have hc := hv.1.2 c hv.2.1
    rcases List.mem_append.mp hx with hx | hx
    · simp at hx; omega
    · have := hv.1.2 x hx; omega
  have h1 := numsOut_inj (g h) (g h') he
  simp at h1
  exact ⟨h1.1, h1.2.1, h1.2.2.2⟩
theorem viewOut_right {e c : Int} {l : List Int} (h : viewB e c l = true) : rightB (viewOut e c l) = true := by
  have hv := (viewB_iff e c l).mp h
  have hn := rowP_length hv.1
  exact numsOut_right _ (by simp; omega)
end Go.Proofs.Ytenmlpkgodnjnaa.Pure
