/- The pure side of TreeLow: a built tree has the least depth that holds its members; who joins makes a tree deeper just if it is full. -/
import Derived.Test.YtiofobdmkkbmlaaDoorLRefTen
import Derived.Test.YtiofobdmkkbmlaaDoorF6
namespace Go.Proofs.YtiofobdmkkbmlaaDoor.Pure
set_option linter.unusedVariables false
set_option linter.unusedSimpArgs false
open Go.RowKit Go.Proofs.YtiofobdmkkbmlaaDoor.F Go.Proofs.YtiofobdmkkbmlaaDoorW.PrintWords Go.Proofs.YtiofobdmkkbmlaaDoorW.PrintLast Go.Proofs.YtiofobdmkkbmlaaDoorW.PrintMore

theorem shl_pow (d : Nat) (h : d ≤ 8) : shl .i64 1 (d : Int) = ((2 ^ d : Nat) : Int) := by
  have : ∀ d : Nat, d ≤ 8 → shl .i64 1 (d : Int) = ((2 ^ d : Nat) : Int) := by decide
  exact this d h
/-- As low as can be. -/
def Low (t : Tr) : Prop := t.depth = 0 ∨ 2 ^ (t.depth - 1) < t.leaves.length
theorem low_join {t : Tr} (h : Low t) (p : Int) : Low (t.join p) := by
  have hl := (join_leaves t p).length_eq
  rw [List.length_append, List.length_singleton] at hl
  unfold Low
  rw [hl, join_depth]
  by_cases c : t.full = true
  · rw [if_pos c]
    right
    have := of_decide_eq_true c
    rw [this, Nat.add_sub_cancel]
    omega
  · rw [if_neg c]
    rcases h with h | h
    · exact .inl h
    · right; omega
theorem low_fold : ∀ (l : List Int) (t : Tr), Low t → Low (l.foldl Tr.join t)
  | [], t, h => h
  | x :: l, t, h => low_fold l _ (low_join h x)
theorem low_end (b : Int) (l : List Int) (hl : l.length ≤ 9223372036854775807) (hw : ∀ x ∈ l, (Lit.int .i64 x).wf = true) (p : Int) (h1 : (Lit.int .i64 p).wf = true) (k : Nat) (hk : 250 ≤ k) : gemotlaw13_TreeLow.j2 k l p false = some true := by
  obtain ⟨k, rfl⟩ : ∃ j, k = j + 1 := ⟨k - 1, by omega⟩
  obtain ⟨t, ht, hm⟩ := made13 l (by omega) hw
  obtain ⟨v, hv, v0, v1⟩ := pick13 (n := 8) (ri64 h1) (by decide) (by decide)
  have hP : 1 ≤ 1 + v ∧ 1 + v ≤ 8 := by omega
  have h8 := right_len ht
  have hd := t.depth_lt
  rw [gemotlaw13_TreeLow.j2, if_neg (by decide), hm k (by omega), Option.bind_some, hv, Option.bind_some, wr_in (n := 1 + v) (by omega)]
  by_cases c : 1 + v ∈ t.leaves
  · rw [join_in ht c, Option.bind_some, depth_t ht, Option.bind_some, if_neg (by decide)]
  · have hjr := join_right ht hP c
    rw [join_out ht hP c, Option.bind_some, depth_t ht, Option.bind_some, if_pos rfl, depth_t hjr, Option.bind_some, members_t ht, Option.bind_some, if_pos (by omega), join_depth, shl_pow _ (by omega), mems_len]
    by_cases f : t.full = true
    · have := of_decide_eq_true f
      rw [if_pos f, this, decide_eq_true (by omega), beq_self_eq_true]
      rfl
    · have hne : t.leaves.length ≠ 2 ^ t.depth := fun e => f (decide_eq_true e)
      have e1 : ((t.leaves.length : Int) == ((2 ^ t.depth : Nat) : Int)) = false := beq_eq_false_iff_ne.mpr (fun q => hne (Int.ofNat_inj.mp q))
      rw [if_neg f, e1, decide_eq_false (by omega)]
      rfl
theorem low_built (l : List Int) (hl : l.length ≤ 9223372036854775807) (hw : ∀ x ∈ l, (Lit.int .i64 x).wf = true) (p : Int) (h1 : (Lit.int .i64 p).wf = true) (ks : List Int) (hr : (0 :: ks).Pairwise (· < ·)) (h8 : ∀ x ∈ ks, x ≤ 8) (k : Nat) (hk : 260 ≤ k) :
    ((tree_Build.f k ks).bind fun bt1005 => (if true = true then (gemotlaw13_TreeLow.j1 k l p ks bt1005.1 ((bt1005.2 == 0) != (decide ((ks.length : Int) > 0)))) else (gemotlaw13_TreeLow.j1 k l p ks bt1005.1 true))) = some true := by
  cases ks with
  | nil =>
    obtain ⟨j, rfl⟩ : ∃ j, k = j + 1 := ⟨k - 1, by omega⟩
    rw [build_none, Option.bind_some, if_pos rfl, gemotlaw13_TreeLow.j1, if_neg (by decide)]
    have h0 : tree_Depth.f (⟨#[]⟩ : ByteArray) = some (-1) := rfl
    rw [h0, Option.bind_some, if_neg (by decide)]
    exact low_end 0 l hl hw p h1 j (by omega)
  | cons x m =>
    have hup : upB 0 (x :: m) = true := (upB_iff _ 0 (by omega)).mpr ⟨hr, h8, fun e => by cases e⟩
    obtain ⟨hb, hu⟩ := build_ok hup k (by omega)
    have hlow : Low (m.foldl Tr.join (.leaf x)) := low_fold m _ (.inl rfl)
    have hperm := foldl_leaves m (.leaf x)
    rw [hb, Option.bind_some, if_pos rfl]
    generalize m.foldl Tr.join (.leaf x) = u at hu hlow hperm
    have hperm : u.leaves.Perm (x :: m) := hperm
    have hlen := hperm.length_eq
    have h9 := right_len hu
    have hd := u.depth_lt
    have hpos : 0 < (x :: m).length := by rw [List.length_cons]; omega
    have hmem : u.mems = x :: m := mems_eq hperm ((List.pairwise_cons.mp hr).2.imp (fun h => Int.le_of_lt h))
    obtain ⟨j, rfl⟩ : ∃ j, k = j + 1 := ⟨k - 1, by omega⟩
    have fin : ∀ q : Bool, q = true → gemotlaw13_TreeLow.j2 j l p (!q) = some true := fun q hq => by
      rw [hq]; exact low_end 0 l hl hw p h1 j (by omega)
    have hsame : ((tree_Members.f u.text).bind fun t1008 => ((gemotref10_Same.f t1008 (x :: m)).bind fun t1011 => (gemotlaw13_TreeLow.j2 j l p (!t1011)))) = some true := by
      rw [members_t hu, Option.bind_some, hmem]
      show (some ((x :: m) == (x :: m))).bind _ = _
      rw [Option.bind_some]
      exact fin _ (beq_self_eq_true _)
    rw [gemotlaw13_TreeLow.j1, if_neg (by rw [decide_eq_true (by omega)]; exact Bool.false_ne_true), depth_t hu, Option.bind_some, if_pos (by omega), if_pos (by omega), shl_pow _ (by omega), if_neg (by have := u.len_pow; omega)]
    by_cases c : (u.depth : Int) > 0
    · have hw1 : wrap64 ((u.depth : Int) - 1) = ((u.depth - 1 : Nat) : Int) := by rw [wr_in (by omega)]; omega
      rw [if_pos c, hw1, if_pos (by omega), shl_pow _ (by omega), if_neg (by
        rcases hlow with h | h
        · omega
        · omega)]
      exact hsame
    · rw [if_neg c]; exact hsame
theorem low_go (b : Int) (l : List Int) (hl : l.length ≤ 9223372036854775807) (hw : ∀ x ∈ l, (Lit.int .i64 x).wf = true) (p : Int) (h1 : (Lit.int .i64 p).wf = true) : ∀ (d : Nat) (ks : List Int) (x k : Nat), (0 :: ks).Pairwise (· < ·) → (∀ y ∈ ks, y ≤ 8) → (∀ y ∈ (0 :: ks), y < (x : Int)) → ks.length ≤ x → x + d = 9 → d + 270 ≤ k → gemotlaw13_TreeLow.l0 k b l p true ks x = some true
  | 0, ks, x, k + 1, hr, h8, hx, hn, hd, hk => by
    rw [gemotlaw13_TreeLow.l0, if_neg (by omega)]
    exact low_built l hl hw p h1 ks hr h8 k (by omega)
  | d + 1, ks, x, k + 1, hr, h8, hx, hn, hd, hk => by
    have h0 := hx 0 List.mem_cons_self
    have hw1 : wrap64 ((x : Int) + 1) = ((x + 1 : Nat) : Int) := wr_next (n := 9) (by omega) (by omega)
    have hx1 : ∀ y ∈ (0 :: ks), y < ((x + 1 : Nat) : Int) := fun y hy => by have := hx y hy; omega
    rw [gemotlaw13_TreeLow.l0, if_pos (by omega), if_pos (by rw [wr_in (by omega)]; omega), hw1]
    by_cases c : Go.bits .and .i64 (shr .i64 b (wrap64 ((x : Int) - 1))) 1 = 1
    · rw [if_pos c, if_pos (by omega)]
      refine low_go b l hl hw p h1 d (ks ++ [(x : Int)]) (x + 1) k ?_ ?_ ?_ (by rw [List.length_append, List.length_singleton]; omega) (by omega) (by omega)
      · rw [← List.cons_append, List.pairwise_append]
        exact ⟨hr, List.pairwise_singleton _ _, fun a ha b hb => by cases List.mem_singleton.mp hb; exact hx a ha⟩
      · intro y hy
        rcases List.mem_append.mp hy with h1 | h1
        · exact h8 y h1
        · cases List.mem_singleton.mp h1; omega
      · intro y hy
        rw [← List.cons_append] at hy
        rcases List.mem_append.mp hy with h1 | h1
        · exact hx1 y h1
        · cases List.mem_singleton.mp h1; omega
    · rw [if_neg c]
      exact low_go b l hl hw p h1 d ks (x + 1) k hr h8 hx1 (by omega) (by omega) (by omega)
theorem TreeLow (a0 : Int) (l1 : List Int) (a2 : Int) (h0 : (Lit.int .i64 a0).wf = true) (h1 : l1.length ≤ 9223372036854775807 ∧ ∀ y ∈ l1, (Lit.int .i64 y).wf = true) (h2 : (Lit.int .i64 a2).wf = true) : ∃ k, gemotlaw13_TreeLow.f k a0 l1 a2 = some true := by
  refine ⟨400, ?_⟩
  unfold gemotlaw13_TreeLow.f
  rw [shown13 400 (by omega), Option.bind_some]
  exact low_go a0 l1 h1.1 h1.2 a2 h2 8 [] 1 400 (List.pairwise_singleton _ _) (fun x hx => absurd hx (List.not_mem_nil)) (fun y hy => by cases List.mem_singleton.mp hy; decide) (by decide) (by omega) (by omega)
end Go.Proofs.YtiofobdmkkbmlaaDoor.Pure
