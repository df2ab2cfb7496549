/- The pure side of WatchLimits: what a watch holds behind a hearing and ticks. -/
import Derived.Test.YtenmlpkgodnjnaaF6
namespace Go.Proofs.Ytenmlpkgodnjnaa.Pure
open Go.RowKit Go.Proofs.Ytenmlpkgodnjnaa.F Go.Proofs.YtenmlpkgodnjnaaW.PrintWords Go.Proofs.YtenmlpkgodnjnaaW.PrintLast Go.Proofs.YtenmlpkgodnjnaaW.PrintMore

theorem wl_drop (l : List Int) (i : Int) (h0 : 0 ≤ i) (h : i < l.length) : l.drop i.toNat = rd l i :: l.drop (i + 1).toNat := by
  have h1 : i.toNat < l.length := by omega
  rw [List.drop_eq_getElem_cons h1, show (i + 1).toNat = i.toNat + 1 by omega]
  congr 1
  simp [rd, List.getD_eq_getElem?_getD, h1]
theorem mem_there (lim : Int) (q : List Int) (x : Int) : x ∈ thereL lim q ↔ ∃ j : Nat, ∃ h : j < q.length, q[j] ≤ lim ∧ x = (j : Int) + 1 := by
  unfold thereL
  rw [List.mem_map]
  constructor
  · rintro ⟨⟨v, j⟩, hm, rfl⟩
    rw [List.mem_filter] at hm
    have h1 := List.mem_zipIdx hm.1
    simp at h1
    refine ⟨j, by omega, ?_, rfl⟩
    have h2 := hm.2
    simp at h2
    rw [← h1.2]
    exact h2
  · rintro ⟨j, h, hq, rfl⟩
    refine ⟨(q[j], j), List.mem_filter.mpr ⟨?_, by simpa using hq⟩, rfl⟩
    rw [List.mem_zipIdx_iff_getElem?]
    simp [h]
theorem there_len (lim : Int) (q : List Int) : (thereL lim q).length = q.countP (fun v => decide (v ≤ lim)) := by
  unfold thereL
  rw [List.length_map, ← List.countP_eq_length_filter]
  have : (fun y : Int × Nat => decide (y.1 ≤ lim)) = (fun v : Int => decide (v ≤ lim)) ∘ Prod.fst := rfl
  rw [this, ← List.countP_map]
  congr 1
  simp
section
variable (me lim p : Int) (hm : 1 ≤ me ∧ me ≤ 8) (hl : 1 ≤ lim ∧ lim ≤ 100) (hp : 1 ≤ p ∧ p ≤ 8)
def q0 : List Int := hearQ (List.replicate 8 (lim + 1)) me
def qv : List Int := hearQ (q0 me lim) p
def qx : Nat → List Int
  | 0 => qv me lim p
  | n + 1 => tickQ me lim (qx n)
theorem hearQ_len (q : List Int) (p : Int) : (hearQ q p).length = q.length := by unfold hearQ; split <;> simp
theorem q0_len : (q0 me lim).length = 8 := by unfold q0; rw [hearQ_len]; simp
theorem qv_len : (qv me lim p).length = 8 := by unfold qv; rw [hearQ_len, q0_len]
theorem qx_len : ∀ n, (qx me lim p n).length = 8
  | 0 => qv_len me lim p
  | n + 1 => by unfold qx tickQ; rw [List.length_mapIdx, qx_len n]
include hl in
theorem one_there (hm : 1 ≤ me ∧ me ≤ 8) : (thereL lim (q0 me lim)).length = 1 := by
  rw [there_len]
  have h1 : ¬ lim + 1 ≤ lim := by omega
  have h2 : 0 ≤ lim := by omega
  have : me = 1 ∨ me = 2 ∨ me = 3 ∨ me = 4 ∨ me = 5 ∨ me = 6 ∨ me = 7 ∨ me = 8 := by omega
  rcases this with rfl | rfl | rfl | rfl | rfl | rfl | rfl | rfl <;> simp [q0, hearQ, List.replicate, h1, h2]
include hl hm hp in
theorem two_there : (thereL lim (qv me lim p)).length = 2 ↔ p ≠ me := by
  rw [there_len]
  have h1 : ¬ lim + 1 ≤ lim := by omega
  have h2 : 0 ≤ lim := by omega
  have h3 : me = 1 ∨ me = 2 ∨ me = 3 ∨ me = 4 ∨ me = 5 ∨ me = 6 ∨ me = 7 ∨ me = 8 := by omega
  have h4 : p = 1 ∨ p = 2 ∨ p = 3 ∨ p = 4 ∨ p = 5 ∨ p = 6 ∨ p = 7 ∨ p = 8 := by omega
  rcases h3 with rfl | rfl | rfl | rfl | rfl | rfl | rfl | rfl <;> rcases h4 with rfl | rfl | rfl | rfl | rfl | rfl | rfl | rfl <;> simp [qv, q0, hearQ, List.replicate, h1, h2]
include hm hp in
theorem qv_get (j : Nat) (h : j < 8) : (qv me lim p)[j]? = some (if (j : Int) + 1 = me then 0 else if (j : Int) + 1 = p then 0 else lim + 1) := by
  have h1 := q0_len me lim
  unfold qv hearQ
  rw [if_pos ⟨hp.1, by omega⟩, List.getElem?_set]
  have h2 : (q0 me lim)[j]? = some (if (j : Int) + 1 = me then 0 else lim + 1) := by
    unfold q0 hearQ
    rw [if_pos ⟨hm.1, by simp; omega⟩, List.getElem?_set]
    by_cases c : (me - 1).toNat = j
    · rw [if_pos c, if_pos (by simp; omega), if_pos (by omega)]
    · rw [if_neg c, if_neg (by omega), List.getElem?_replicate, if_pos h]
  by_cases c : (p - 1).toNat = j
  · rw [if_pos c, if_pos (by omega)]
    congr 1
    split
    · rfl
    · rw [if_pos (by omega)]
  · rw [if_neg c, h2]
    congr 1
    split
    · rfl
    · rw [if_neg (by omega)]
include hm hp hl in
theorem qx_get : ∀ (n : Nat) (j : Nat), n ≤ 400 → j < 8 → (qx me lim p n)[j]? = some (if (j : Int) + 1 = me then 0 else if (j : Int) + 1 = p then (if (n : Int) ≤ lim then (n : Int) else lim + 1) else lim + 1)
  | 0, j, _, h => by
    have := qv_get me lim p hm hp j h
    unfold qx
    rw [this]
    congr 1
    split
    · rfl
    · split
      · rw [if_pos (by omega)]; rfl
      · rfl
  | n + 1, j, hn, h => by
    have ih := qx_get n j (by omega) h
    unfold qx tickQ
    rw [List.getElem?_mapIdx, ih]
    simp only [Option.map_some, tick1]
    congr 1
    by_cases c : (j : Int) + 1 = me
    · rw [if_pos c, if_pos c, if_pos c]
    · rw [if_neg c, if_neg c, if_neg c]
      have hw : wrap64 (lim + 1) = lim + 1 := by unfold wrap64; omega
      rw [hw]
      by_cases c2 : (j : Int) + 1 = p
      · rw [if_pos c2, if_pos c2]
        by_cases c3 : (n : Int) ≤ lim
        · have hw2 : wrap64 ((n : Int) + 1) = (n : Int) + 1 := by unfold wrap64; omega
          rw [if_pos c3, hw2]
          unfold mn
          split <;> split <;> omega
        · have hw2 : wrap64 (lim + 1 + 1) = lim + 1 + 1 := by unfold wrap64; omega
          rw [if_neg c3, hw2, if_neg (by omega)]
          unfold mn
          split <;> omega
      · have hw2 : wrap64 (lim + 1 + 1) = lim + 1 + 1 := by unfold wrap64; omega
        rw [if_neg c2, if_neg c2, hw2]
        unfold mn
        split <;> omega
include hm hp hl in
theorem qx_there (n : Nat) (hn : n ≤ 400) (x : Int) : x ∈ thereL lim (qx me lim p n) ↔ x = me ∨ (x = p ∧ (n : Int) ≤ lim) := by
  have hlen := qx_len me lim p n
  rw [mem_there]
  constructor
  · rintro ⟨j, h, hq, rfl⟩
    have h1 := qx_get me lim p hm hl hp n j hn (by omega)
    rw [List.getElem?_eq_getElem h, Option.some_inj] at h1
    rw [h1] at hq
    by_cases c : (j : Int) + 1 = me
    · exact .inl c
    · rw [if_neg c] at hq
      by_cases c2 : (j : Int) + 1 = p
      · rw [if_pos c2] at hq
        by_cases c3 : (n : Int) ≤ lim
        · exact .inr ⟨c2, c3⟩
        · rw [if_neg c3] at hq; omega
      · rw [if_neg c2] at hq; omega
  · intro h
    have h1 := qx_get me lim p hm hl hp n (x - 1).toNat hn (by omega)
    have h2 : (x - 1).toNat < (qx me lim p n).length := by omega
    rw [List.getElem?_eq_getElem h2, Option.some_inj] at h1
    refine ⟨(x - 1).toNat, h2, ?_, by omega⟩
    rw [h1]
    rcases h with h | ⟨h, h3⟩
    · rw [if_pos (by omega)]; omega
    · (repeat' split) <;> omega
include hm hl hp in
theorem wl_l1 (ticks : Int) (L : List Int) (hL : L.length ≤ 8) : ∀ (d k : Nat) (a b : Bool) (i : Int), 0 ≤ i → i ≤ L.length → (L.length : Int) - i = d → d < k →
    (b || (L.drop i.toNat).contains me) = true → (a || (L.drop i.toNat).contains p) = (decide (p = me) || decide (ticks ≤ lim)) →
    gemotlaw9_WatchLimits.l1 k me lim p ticks a b L i me lim (q0 me lim) me lim (qv me lim p) = some true := by
  intro d
  induction d with
  | zero =>
    intro k a b i hi hi2 hd hk hb ha
    obtain ⟨k, rfl⟩ : ∃ m, k = m + 1 := ⟨k - 1, by omega⟩
    rw [List.drop_eq_nil_of_le (by omega)] at ha hb
    have e0 := q0_len me lim
    have ev := qv_len me lim p
    simp only [gemotlaw9_WatchLimits.l1, watch_There.f]
    rw [if_neg (by omega), if_pos (by omega), if_pos (by omega)]
    simp only [Option.bind_some]
    refine if_pos ⟨by simpa using hb, by simpa using ha, one_there me lim hl hm, two_there me lim p hm hl hp, ev, hp.1, hp.2, ?_⟩
    have h1 := qv_get me lim p hm hp (p - 1).toNat (by omega)
    unfold rd
    rw [List.getD_eq_getElem?_getD, h1]
    simp only [Option.getD_some]
    split
    · rfl
    · rw [if_pos (by omega)]
  | succ d ih =>
    intro k a b i hi hi2 hd hk hb ha
    obtain ⟨k, rfl⟩ : ∃ m, k = m + 1 := ⟨k - 1, by omega⟩
    have hw : wrap64 (i + 1) = i + 1 := by unfold wrap64; omega
    rw [wl_drop L i hi (by omega)] at ha hb
    simp only [gemotlaw9_WatchLimits.l1]
    rw [if_pos (by omega), hw]
    have e : ∀ x y : Int, (x == y) = (y == x) := fun x y => by rw [Bool.eq_iff_iff, beq_iff_eq, beq_iff_eq]; exact eq_comm
    rw [List.contains_cons, ← Bool.or_assoc, e] at ha hb
    have go := fun a b => ih k a b (i + 1) (by omega) (by omega) (by omega) (by omega)
    cases a <;> cases b
    · rw [if_neg (by simp), if_pos hi, if_neg (by simp)]; exact go _ _ (by simpa using hb) (by simpa using ha)
    · rw [if_neg (by simp), if_pos hi, if_pos rfl]; exact go _ _ (by simp) (by simpa using ha)
    · rw [if_pos rfl, if_neg (by simp), if_pos hi]; exact go _ _ (by simpa using hb) (by simpa using ha)
    · rw [if_pos rfl, if_pos rfl]; exact go _ _ (by simp) (by simpa using ha)
include hm hl hp in
theorem wl_l0 (ticks : Int) (h0 : 0 ≤ ticks) (h3 : ticks ≤ 300) : ∀ (d k : Nat) (i : Nat), (i : Int) ≤ ticks → ticks - i = d → d + 20 < k →
    gemotlaw9_WatchLimits.l0 k me lim p ticks i me lim (q0 me lim) me lim (qv me lim p) me lim (qx me lim p i) = some true := by
  intro d
  induction d with
  | zero =>
    intro k i hi hd hk
    obtain ⟨k, rfl⟩ : ∃ m, k = m + 1 := ⟨k - 1, by omega⟩
    have ex := qx_len me lim p i
    have hn : (thereL lim (qx me lim p i)).length ≤ 8 := by rw [there_len]; have := List.countP_le_length (p := fun v => decide (v ≤ lim)) (l := qx me lim p i); omega
    have hi2 : ticks = i := by omega
    simp only [gemotlaw9_WatchLimits.l0, watch_There.f]
    rw [if_neg (by omega), if_pos (by omega)]
    simp only [Option.bind_some]
    have h1 := fun x => qx_there me lim p hm hl hp i (by omega) x
    refine wl_l1 me lim p hm hl hp ticks _ hn (thereL lim (qx me lim p i)).length k false false 0 (Int.le_refl _) (by omega) (by omega) (by omega) ?_ ?_
    · rw [show (0 : Int).toNat = 0 from rfl, List.drop_zero, Bool.false_or, List.contains_iff_mem, h1]
      exact .inl rfl
    · rw [show (0 : Int).toNat = 0 from rfl, List.drop_zero, Bool.false_or, Bool.eq_iff_iff, List.contains_iff_mem, h1, Bool.or_eq_true, decide_eq_true_eq, decide_eq_true_eq, hi2]
      simp
  | succ d ih =>
    intro k i hi hd hk
    obtain ⟨k, rfl⟩ : ∃ m, k = m + 1 := ⟨k - 1, by omega⟩
    have hw : wrap64 ((i : Int) + 1) = ((i + 1 : Nat) : Int) := by unfold wrap64; omega
    have ex := qx_len me lim p i
    simp only [gemotlaw9_WatchLimits.l0, watch_Tick.f]
    rw [if_pos (by omega), if_pos (by omega), hw]
    simp only [Option.bind_some]
    exact ih k (i + 1) (by omega) (by omega) (by omega)
end
theorem WatchLimits : ∀ (a0 : Int) (a1 : Int) (a2 : Int) (a3 : Int), ((Lit.int .i64 a0).wf = true) → ((Lit.int .i64 a1).wf = true) → ((Lit.int .i64 a2).wf = true) → ((Lit.int .i64 a3).wf = true) → ∃ k, gemotlaw9_WatchLimits.f k a0 a1 a2 a3 = some true := by
  intro me lim p ticks _ _ _ _
  refine ⟨400 + 1, ?_⟩
  have jt : ∀ a b c, gemotlaw9_WatchLimits.j0 (400 + 1) me lim p ticks true true a b c = some true := by
    intro a b c
    simp only [gemotlaw9_WatchLimits.j0]
    rw [if_pos trivial]
  simp only [gemotlaw9_WatchLimits.f, gemotlaw9_shown.f, watch_New.f, Option.bind_some]
  rw [if_pos trivial]
  by_cases ok : newOk me lim
  · rw [if_pos ok, if_pos rfl]
    obtain ⟨h1, h2, h3, h4⟩ := ok
    split
    · exact jt _ _ _
    split
    · exact jt _ _ _
    split
    · exact jt _ _ _
    rename_i c1 c2 c3
    by_cases c4 : ticks > 300
    · rw [decide_eq_true c4]; exact jt _ _ _
    rw [decide_eq_false c4]
    simp only [gemotlaw9_WatchLimits.j0, watch_Hear.f]
    have e0 := q0_len me lim
    rw [if_neg (by simp), if_pos (by unfold q0 at e0; omega)]
    simp only [Option.bind_some]
    exact wl_l0 me lim p ⟨h1, h2⟩ ⟨h3, h4⟩ ⟨by omega, by omega⟩ ticks (by omega) (by omega) ticks.toNat 400 0 (by omega) (by omega) (by omega)
  · rw [if_neg ok, if_neg (by decide)]
    exact jt _ _ _
end Go.Proofs.Ytenmlpkgodnjnaa.Pure
