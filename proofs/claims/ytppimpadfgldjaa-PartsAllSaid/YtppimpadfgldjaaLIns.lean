/- Rows of texts by bytes, each once: a text put into one. -/
import Derived.Test.YtppimpadfgldjaaB2
import Derived.Test.YtppimpadfgldjaaF117
namespace Go.Proofs.Ytppimpadfgldjaa.Pure
set_option linter.unusedVariables false
set_option linter.unusedSimpArgs false
open Go.RowKit Go.Proofs.Ytppimpadfgldjaa.F Go.Proofs.YtppimpadfgldjaaW.PrintWords Go.Proofs.YtppimpadfgldjaaW.PrintLast Go.Proofs.YtppimpadfgldjaaW.PrintMore

/-- By bytes, each once. -/
def Srt (l : List ByteArray) : Prop := l.Pairwise fun x y => bl x < bl y
theorem bl_ne {a b : ByteArray} (h : bl a < bl b) : a ≠ b := fun e => List.lt_irrefl _ (e ▸ h)
theorem bl_trans {a b c : ByteArray} (h : bl a < bl b) (h' : bl b < bl c) : bl a < bl c := List.lt_trans h h'
theorem bl_of {a b : ByteArray} (h : ¬ bl a < bl b) (hn : b ≠ a) : bl b < bl a := by
  rcases List.le_iff_lt_or_eq.mp (List.not_lt.mp h) with h | h
  · exact h
  · exact absurd (bl_inj h) hn
theorem srt_same : ∀ {l m : List ByteArray}, Srt l → Srt m → (∀ x, x ∈ l ↔ x ∈ m) → l = m
  | [], [], _, _, _ => rfl
  | [], y :: m, _, _, h => absurd ((h y).mpr List.mem_cons_self) List.not_mem_nil
  | x :: l, [], _, _, h => absurd ((h x).mp List.mem_cons_self) List.not_mem_nil
  | x :: l, y :: m, hl, hm, h => by
    have h1 := List.pairwise_cons.mp hl
    have h2 := List.pairwise_cons.mp hm
    have he : x = y := by
      rcases List.mem_cons.mp ((h x).mp List.mem_cons_self) with e | e
      · exact e
      · rcases List.mem_cons.mp ((h y).mpr List.mem_cons_self) with e' | e'
        · exact e'.symm
        · exact absurd (bl_trans (h1.1 y e') (h2.1 x e)) (List.lt_irrefl _)
    subst he
    congr 1
    refine srt_same h1.2 h2.2 fun z => ⟨fun hz => ?_, fun hz => ?_⟩
    · rcases List.mem_cons.mp ((h z).mp (List.mem_cons_of_mem _ hz)) with e | e
      · exact absurd e.symm (bl_ne (h1.1 z hz))
      · exact e
    · rcases List.mem_cons.mp ((h z).mpr (List.mem_cons_of_mem _ hz)) with e | e
      · exact absurd e.symm (bl_ne (h2.1 z hz))
      · exact e
/-- A text into a row that is by bytes. -/
def insF : List ByteArray → ByteArray → List ByteArray
  | [], s => [s]
  | x :: l, s => if x = s then x :: l else if bl s < bl x then s :: x :: l else x :: insF l s
theorem insF_mem : ∀ (l : List ByteArray) (s x : ByteArray), x ∈ insF l s ↔ x = s ∨ x ∈ l
  | [], s, x => by simp [insF]
  | y :: l, s, x => by
    rw [insF]
    by_cases h : y = s
    · subst h; rw [if_pos rfl]; simp
    · rw [if_neg h]
      split
      · simp
      · rw [List.mem_cons, insF_mem l s x, List.mem_cons]
        constructor
        · rintro (h | h | h)
          · exact .inr (.inl h)
          · exact .inl h
          · exact .inr (.inr h)
        · rintro (h | h | h)
          · exact .inr (.inl h)
          · exact .inl h
          · exact .inr (.inr h)
theorem insF_srt : ∀ {l : List ByteArray} (s : ByteArray), Srt l → Srt (insF l s)
  | [], s, _ => by simp [insF, Srt]
  | y :: l, s, h => by
    have h1 := List.pairwise_cons.mp h
    rw [insF]
    by_cases c : y = s
    · rw [if_pos c]; exact h
    · rw [if_neg c]
      split
      · rename_i d
        refine List.pairwise_cons.mpr ⟨fun z hz => ?_, h⟩
        rcases List.mem_cons.mp hz with e | e
        · exact e ▸ d
        · exact bl_trans d (h1.1 z e)
      · rename_i d
        refine List.pairwise_cons.mpr ⟨fun z hz => ?_, insF_srt s h1.2⟩
        rcases (insF_mem l s z).mp hz with e | e
        · exact e ▸ bl_of d c
        · exact h1.1 z e
theorem insF_len (l : List ByteArray) (s : ByteArray) : (insF l s).length ≤ l.length + 1 := by
  induction l with
  | nil => simp [insF]
  | cons y l ih =>
    rw [insF]
    split
    · simp
    · split
      · simp
      · simp only [List.length_cons]; omega
theorem toList_ne {a b : ByteArray} : a.toList = b.toList ↔ a = b := ⟨fun h => bl_inj (by rw [ByteArray.toList_eq, ByteArray.toList_eq] at h; exact h), fun h => h ▸ rfl⟩
theorem wrapN {i n : Nat} (h : i + 1 ≤ n) (hn : n < 9223372036854775808) : wrap64 ((i : Int) + 1) = ((i + 1 : Nat) : Int) := by unfold wrap64; omega
theorem put_done (l : List ByteArray) (s : ByteArray) (hl : l.length ≤ 4398046511104) : ∀ (d k i : Nat) (acc : List ByteArray), i + d = l.length → d < k → acc.length ≤ i + 1 → (∀ x ∈ l.drop i, x ≠ s) →
    gemotref2_Put.l0 k l s acc true i = some (acc ++ l.drop i)
  | 0, k + 1, i, acc, hi, hk, ha, hn => by
    simp only [gemotref2_Put.l0]
    rw [if_neg (by omega), if_pos trivial, List.drop_of_length_le (by omega), List.append_nil]
  | d + 1, k + 1, i, acc, hi, hk, ha, hn => by
    have hlt : i < l.length := by omega
    have hr : rdOf ByteArray.empty l (i : Int) = l[i] := by simp [rdOf, List.getD_eq_getElem?_getD, hlt]
    have hd := List.drop_eq_getElem_cons hlt
    rw [hd] at hn ⊢
    have hne := hn _ List.mem_cons_self
    simp only [gemotref2_Put.l0]
    rw [hr, if_pos (by omega), if_pos (by omega), if_neg (fun h => hne (toList_ne.mp h)), if_pos trivial, if_pos (by omega), wrapN (n := l.length) (by omega) (by omega),
      put_done l s hl d k (i + 1) _ (by omega) (by omega) (by simp; omega) (fun x hx => hn x (List.mem_cons_of_mem _ hx))]
    simp
theorem put_not (l : List ByteArray) (s : ByteArray) (hs : Srt l) (hl : l.length ≤ 4398046511104) : ∀ (d k i : Nat), i + d = l.length → d < k →
    gemotref2_Put.l0 k l s (l.take i) false i = some (l.take i ++ insF (l.drop i) s)
  | 0, k + 1, i, hi, hk => by
    simp only [gemotref2_Put.l0]
    rw [if_neg (by omega), if_neg (by decide), List.drop_of_length_le (by omega), insF, if_pos (by rw [List.length_take]; omega)]
  | d + 1, k + 1, i, hi, hk => by
    have hlt : i < l.length := by omega
    have hr : rdOf ByteArray.empty l (i : Int) = l[i] := by simp [rdOf, List.getD_eq_getElem?_getD, hlt]
    have hd := List.drop_eq_getElem_cons hlt
    have htk : l.take i ++ [l[i]] = l.take (i + 1) := by rw [List.take_add_one, List.getElem?_eq_getElem hlt]; rfl
    have hsd : Srt (l.drop i) := List.Pairwise.sublist (List.drop_sublist i l) hs
    rw [hd] at hsd ⊢
    have h1 := List.pairwise_cons.mp hsd
    have htl : (l.take i).length = i := by rw [List.length_take]; omega
    simp only [gemotref2_Put.l0]
    rw [hr, if_pos (by omega), if_pos (by omega), insF]
    by_cases c : l[i] = s
    · rw [if_pos (toList_ne.mpr c), if_pos c, ← hd, List.take_append_drop]
    · rw [if_neg (fun h => c (toList_ne.mp h)), if_neg c, if_neg (by decide)]
      by_cases e : bl s < bl l[i]
      · rw [if_pos ((less_iff _ _).mpr e), if_pos e, if_pos (by omega)]
        simp only [Option.bind_some]
        rw [if_pos (by simp; omega), wrapN (n := l.length) (by omega) (by omega),
          put_done l s hl d k (i + 1) _ (by omega) (by omega) (by simp; omega) (fun x hx => (bl_ne (bl_trans e (h1.1 x hx))).symm)]
        simp
      · rw [if_neg (fun h => e ((less_iff _ _).mp h)), if_neg e, if_pos (by omega), wrapN (n := l.length) (by omega) (by omega), htk, put_not l s hs hl d k (i + 1) (by omega) (by omega), ← htk, List.append_assoc]
        rfl
theorem put_ins {l : List ByteArray} (s : ByteArray) (hs : Srt l) (hl : l.length ≤ 4398046511104) {k : Nat} (hk : l.length < k) : gemotref2_Put.f k l s = some (insF l s) := by
  have := put_not l s hs hl l.length k 0 (by omega) hk
  simpa [gemotref2_Put.f] using this
end Go.Proofs.Ytppimpadfgldjaa.Pure
