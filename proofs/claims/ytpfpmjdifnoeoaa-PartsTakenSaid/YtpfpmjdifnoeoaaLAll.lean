/- Plain facts about all that stands in a term: the document's rows, by bytes, each once, are the program's. -/
import Derived.Test.YtpfpmjdifnoeoaaB2
import Derived.Test.YtpfpmjdifnoeoaaB3
import Derived.Test.YtpfpmjdifnoeoaaF76
import Derived.Test.YtpfpmjdifnoeoaaF77
namespace Go.Proofs.Ytpfpmjdifnoeoaa.Pure
set_option linter.unusedVariables false
set_option linter.unusedSimpArgs false
open Go.RowKit Go.Proofs.Ytpfpmjdifnoeoaa.F Go.Proofs.YtpfpmjdifnoeoaaW.PrintWords Go.Proofs.YtpfpmjdifnoeoaaW.PrintLast Go.Proofs.YtpfpmjdifnoeoaaW.PrintMore Go.Maps Go.Sort

/-- By bytes, each once. -/
def Srt (l : List ByteArray) : Prop := l.Pairwise fun x y => bl x < bl y
theorem bl_ne {a b : ByteArray} (h : bl a < bl b) : a ≠ b := fun e => List.lt_irrefl _ (e ▸ h)
theorem bl_trans {a b c : ByteArray} (h : bl a < bl b) (h' : bl b < bl c) : bl a < bl c := List.lt_trans h h'
theorem bl_of {a b : ByteArray} (h : ¬ bl a < bl b) (hn : b ≠ a) : bl b < bl a := by
  rcases List.le_iff_lt_or_eq.mp (List.not_lt.mp h) with h | h
  · exact h
  · exact absurd (bl_inj h) hn
theorem srt_same : ∀ {l m : List ByteArray}, Srt l → Srt m → (∀ x, x ∈ l ↔ x ∈ m) → l = m
  | [], [], _, _, _ => rfl
  | [], y :: m, _, _, h => absurd ((h y).mpr List.mem_cons_self) List.not_mem_nil
  | x :: l, [], _, _, h => absurd ((h x).mp List.mem_cons_self) List.not_mem_nil
  | x :: l, y :: m, hl, hm, h => by
    have h1 := List.pairwise_cons.mp hl
    have h2 := List.pairwise_cons.mp hm
    have he : x = y := by
      rcases List.mem_cons.mp ((h x).mp List.mem_cons_self) with e | e
      · exact e
      · rcases List.mem_cons.mp ((h y).mpr List.mem_cons_self) with e' | e'
        · exact e'.symm
        · exact absurd (bl_trans (h1.1 y e') (h2.1 x e)) (List.lt_irrefl _)
    subst he
    congr 1
    refine srt_same h1.2 h2.2 fun z => ⟨fun hz => ?_, fun hz => ?_⟩
    · rcases List.mem_cons.mp ((h z).mp (List.mem_cons_of_mem _ hz)) with e | e
      · exact absurd e.symm (bl_ne (h1.1 z hz))
      · exact e
    · rcases List.mem_cons.mp ((h z).mpr (List.mem_cons_of_mem _ hz)) with e | e
      · exact absurd e.symm (bl_ne (h2.1 z hz))
      · exact e
/-- A text into a row that is by bytes. -/
def insF : List ByteArray → ByteArray → List ByteArray
  | [], s => [s]
  | x :: l, s => if x = s then x :: l else if bl s < bl x then s :: x :: l else x :: insF l s
theorem insF_mem : ∀ (l : List ByteArray) (s x : ByteArray), x ∈ insF l s ↔ x = s ∨ x ∈ l
  | [], s, x => by simp [insF]
  | y :: l, s, x => by
    rw [insF]
    by_cases h : y = s
    · subst h; rw [if_pos rfl]; simp
    · rw [if_neg h]
      split
      · simp
      · rw [List.mem_cons, insF_mem l s x, List.mem_cons]
        constructor
        · rintro (h | h | h)
          · exact .inr (.inl h)
          · exact .inl h
          · exact .inr (.inr h)
        · rintro (h | h | h)
          · exact .inr (.inl h)
          · exact .inl h
          · exact .inr (.inr h)
theorem insF_srt : ∀ {l : List ByteArray} (s : ByteArray), Srt l → Srt (insF l s)
  | [], s, _ => by simp [insF, Srt]
  | y :: l, s, h => by
    have h1 := List.pairwise_cons.mp h
    rw [insF]
    by_cases c : y = s
    · rw [if_pos c]; exact h
    · rw [if_neg c]
      split
      · rename_i d
        refine List.pairwise_cons.mpr ⟨fun z hz => ?_, h⟩
        rcases List.mem_cons.mp hz with e | e
        · exact e ▸ d
        · exact bl_trans d (h1.1 z e)
      · rename_i d
        refine List.pairwise_cons.mpr ⟨fun z hz => ?_, insF_srt s h1.2⟩
        rcases (insF_mem l s z).mp hz with e | e
        · exact e ▸ bl_of d c
        · exact h1.1 z e
theorem insF_len (l : List ByteArray) (s : ByteArray) : (insF l s).length ≤ l.length + 1 := by
  induction l with
  | nil => simp [insF]
  | cons y l ih =>
    rw [insF]
    split
    · simp
    · split
      · simp
      · simp only [List.length_cons]; omega
theorem toList_ne {a b : ByteArray} : a.toList = b.toList ↔ a = b := ⟨fun h => bl_inj (by rw [ByteArray.toList_eq, ByteArray.toList_eq] at h; exact h), fun h => h ▸ rfl⟩
theorem wrapN {i n : Nat} (h : i + 1 ≤ n) (hn : n < 9223372036854775808) : wrap64 ((i : Int) + 1) = ((i + 1 : Nat) : Int) := by unfold wrap64; omega
theorem put_done (l : List ByteArray) (s : ByteArray) (hl : l.length ≤ 4398046511104) : ∀ (d k i : Nat) (acc : List ByteArray), i + d = l.length → d < k → acc.length ≤ i + 1 → (∀ x ∈ l.drop i, x ≠ s) →
    gemotref2_Put.l0 k l s acc true i = some (acc ++ l.drop i)
  | 0, k + 1, i, acc, hi, hk, ha, hn => by
    simp only [gemotref2_Put.l0]
    rw [if_neg (by omega), if_pos trivial, List.drop_of_length_le (by omega), List.append_nil]
  | d + 1, k + 1, i, acc, hi, hk, ha, hn => by
    have hlt : i < l.length := by omega
    have hr : rdOf ByteArray.empty l (i : Int) = l[i] := by simp [rdOf, List.getD_eq_getElem?_getD, hlt]
    have hd := List.drop_eq_getElem_cons hlt
    rw [hd] at hn ⊢
    have hne := hn _ List.mem_cons_self
    simp only [gemotref2_Put.l0]
    rw [hr, if_pos (by omega), if_pos (by omega), if_neg (fun h => hne (toList_ne.mp h)), if_pos trivial, if_pos (by omega), wrapN (n := l.length) (by omega) (by omega),
      put_done l s hl d k (i + 1) _ (by omega) (by omega) (by simp; omega) (fun x hx => hn x (List.mem_cons_of_mem _ hx))]
    simp
theorem put_not (l : List ByteArray) (s : ByteArray) (hs : Srt l) (hl : l.length ≤ 4398046511104) : ∀ (d k i : Nat), i + d = l.length → d < k →
    gemotref2_Put.l0 k l s (l.take i) false i = some (l.take i ++ insF (l.drop i) s)
  | 0, k + 1, i, hi, hk => by
    simp only [gemotref2_Put.l0]
    rw [if_neg (by omega), if_neg (by decide), List.drop_of_length_le (by omega), insF, if_pos (by rw [List.length_take]; omega)]
  | d + 1, k + 1, i, hi, hk => by
    have hlt : i < l.length := by omega
    have hr : rdOf ByteArray.empty l (i : Int) = l[i] := by simp [rdOf, List.getD_eq_getElem?_getD, hlt]
    have hd := List.drop_eq_getElem_cons hlt
    have htk : l.take i ++ [l[i]] = l.take (i + 1) := by rw [List.take_add_one, List.getElem?_eq_getElem hlt]; rfl
    have hsd : Srt (l.drop i) := List.Pairwise.sublist (List.drop_sublist i l) hs
    rw [hd] at hsd ⊢
    have h1 := List.pairwise_cons.mp hsd
    have htl : (l.take i).length = i := by rw [List.length_take]; omega
    simp only [gemotref2_Put.l0]
    rw [hr, if_pos (by omega), if_pos (by omega), insF]
    by_cases c : l[i] = s
    · rw [if_pos (toList_ne.mpr c), if_pos c, ← hd, List.take_append_drop]
    · rw [if_neg (fun h => c (toList_ne.mp h)), if_neg c, if_neg (by decide)]
      by_cases e : bl s < bl l[i]
      · rw [if_pos ((less_iff _ _).mpr e), if_pos e, if_pos (by omega)]
        simp only [Option.bind_some]
        rw [if_pos (by simp; omega), wrapN (n := l.length) (by omega) (by omega),
          put_done l s hl d k (i + 1) _ (by omega) (by omega) (by simp; omega) (fun x hx => (bl_ne (bl_trans e (h1.1 x hx))).symm)]
        simp
      · rw [if_neg (fun h => e ((less_iff _ _).mp h)), if_neg e, if_pos (by omega), wrapN (n := l.length) (by omega) (by omega), htk, put_not l s hs hl d k (i + 1) (by omega) (by omega), ← htk, List.append_assoc]
        rfl
theorem put_ins {l : List ByteArray} (s : ByteArray) (hs : Srt l) (hl : l.length ≤ 4398046511104) {k : Nat} (hk : l.length < k) : gemotref2_Put.f k l s = some (insF l s) := by
  have := put_not l s hs hl l.length k 0 (by omega) hk
  simpa [gemotref2_Put.f] using this
theorem any_put (f : Lit × DataW Unit → Bool) (es : List (Lit × DataW Unit)) (k : Lit) (d : DataW Unit) (h : es.any f = false) (hk : f (k, d) = false) : ∃ es', (DataW.map es).put k d = .map es' ∧ es'.any f = false := by
  refine ⟨_, rfl, ?_⟩
  rw [any_insert, hk, Bool.false_or]
  rw [List.any_eq_false] at h ⊢
  exact fun x hx => h x (List.mem_filter.mp hx).1
def notStr : Lit → Bool
  | .string _ => false
  | _ => true
theorem all_str : ∀ (l : List ByteArray) (es : List (Lit × DataW Unit)), es.any (fun p => notStr p.1) = false → ∃ es', addAll (.map es) l = .map es' ∧ es'.any (fun p => notStr p.1) = false
  | [], es, h => ⟨es, rfl, h⟩
  | x :: l, es, h => by
    obtain ⟨es1, h1, h2⟩ := any_put (fun p => notStr p.1) es (.string x.data.toList) (.lit (.int .i64 1)) h rfl
    obtain ⟨es2, h3, h4⟩ := all_str l es1 h2
    refine ⟨es2, ?_, h4⟩
    rw [← h3]
    unfold addAll
    rw [List.foldl_cons, h1]
theorem keys_all (l : List ByteArray) : (strKeys (addAll (.map []) l)).Nodup ∧ ∀ b, b ∈ strKeys (addAll (.map []) l) ↔ ∃ x ∈ l, bl x = b := by
  obtain ⟨es, he, hs⟩ := all_str l [] rfl
  have ht := tidy_setOf (H := Unit) (.lit (.int .i64 1)) (l.map (fun x => Lit.string x.data.toList)) (keys_key l)
  rw [← addAll_setOf, he] at ht
  obtain ⟨es', he', hp⟩ := ht
  obtain rfl : es = es' := by injection he'
  have hk : ∀ p ∈ es, ∃ x, p.1 = .string x := fun p hp' => by
    have := List.any_eq_false.mp hs p hp'
    cases hq : p.1 with
    | string x => exact ⟨x, rfl⟩
    | _ => rw [hq] at this; exact absurd rfl this
  have hm : ∀ b, has (.map es) (.string b) = true ↔ ∃ x ∈ l, bl x = b := fun b => by
    rw [← he, addAll_setOf, has_setOf _ _ _ (keys_key l), List.any_eq_true]
    constructor
    · rintro ⟨z, hz, h⟩
      obtain ⟨y, hy, rfl⟩ := List.mem_map.mp hz
      exact ⟨y, hy, by simpa [Lit.sameKey, bl] using h⟩
    · rintro ⟨y, hy, rfl⟩
      exact ⟨_, List.mem_map.mpr ⟨y, hy, rfl⟩, by simp [Lit.sameKey, bl]⟩
  rw [he]
  refine ⟨?_, ?_⟩
  · refine List.pairwise_map.mpr (List.Pairwise.imp_of_mem ?_ hp)
    intro p q h1 h2 hne e
    apply hne
    obtain ⟨a, ha⟩ := hk p h1
    obtain ⟨c, hc⟩ := hk q h2
    rw [ha, hc] at e ⊢
    exact congrArg _ e
  · intro b
    rw [← hm b]
    show b ∈ es.map (fun p => strOf p.1) ↔ es.any (fun p => p.1.sameKey (.string b)) = true
    rw [List.mem_map, List.any_eq_true]
    constructor
    · rintro ⟨p, h1, rfl⟩
      obtain ⟨a, ha⟩ := hk p h1
      exact ⟨p, h1, by rw [ha]; simp [Lit.sameKey, strOf]⟩
    · rintro ⟨p, h1, h2⟩
      obtain ⟨a, ha⟩ := hk p h1
      exact ⟨p, h1, by rw [ha] at h2 ⊢; simpa [Lit.sameKey, strOf] using h2⟩
theorem addAll_len : ∀ (l : List ByteArray) (es : List (Lit × DataW Unit)), ∃ es', addAll (.map es) l = .map es' ∧ es'.length ≤ es.length + l.length
  | [], es => ⟨es, rfl, by simp⟩
  | x :: l, es => by
    obtain ⟨es1, h1⟩ : ∃ es1, (DataW.map es).put (.string x.data.toList) (.lit (.int .i64 1)) = .map es1 := ⟨_, rfl⟩
    have h2 : es1.length ≤ es.length + 1 := by
      injection h1 with h1
      rw [← h1, length_insert]
      have := List.length_filter_le (fun p : Lit × DataW Unit => !p.1.sameKey (.string x.data.toList)) es
      omega
    obtain ⟨es2, h3, h4⟩ := addAll_len l es1
    refine ⟨es2, ?_, by rw [List.length_cons]; omega⟩
    rw [← h3]
    unfold addAll
    rw [List.foldl_cons, h1]
theorem bl_txt (b : List UInt8) : bl (txt b) = b := rfl
theorem txt_bl (x : ByteArray) : txt (bl x) = x := rfl
theorem allK_mem (t x : ByteArray) : x ∈ allK t ↔ x ∈ allF t := by
  unfold allK keysD
  rw [List.mem_map]
  constructor
  · rintro ⟨b, hb, rfl⟩
    obtain ⟨y, hy, rfl⟩ := ((keys_all (allF t)).2 b).mp ((List.mergeSort_perm _ _).mem_iff.mp hb)
    exact hy
  · intro hx
    exact ⟨bl x, (List.mergeSort_perm _ _).mem_iff.mpr (((keys_all (allF t)).2 _).mpr ⟨x, hx, rfl⟩), rfl⟩
theorem allK_srt (t : ByteArray) : Srt (allK t) := by
  unfold allK keysD Srt
  rw [List.pairwise_map]
  have h1 := List.pairwise_mergeSort (le := fun x y : List UInt8 => decide (x ≤ y)) (fun a b c h1 h2 => by simp only [decide_eq_true_eq] at *; exact List.le_trans h1 h2) (fun a b => by simp only [Bool.or_eq_true, decide_eq_true_eq]; exact List.le_total a b) (strKeys (addAll (.map []) (allF t)))
  have h2 : (List.mergeSort (strKeys (addAll (.map []) (allF t))) (fun x y => decide (x ≤ y))).Nodup := (List.mergeSort_perm _ _).nodup_iff.mpr (keys_all (allF t)).1
  refine (h1.and h2).imp fun {a b} h => ?_
  rw [bl_txt, bl_txt]
  rcases List.le_iff_lt_or_eq.mp (of_decide_eq_true h.1) with e | e
  · exact e
  · exact absurd e h.2
theorem allK_eq {t : ByteArray} {l : List ByteArray} (hl : Srt l) (h : ∀ x, x ∈ l ↔ x ∈ allF t) : allK t = l := srt_same (allK_srt t) hl fun x => by rw [allK_mem, h]
/-- Rows that are put into a row, one by one. -/
theorem foldIns_mem : ∀ (m l : List ByteArray) (x : ByteArray), x ∈ m.foldl insF l ↔ x ∈ l ∨ x ∈ m
  | [], l, x => by simp
  | y :: m, l, x => by
    rw [List.foldl_cons, foldIns_mem m, insF_mem, List.mem_cons]
    constructor
    · rintro ((h | h) | h)
      · exact .inr (.inl h)
      · exact .inl h
      · exact .inr (.inr h)
    · rintro (h | h | h)
      · exact .inl (.inr h)
      · exact .inl (.inl h)
      · exact .inr h
theorem foldIns_srt : ∀ (m : List ByteArray) {l : List ByteArray}, Srt l → Srt (m.foldl insF l)
  | [], _, h => h
  | y :: m, _, h => foldIns_srt m (insF_srt y h)
theorem foldIns_len : ∀ (m l : List ByteArray), (m.foldl insF l).length ≤ l.length + m.length
  | [], l => by simp
  | y :: m, l => by rw [List.foldl_cons]; have h1 := foldIns_len m (insF l y); have h2 := insF_len l y; rw [List.length_cons]; omega
theorem rd_nat {l : List ByteArray} {i : Nat} (h : i < l.length) : rdOf ByteArray.empty l (i : Int) = l[i] := by simp [rdOf, List.getD_eq_getElem?_getD, h]
/-- The inner loop. -/
theorem all_in (kids ks : List ByteArray) (i : Int) (hs : ks.length ≤ 20000) : ∀ (d j k : Nat) (acc : List ByteArray), j + d = ks.length → Srt acc → acc.length + d ≤ 4398046511104 → acc.length + d + d < k →
    gemotref2_All.l1 k acc kids i ks j = gemotref2_All.l0 (k - d - 1) ((ks.drop j).foldl insF acc) kids (wrap64 (i + 1))
  | 0, j, k + 1, acc, hj, ha, hl, hk => by
    simp only [gemotref2_All.l1]
    rw [if_neg (by omega), List.drop_of_length_le (by omega)]
    rfl
  | d + 1, j, k + 1, acc, hj, ha, hl, hk => by
    have hlt : j < ks.length := by omega
    simp only [gemotref2_All.l1]
    rw [if_pos (by omega), if_pos (by omega), rd_nat hlt, put_ins ks[j] ha (by omega) (by omega)]
    simp only [Option.bind_some]
    have h1 := insF_len acc ks[j]
    rw [wrapN (n := ks.length) (by omega) (by omega), all_in kids ks i hs d (j + 1) k _ (by omega) (insF_srt _ ha) (by omega) (by omega), List.drop_eq_getElem_cons hlt, List.foldl_cons, show k + 1 - (d + 1) - 1 = k - d - 1 from by omega]
/-- The outer loop: where every part's own row is known, from some number of steps on. -/
theorem all_out (kids : List ByteArray) (hs : kids.length ≤ 20000) (hK : ∀ x ∈ kids, (allK x).length ≤ 20000 ∧ ∃ k0, ∀ k, k0 ≤ k → gemotref2_All.f k x = some (allK x)) : ∀ (d i : Nat) (acc : List ByteArray), i + d = kids.length → Srt acc → acc.length ≤ (i + 1) * 20001 →
    ∃ k0, ∀ k, k0 ≤ k → gemotref2_All.l0 k acc kids i = some ((kids.drop i).foldl (fun l x => (allK x).foldl insF l) acc)
  | 0, i, acc, hi, ha, hl => by
    refine ⟨1, fun k hk => ?_⟩
    obtain ⟨k, rfl⟩ : ∃ m, k = m + 1 := ⟨k - 1, by omega⟩
    simp only [gemotref2_All.l0]
    rw [if_neg (by omega), List.drop_of_length_le (by omega)]
    rfl
  | d + 1, i, acc, hi, ha, hl => by
    have hlt : i < kids.length := by omega
    obtain ⟨h1, k1, hk1⟩ := hK _ (List.getElem_mem hlt)
    have h3 := foldIns_len (allK kids[i]) acc
    obtain ⟨k2, hk2⟩ := all_out kids hs hK d (i + 1) ((allK kids[i]).foldl insF acc) (by omega) (foldIns_srt _ ha) (by omega)
    refine ⟨k1 + k2 + acc.length + (allK kids[i]).length + (allK kids[i]).length + 5, fun k hk => ?_⟩
    obtain ⟨k, rfl⟩ : ∃ m, k = m + 1 := ⟨k - 1, by omega⟩
    simp only [gemotref2_All.l0]
    rw [if_pos (by omega), if_pos (by omega), rd_nat hlt, hk1 k (by omega)]
    simp only [Option.bind_some]
    have h4 := all_in kids (allK kids[i]) i h1 (allK kids[i]).length 0 k acc (by omega) ha (by omega) (by omega)
    rw [List.drop_zero] at h4
    have h5 : ((0 : Nat) : Int) = 0 := rfl
    rw [h5] at h4
    rw [h4, wrapN (n := kids.length) (by omega) (by omega), hk2 _ (by omega), List.drop_eq_getElem_cons hlt, List.foldl_cons]
theorem foldAll_mem : ∀ (kids acc : List ByteArray) (x : ByteArray), x ∈ kids.foldl (fun l x => (allK x).foldl insF l) acc ↔ x ∈ acc ∨ ∃ y ∈ kids, x ∈ allK y
  | [], acc, x => by simp
  | y :: kids, acc, x => by
    rw [List.foldl_cons, foldAll_mem kids, foldIns_mem]
    constructor
    · rintro ((h | h) | ⟨z, hz, h⟩)
      · exact .inl h
      · exact .inr ⟨y, List.mem_cons_self, h⟩
      · exact .inr ⟨z, List.mem_cons_of_mem _ hz, h⟩
    · rintro (h | ⟨z, hz, h⟩)
      · exact .inl (.inl h)
      · rcases List.mem_cons.mp hz with e | e
        · exact .inl (.inr (e ▸ h))
        · exact .inr ⟨z, e, h⟩
theorem foldAll_srt : ∀ (kids : List ByteArray) {acc : List ByteArray}, Srt acc → Srt (kids.foldl (fun l x => (allK x).foldl insF l) acc)
  | [], _, h => h
  | y :: kids, _, h => foldAll_srt kids (foldIns_srt _ h)
theorem allK_len {t : ByteArray} (h : rightB t = true) : (allK t).length ≤ 20000 := by
  have h1 := allF_len h
  have h2 := ((right_iff t).mp h).2
  have h3 : (allK t).length ≤ (allF t).length := by
    obtain ⟨es, he, hl⟩ := addAll_len (allF t) []
    unfold allK keysD
    rw [List.length_map, List.length_mergeSort, he]
    show (es.map _).length ≤ _
    rw [List.length_map]
    simpa using hl
  omega
/-- The document's row of all that stands in a right term is the program's. -/
theorem refAll_right : ∀ (n : Nat) (t : ByteArray), t.size ≤ n → rightB t = true → ∃ k0, ∀ k, k0 ≤ k → gemotref2_All.f k t = some (allK t)
  | n, t, hn, hr => by
    have hz := ((right_iff t).mp hr)
    have hp := hz.1.pos
    have hk := kids_right hr
    have hkl : (kidsF t).length ≤ 20000 := Nat.le_trans (tkF_len _) (Nat.le_trans (bodyF_size t) hz.2)
    obtain ⟨k0, h0⟩ := all_out (kidsF t) hkl (fun x hx => ⟨allK_len (hk x hx).1, by
      have := hk x hx
      match n, hn with
      | 0, hn => omega
      | n + 1, hn => exact refAll_right n x (by omega) this.1⟩) (kidsF t).length 0 [t] (by omega) (by simp [Srt]) (by simp)
    refine ⟨k0 + 1, fun k hk1 => ?_⟩
    obtain ⟨k, rfl⟩ : ∃ m, k = m + 1 := ⟨k - 1, by omega⟩
    simp only [gemotref2_All.f]
    unfold gemotref2_Kind.f gemotref2_Of.f
    have h3 : kindF t ≠ 0 := by
      unfold kindF
      rw [if_pos hr]
      rcases right_cases hr with hl | ⟨hd, pow, nd⟩
      · have := leaf_bytes hl
        omega
      · have := node_bytes nd
        omega
    have h4 : kidsP t = kidsF t := by unfold kidsP; rw [if_pos hr]
    rw [if_pos (by omega), if_pos (by omega)]
    simp only [Option.bind_some]
    have h5 : ((0 : Nat) : Int) = 0 := rfl
    rw [if_neg h3, h4, ← h5, h0 k (by omega), List.drop_zero]
    refine congrArg some (allK_eq (foldAll_srt _ (by simp [Srt])) fun x => ?_).symm
    rw [foldAll_mem, allF_eq hr, List.mem_singleton, List.mem_cons, List.mem_flatMap]
    simp only [allK_mem]
theorem refAll_eq (t : ByteArray) (hs : t.size < 9223372036854775808) : ∃ k0, ∀ k, k0 ≤ k → gemotref2_All.f k t = parts_All.f t := by
  unfold parts_All.f
  by_cases h : rightB t = true
  · rw [if_pos hs, if_pos h]
    exact refAll_right t.size t (Nat.le_refl _) h
  · refine ⟨1, fun k hk => ?_⟩
    obtain ⟨k, rfl⟩ : ∃ m, k = m + 1 := ⟨k - 1, by omega⟩
    simp only [gemotref2_All.f]
    unfold gemotref2_Kind.f kindF
    rw [if_pos hs, if_pos hs, if_neg h, if_neg h]
    simp
end Go.Proofs.Ytpfpmjdifnoeoaa.Pure
