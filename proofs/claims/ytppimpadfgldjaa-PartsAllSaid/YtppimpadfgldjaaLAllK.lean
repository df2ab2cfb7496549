/- Plain facts about all that stands in a term: by bytes, each once. -/
import Derived.Test.YtppimpadfgldjaaB2
import Derived.Test.YtppimpadfgldjaaLIns
import Derived.Test.YtppimpadfgldjaaB3
import Derived.Test.YtppimpadfgldjaaF73
namespace Go.Proofs.Ytppimpadfgldjaa.Pure
set_option linter.unusedVariables false
set_option linter.unusedSimpArgs false
open Go.RowKit Go.Proofs.Ytppimpadfgldjaa.F Go.Proofs.YtppimpadfgldjaaW.PrintWords Go.Proofs.YtppimpadfgldjaaW.PrintLast Go.Proofs.YtppimpadfgldjaaW.PrintMore Go.Maps Go.Sort

theorem any_put (f : Lit × DataW Unit → Bool) (es : List (Lit × DataW Unit)) (k : Lit) (d : DataW Unit) (h : es.any f = false) (hk : f (k, d) = false) : ∃ es', (DataW.map es).put k d = .map es' ∧ es'.any f = false := by
  refine ⟨_, rfl, ?_⟩
  rw [any_insert, hk, Bool.false_or]
  rw [List.any_eq_false] at h ⊢
  exact fun x hx => h x (List.mem_filter.mp hx).1
def notStr : Lit → Bool
  | .string _ => false
  | _ => true
theorem all_str : ∀ (l : List ByteArray) (es : List (Lit × DataW Unit)), es.any (fun p => notStr p.1) = false → ∃ es', addAll (.map es) l = .map es' ∧ es'.any (fun p => notStr p.1) = false
  | [], es, h => ⟨es, rfl, h⟩
  | x :: l, es, h => by
    obtain ⟨es1, h1, h2⟩ := any_put (fun p => notStr p.1) es (.string x.data.toList) (.lit (.int .i64 1)) h rfl
    obtain ⟨es2, h3, h4⟩ := all_str l es1 h2
    refine ⟨es2, ?_, h4⟩
    rw [← h3]
    unfold addAll
    rw [List.foldl_cons, h1]
theorem keys_all (l : List ByteArray) : (strKeys (addAll (.map []) l)).Nodup ∧ ∀ b, b ∈ strKeys (addAll (.map []) l) ↔ ∃ x ∈ l, bl x = b := by
  obtain ⟨es, he, hs⟩ := all_str l [] rfl
  have ht := tidy_setOf (H := Unit) (.lit (.int .i64 1)) (l.map (fun x => Lit.string x.data.toList)) (keys_key l)
  rw [← addAll_setOf, he] at ht
  obtain ⟨es', he', hp⟩ := ht
  obtain rfl : es = es' := by injection he'
  have hk : ∀ p ∈ es, ∃ x, p.1 = .string x := fun p hp' => by
    have := List.any_eq_false.mp hs p hp'
    cases hq : p.1 with
    | string x => exact ⟨x, rfl⟩
    | _ => rw [hq] at this; exact absurd rfl this
  have hm : ∀ b, has (.map es) (.string b) = true ↔ ∃ x ∈ l, bl x = b := fun b => by
    rw [← he, addAll_setOf, has_setOf _ _ _ (keys_key l), List.any_eq_true]
    constructor
    · rintro ⟨z, hz, h⟩
      obtain ⟨y, hy, rfl⟩ := List.mem_map.mp hz
      exact ⟨y, hy, by simpa [Lit.sameKey, bl] using h⟩
    · rintro ⟨y, hy, rfl⟩
      exact ⟨_, List.mem_map.mpr ⟨y, hy, rfl⟩, by simp [Lit.sameKey, bl]⟩
  rw [he]
  refine ⟨?_, ?_⟩
  · refine List.pairwise_map.mpr (List.Pairwise.imp_of_mem ?_ hp)
    intro p q h1 h2 hne e
    apply hne
    obtain ⟨a, ha⟩ := hk p h1
    obtain ⟨c, hc⟩ := hk q h2
    rw [ha, hc] at e ⊢
    exact congrArg _ e
  · intro b
    rw [← hm b]
    show b ∈ es.map (fun p => strOf p.1) ↔ es.any (fun p => p.1.sameKey (.string b)) = true
    rw [List.mem_map, List.any_eq_true]
    constructor
    · rintro ⟨p, h1, rfl⟩
      obtain ⟨a, ha⟩ := hk p h1
      exact ⟨p, h1, by rw [ha]; simp [Lit.sameKey, strOf]⟩
    · rintro ⟨p, h1, h2⟩
      obtain ⟨a, ha⟩ := hk p h1
      exact ⟨p, h1, by rw [ha] at h2 ⊢; simpa [Lit.sameKey, strOf] using h2⟩
theorem addAll_len : ∀ (l : List ByteArray) (es : List (Lit × DataW Unit)), ∃ es', addAll (.map es) l = .map es' ∧ es'.length ≤ es.length + l.length
  | [], es => ⟨es, rfl, by simp⟩
  | x :: l, es => by
    obtain ⟨es1, h1⟩ : ∃ es1, (DataW.map es).put (.string x.data.toList) (.lit (.int .i64 1)) = .map es1 := ⟨_, rfl⟩
    have h2 : es1.length ≤ es.length + 1 := by
      injection h1 with h1
      rw [← h1, length_insert]
      have := List.length_filter_le (fun p : Lit × DataW Unit => !p.1.sameKey (.string x.data.toList)) es
      omega
    obtain ⟨es2, h3, h4⟩ := addAll_len l es1
    refine ⟨es2, ?_, by rw [List.length_cons]; omega⟩
    rw [← h3]
    unfold addAll
    rw [List.foldl_cons, h1]
theorem bl_txt (b : List UInt8) : bl (txt b) = b := rfl
theorem txt_bl (x : ByteArray) : txt (bl x) = x := rfl
theorem allK_mem (t x : ByteArray) : x ∈ allK t ↔ x ∈ allF t := by
  unfold allK keysD
  rw [List.mem_map]
  constructor
  · rintro ⟨b, hb, rfl⟩
    obtain ⟨y, hy, rfl⟩ := ((keys_all (allF t)).2 b).mp ((List.mergeSort_perm _ _).mem_iff.mp hb)
    exact hy
  · intro hx
    exact ⟨bl x, (List.mergeSort_perm _ _).mem_iff.mpr (((keys_all (allF t)).2 _).mpr ⟨x, hx, rfl⟩), rfl⟩
theorem allK_srt (t : ByteArray) : Srt (allK t) := by
  unfold allK keysD Srt
  rw [List.pairwise_map]
  have h1 := List.pairwise_mergeSort (le := fun x y : List UInt8 => decide (x ≤ y)) (fun a b c h1 h2 => by simp only [decide_eq_true_eq] at *; exact List.le_trans h1 h2) (fun a b => by simp only [Bool.or_eq_true, decide_eq_true_eq]; exact List.le_total a b) (strKeys (addAll (.map []) (allF t)))
  have h2 : (List.mergeSort (strKeys (addAll (.map []) (allF t))) (fun x y => decide (x ≤ y))).Nodup := (List.mergeSort_perm _ _).nodup_iff.mpr (keys_all (allF t)).1
  refine (h1.and h2).imp fun {a b} h => ?_
  rw [bl_txt, bl_txt]
  rcases List.le_iff_lt_or_eq.mp (of_decide_eq_true h.1) with e | e
  · exact e
  · exact absurd e h.2
theorem allK_eq {t : ByteArray} {l : List ByteArray} (hl : Srt l) (h : ∀ x, x ∈ l ↔ x ∈ allF t) : allK t = l := srt_same (allK_srt t) hl fun x => by rw [allK_mem, h]
/-- Rows that are put into a row, one by one. -/
theorem foldIns_mem : ∀ (m l : List ByteArray) (x : ByteArray), x ∈ m.foldl insF l ↔ x ∈ l ∨ x ∈ m
  | [], l, x => by simp
  | y :: m, l, x => by
    rw [List.foldl_cons, foldIns_mem m, insF_mem, List.mem_cons]
    constructor
    · rintro ((h | h) | h)
      · exact .inr (.inl h)
      · exact .inl h
      · exact .inr (.inr h)
    · rintro (h | h | h)
      · exact .inl (.inr h)
      · exact .inl (.inl h)
      · exact .inr h
theorem foldIns_srt : ∀ (m : List ByteArray) {l : List ByteArray}, Srt l → Srt (m.foldl insF l)
  | [], _, h => h
  | y :: m, _, h => foldIns_srt m (insF_srt y h)
theorem foldIns_len : ∀ (m l : List ByteArray), (m.foldl insF l).length ≤ l.length + m.length
  | [], l => by simp
  | y :: m, l => by rw [List.foldl_cons]; have h1 := foldIns_len m (insF l y); have h2 := insF_len l y; rw [List.length_cons]; omega
theorem rd_nat {l : List ByteArray} {i : Nat} (h : i < l.length) : rdOf ByteArray.empty l (i : Int) = l[i] := by simp [rdOf, List.getD_eq_getElem?_getD, h]
theorem allK_len {t : ByteArray} (h : rightB t = true) : (allK t).length ≤ 20000 := by
  have h1 := allF_len h
  have h2 := ((right_iff t).mp h).2
  have h3 : (allK t).length ≤ (allF t).length := by
    obtain ⟨es, he, hl⟩ := addAll_len (allF t) []
    unfold allK keysD
    rw [List.length_map, List.length_mergeSort, he]
    show (es.map _).length ≤ _
    rw [List.length_map]
    simpa using hl
  omega
end Go.Proofs.Ytppimpadfgldjaa.Pure
