/- Plain nets: what lies in one, and what was heard, by bytes, each once; a map's keys as such a row. -/
import Derived.Test.YtppimpadfgldjaaLIns
import Derived.Maps.Views
import Derived.Maps.OwnSet
import Derived.Sort.KeysCollected
namespace Go.Proofs.Ytppimpadfgldjaa.Pure
set_option linter.unusedVariables false
set_option linter.unusedSimpArgs false
open Go.RowKit Go.Proofs.Ytppimpadfgldjaa.F Go.Proofs.YtppimpadfgldjaaW.PrintWords Go.Proofs.YtppimpadfgldjaaW.PrintLast Go.Proofs.YtppimpadfgldjaaW.PrintMore Go.Maps Go.Sort

/-- The keys of a map are these texts. -/
def KeysIn (D : DataW Unit) (hs : List ByteArray) : Prop := Srt hs ∧ ∃ es, D = .map es ∧ es.Pairwise (fun p q => p.1 ≠ q.1) ∧ (∀ p ∈ es, ∃ x, p.1 = .string x) ∧ ∀ b, has (.map es) (.string b) = true ↔ ∃ x ∈ hs, bl x = b
theorem keysIn_empty : KeysIn (.map []) [] := ⟨List.Pairwise.nil, [], rfl, List.Pairwise.nil, fun p hp => absurd hp List.not_mem_nil, fun b => by
  rw [has_eq]
  constructor
  · intro h; exact absurd h (by simp)
  · rintro ⟨x, hx, _⟩; exact absurd hx List.not_mem_nil⟩
theorem keysIn_put {D : DataW Unit} {hs : List ByteArray} (h : KeysIn D hs) (s : ByteArray) (d : DataW Unit) : KeysIn (D.put (.string s.data.toList) d) (insF hs s) := by
  obtain ⟨hS, es, rfl, hp, hk, hm⟩ := h
  have hkey : WideAt.IsKeyLit (.string s.data.toList) := trivial
  obtain ⟨es', e', hp'⟩ := Tidy.put (D := .map es) ⟨es, rfl, hp⟩ hkey d
  refine ⟨insF_srt s hS, es', e', hp', ?_, fun b => ?_⟩
  · have h1 : es.any (fun p => match p.1 with | .string _ => false | _ => true) = false := by
      rw [List.any_eq_false]
      intro p hq
      obtain ⟨x, hx⟩ := hk p hq
      rw [hx]; simp
    have h2 : es'.any (fun p => match p.1 with | .string _ => false | _ => true) = false := by
      have e2 : (DataW.map es).put (.string s.data.toList) d = .map (DataW.insert (.string s.data.toList, d) (es.filter fun p => !p.1.sameKey (.string s.data.toList))) := rfl
      rw [e2] at e'
      injection e' with e'
      rw [← e', any_insert]
      simp only [Bool.false_or]
      rw [List.any_eq_false] at h1 ⊢
      exact fun x hx => h1 x (List.mem_filter.mp hx).1
    rw [List.any_eq_false] at h2
    intro p hq
    have := h2 p hq
    cases hx : p.1 with
    | string x => exact ⟨x, rfl⟩
    | _ => rw [hx] at this; exact absurd rfl this
  · rw [← e']
    by_cases c : b = s.data.toList
    · subst c
      rw [has_put_same ⟨es, rfl⟩ hkey]
      exact ⟨fun _ => ⟨s, (insF_mem hs s s).mpr (.inl rfl), rfl⟩, fun _ => rfl⟩
    · rw [has_put_other (fun e => c (by injection e)) d, hm b]
      constructor
      · rintro ⟨x, hx, e⟩; exact ⟨x, (insF_mem hs s x).mpr (.inr hx), e⟩
      · rintro ⟨x, hx, e⟩
        rcases (insF_mem hs s x).mp hx with q | q
        · subst q; exact absurd e.symm c
        · exact ⟨x, q, e⟩
theorem keysIn_sorted {D : DataW Unit} {hs : List ByteArray} (h : KeysIn D hs) : (strKeys D).mergeSort (fun x y => decide (x ≤ y)) = hs.map bl := by
  obtain ⟨hS, es, rfl, hp, hk, hm⟩ := h
  have h1 := List.pairwise_mergeSort (le := fun x y : List UInt8 => decide (x ≤ y)) (fun a b c h1 h2 => by simp only [decide_eq_true_eq] at *; exact List.le_trans h1 h2) (fun a b => by simp only [Bool.or_eq_true, decide_eq_true_eq]; exact List.le_total a b) (strKeys (.map es))
  have hn : (strKeys (.map es)).Nodup := by
    refine List.pairwise_map.mpr (List.Pairwise.imp_of_mem ?_ hp)
    intro p q h1 h2 hne e
    apply hne
    obtain ⟨a, ha⟩ := hk p h1
    obtain ⟨c, hc⟩ := hk q h2
    rw [ha, hc] at e ⊢
    exact congrArg _ e
  have hl : (hs.map bl).Pairwise (· < ·) := List.pairwise_map.mpr hS
  have hperm : (strKeys (.map es)).Perm (hs.map bl) := by
    refine (List.perm_ext_iff_of_nodup hn (hl.imp (fun {a b} h => fun e => List.lt_irrefl _ (e ▸ h)))).mpr fun b => ?_
    rw [List.mem_map]
    refine Iff.trans ?_ (hm b)
    show b ∈ es.map (fun p => strOf p.1) ↔ es.any (fun p => p.1.sameKey (.string b)) = true
    rw [List.mem_map, List.any_eq_true]
    constructor
    · rintro ⟨p, h1, rfl⟩
      obtain ⟨a, ha⟩ := hk p h1
      exact ⟨p, h1, by rw [ha]; simp [Lit.sameKey, strOf]⟩
    · rintro ⟨p, h1, h2⟩
      obtain ⟨a, ha⟩ := hk p h1
      exact ⟨p, h1, by rw [ha] at h2 ⊢; simpa [Lit.sameKey, strOf] using h2⟩
  refine ((List.mergeSort_perm _ _).trans hperm).eq_of_pairwise (fun a b _ _ h1 h2 => List.le_antisymm h1 h2) (h1.imp fun {a b} h => of_decide_eq_true h) (hl.imp fun {a b} h => ?_)
  exact List.le_of_lt h
end Go.Proofs.Ytppimpadfgldjaa.Pure
