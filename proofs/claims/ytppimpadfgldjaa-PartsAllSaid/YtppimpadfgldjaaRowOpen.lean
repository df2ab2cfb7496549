/- What an argument's reading as data says of its cells, kind by kind; no condition. -/
import Derived.Test.YtppimpadfgldjaaF0
import Derived.ChangeArms
import Derived.Deep.Slices
import Derived.WideShapes
import Derived.ChangeShapes
namespace Go.Proofs.Ytppimpadfgldjaa.F
open Go.RowKit Go.ChangeShapes Go.WideShapes Go.Deep Go.Proofs.YtppimpadfgldjaaW.PrintWords Go.Proofs.YtppimpadfgldjaaW.PrintLast Go.Proofs.YtppimpadfgldjaaW.PrintMore
set_option linter.unusedVariables false
set_option linter.unusedSimpArgs false

/-- Whatever reads as data of this type is of this kind. -/
def Opens {α : Type} (P : Program) (t : TypeId) (k : Kd α) (wf : α → Prop) : Prop :=
  ∀ {H : Type} (enc : TypeId × Value → H) (w : World) (spare : Nat → Bool) (held : Bool) (fuel : Nat) (cs : List Value) (x : DataW H × List MemPlace),
    DataW.trod enc P w 0 spare held fuel t cs = some x → ∃ a, k.K w a cs ∧ wf a

theorem opens_int {P : Program} {t : TypeId} {k : IntKind} (ht : P.underlying t = some (.int k)) : Opens P t (Kd.int k) (fun n => (Lit.int k n).wf = true) := by
  intro H enc w spare held fuel cs x h
  obtain ⟨n, rfl, _, hw⟩ := DataW.trod_int ht h
  exact ⟨n, rfl, hw⟩
theorem opens_bool {P : Program} {t : TypeId} (ht : P.underlying t = some .bool) : Opens P t Kd.bool (fun _ => True) := by
  intro H enc w spare held fuel cs x h
  obtain ⟨n, rfl, _⟩ := DataW.trod_bool ht h
  exact ⟨n, rfl, trivial⟩
theorem opens_string {P : Program} {t : TypeId} (ht : P.underlying t = some .string) : Opens P t Kd.string (fun s => s.size ≤ 9223372036854775807) := by
  intro H enc w spare held fuel cs x h
  obtain ⟨s, rfl, _, hs⟩ := DataW.trod_string ht h
  exact ⟨s, rfl, hs⟩
theorem opens_slice {α : Type} {P : Program} {t e : TypeId} {k : Kd α} {wf : α → Prop} (ht : P.underlying t = some (.slice e)) (hk : P.cellsOf e = k.sz) (h : Opens P e k wf) :
    Opens P t (Kd.slice e k) (fun xs => xs.length ≤ 9223372036854775807 ∧ ∀ x ∈ xs, wf x) := by
  intro H enc w spare held fuel cs x hx
  rcases open_slice ht hx with ⟨rfl, _⟩ | ⟨a, len, cap, m, n, D, Pl, rfl, _, hl, hm, hmm, _, hel⟩
  · exact ⟨[], ⟨none, 0, rfl, Nat.le_refl _, ⟨rfl, by simp, fun h => by simp at h⟩⟩, by simp, by simp⟩
  · have hlm : len ≤ m := by rw [hmm]; split <;> omega
    have hall : ∀ i : Fin len, ∃ y : α, (∃ c, c.length = k.sz ∧ k.K w y c ∧ ∀ j u, c[j]? = some u → w.cell? (a.add (i.val * k.sz + j)) = some u) ∧ wf y := by
      intro i
      obtain ⟨cs', hc, ht'⟩ := hel i.val (by omega)
      obtain ⟨_, hcl, hat⟩ := World.cells?_some hc
      obtain ⟨y, hy, hw⟩ := h enc w spare held n cs' _ ht'
      refine ⟨y, ⟨cs', by rw [hcl, hk], hy, fun j u hu => ?_⟩, hw⟩
      have hj : j < cs'.length := (List.getElem?_eq_some_iff.1 hu).1
      rw [hcl] at hj
      have := hat j hj
      rw [hk, hu, Go.Deep.add_add] at this
      exact this
    let ys : List α := List.ofFn fun i => (hall i).choose
    have hyl : ys.length = len := by simp [ys]
    refine ⟨ys, ⟨some a, cap, by rw [hyl], by omega, ⟨rfl, by rw [hyl]; have := hm; unfold maxLen at this; omega, fun _ => ⟨a, rfl, fun j p hp => ?_⟩⟩⟩, ?_, ?_⟩
    · have hj : j < len := by have := (List.getElem?_eq_some_iff.1 hp).1; omega
      have he : p = (hall ⟨j, hj⟩).choose := by
        simp [ys, List.getElem?_ofFn, hj] at hp
        exact hp.symm
      subst he
      exact (hall ⟨j, hj⟩).choose_spec.1
    · rw [hyl]; have := hm; unfold maxLen at this; omega
    · intro y hy
      simp only [ys, List.mem_ofFn] at hy
      obtain ⟨i, rfl⟩ := hy
      exact (hall i).choose_spec.2
/-- A struct's field. -/
theorem opens_field {α H : Type} {P : Program} {fs : Array Field} {k : Kd α} {wf : α → Prop} {enc : TypeId × Value → H} {w : World} {spare : Nat → Bool} {held : Bool} {n : Nat} {cs : List Value} {xs : List (DataW H × List MemPlace)} (hlen : xs.length = fs.size)
    (hg : ∀ (i : Nat) (f : Field), fs[i]? = some f → DataW.trod enc P w 0 spare held n f.type ((cs.drop f.offset).take (P.cellsOf f.type)) = xs[i]?) (i : Nat) (f : Field) (hf : fs[i]? = some f) (h : Opens P f.type k wf) (o s : Nat) (ho : f.offset = o) (hs : P.cellsOf f.type = s) :
    ∃ a, k.K w a ((cs.drop o).take s) ∧ wf a := by
  subst ho hs
  have hi : i < xs.length := by rw [hlen]; exact (Array.getElem?_eq_some_iff.1 hf).1
  have := hg i f hf
  rw [List.getElem?_eq_getElem hi] at this
  exact h enc w spare held n _ _ this
theorem cut2 {α : Type} (cs : List α) (o s n : Nat) (h : cs.length = o + s + n) : cs.drop o = (cs.drop o).take s ++ cs.drop (o + s) := by
  conv => lhs; rw [← List.take_append_drop s (cs.drop o)]
  rw [List.drop_drop]
theorem cut1 {α : Type} (cs : List α) (o s : Nat) (h : cs.length = o + s) : cs.drop o = (cs.drop o).take s := by
  rw [List.take_of_length_le]
  rw [List.length_drop]; omega
end Go.Proofs.Ytppimpadfgldjaa.F
