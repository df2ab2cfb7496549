/- The steps and picks of chapter 2's statements, over plain terms. -/
import Derived.Test.YtppimpadfgldjaaB2
import Derived.Test.YtppimpadfgldjaaF71
import Derived.Test.YtppimpadfgldjaaF72
namespace Go.Proofs.Ytppimpadfgldjaa.Pure
set_option linter.unusedVariables false
set_option linter.unusedSimpArgs false
open Go.RowKit Go.Proofs.Ytppimpadfgldjaa.F Go.Proofs.YtppimpadfgldjaaW.PrintWords Go.Proofs.YtppimpadfgldjaaW.PrintLast Go.Proofs.YtppimpadfgldjaaW.PrintMore

theorem made2 (l : List S186) (h : ∀ y ∈ l, (Lit.int .i64 y.f0).wf = true ∧ (Lit.int .i64 y.f1).wf = true ∧ (Lit.int .i64 y.f2).wf = true ∧ (Lit.int .i64 y.f3).wf = true) : ∃ out, gemotlaw2_made.f l = some out ∧ MadeOk out ∧ out.length ≤ 42 := by
  refine ⟨gemotlaw2_made.tmade l, ?_, madeT_ok _⟩
  unfold gemotlaw2_made.f
  exact if_pos fun x hx => ⟨rg64 (h x hx).1, rg64 (h x hx).2.1, rg64 (h x hx).2.2.1, rg64 (h x hx).2.2.2⟩
theorem pick2 {c n : Int} (h : (Lit.int .i64 c).wf = true) (h0 : 0 < n) (h1 : n ≤ 100000) : gemotlaw2_pick.f c n = some (pickF c n) := by
  have := rg64 h
  unfold gemotlaw2_pick.f
  rw [if_pos ⟨this.1, this.2, h0, by omega⟩]
  rfl
end Go.Proofs.Ytppimpadfgldjaa.Pure
