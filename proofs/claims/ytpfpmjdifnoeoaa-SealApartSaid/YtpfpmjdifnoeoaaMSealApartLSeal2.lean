/- Plain facts about the views of chapter 17's statements. -/
import Derived.Test.YtpfpmjdifnoeoaaMSealApartLSeal
import Derived.Test.YtpfpmjdifnoeoaaMSealApartF64
namespace Go.Proofs.Ytpfpmjdifnoeoaa.Pure
set_option linter.unusedVariables false
set_option linter.unusedSimpArgs false
open Go.RowKit Go.Proofs.Ytpfpmjdifnoeoaa.F Go.Proofs.YtpfpmjdifnoeoaaW.PrintWords Go.Proofs.YtpfpmjdifnoeoaaW.PrintLast Go.Proofs.YtpfpmjdifnoeoaaW.PrintMore
theorem pick17 {c n : Int} (h : (Lit.int .i64 c).wf = true) (h0 : 0 < n) (h1 : n ≤ 100000) : gemotlaw17_pick.f c n = some (pickF c n) := by
  have := rg64 h
  unfold gemotlaw17_pick.f
  rw [if_pos ⟨this.1, this.2, h0, by omega⟩]
  rfl
theorem of17 {c : Int} (h : (Lit.int .i64 c).wf = true) : gemotlaw17_of.f c = some (pickF c 1000, 1, procs8) := by
  unfold gemotlaw17_of.f
  rw [if_pos (rg64 h)]
  rfl
theorem pick17_range (c : Int) {n : Int} (h : 0 < n) : 0 ≤ pickF c n ∧ pickF c n ≤ n - 1 := by
  have := pickF_range c h
  omega
theorem wrap1 {x : Int} (h : 0 ≤ x ∧ x ≤ 100000) : wrap64 (1 + x) = x + 1 := by unfold wrap64; omega
theorem close17 {key t : ByteArray} {E s n : Int} (hk : Part 42 key) (hz : key.size ≤ 600) (h : t.size ≤ 100) (hE : 0 ≤ E ∧ E ≤ 999) (hs : 1 ≤ s ∧ s ≤ 8) (hn : 1 ≤ n ∧ n ≤ 32) : seal_Close.f key E 1 procs8 s n t = some (sealT key E s n t, 0) := by
  unfold seal_Close.f
  rw [if_pos ⟨by decide, by omega⟩, close_ok hk hz h hE hs hn]
end Go.Proofs.Ytpfpmjdifnoeoaa.Pure
