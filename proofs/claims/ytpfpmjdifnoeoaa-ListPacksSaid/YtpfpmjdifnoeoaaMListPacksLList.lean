/- Plain facts about the lists of terms and of numbers. -/
import Derived.Test.YtpfpmjdifnoeoaaMListPacksB1
import Derived.Test.YtpfpmjdifnoeoaaMListPacksF46
namespace Go.Proofs.Ytpfpmjdifnoeoaa.Pure
open Go.RowKit Go.Proofs.Ytpfpmjdifnoeoaa.F Go.Proofs.YtpfpmjdifnoeoaaW.PrintWords Go.Proofs.YtpfpmjdifnoeoaaW.PrintLast Go.Proofs.YtpfpmjdifnoeoaaW.PrintMore
theorem putOut_tm (m : Int) (hm : 1 ≤ m) : ∀ (l : List ByteArray), (∀ t ∈ l, Tm t ∧ depF t ≤ m) → (l.length : Int) + m ≤ 400 → Tm (putOut l) ∧ depF (putOut l) ≤ m + l.length
  | [], _, _ => ⟨(tm_num 0).1, by rw [show putOut [] = numF 0 from rfl, (tm_num 0).2]; simp; omega⟩
  | t :: l, h, hl => by
    rw [List.length_cons] at hl ⊢
    have h1 := putOut_tm m hm l (fun x hx => h x (List.mem_cons_of_mem _ hx)) (by omega)
    have h2 := h t List.mem_cons_self
    have h3 := tm_pair h2.1 h1.1 (by omega) (by omega)
    refine ⟨h3.1, ?_⟩
    have h4 := h3.2
    have h5 : mx (depF t) (depF (putOut l)) ≤ m + l.length := by unfold mx; split <;> omega
    show depF ((⟨#[112]⟩ : ByteArray) ++ t ++ putOut l) ≤ _
    omega
end Go.Proofs.Ytpfpmjdifnoeoaa.Pure
