/- The tied card of gemot/gemotlaw13.TreeLeaves, out of its row and the row's tie; no condition. -/
import Derived.Test.YtpfpmjdifnoeoaaDoorRowTreeLeaves
import Derived.Test.YtpfpmjdifnoeoaaDoorTie
import Derived.Test.YtpfpmjdifnoeoaaDoorCards
import Derived.SevenTiedAt
namespace Go.Proofs.YtpfpmjdifnoeoaaDoor
open Go
/-- The given statement, proved. -/
theorem treeLeavesCard_holds : Rows.TreeLeavesCardSaid :=
  Claim7.holds_tied_plain_at .later [] [.data, .data, .data] true (true, "e97f9201ae0191092ec48f9d6c0e938de141b4d08511ed9e861ece831fc7544a") false
    treeLeaves_holds (fun _ h => by cases h) (by kernel_rfl) (fun _ h => by cases h) treeLeaves_row_tie rfl ⟨rfl, rfl⟩ (by kernel_rfl) rfl
    (fun f fn hf hfn => by
      obtain rfl : f = 8 := Option.some.inj ((show Tryd.prog.funcNamed "gemot/gemotlaw13.TreeLeaves" = some 8 by kernel_rfl).symm.trans hf) |>.symm
      obtain rfl : fn = Tryd.f8 := (Option.some.inj (Tryd.func8.symm.trans hfn)).symm
      exact ⟨by kernel_rfl, fun j t ht => by
        rw [Tryd.params8] at ht
        have hm : t ∈ [34, 34] := by simpa using Array.mem_of_getElem? ht
        simp only [List.mem_cons, List.not_mem_nil, or_false] at hm
        rcases hm with rfl | rfl
        · exact (show Tryd.prog.wantsStandIn 34 = false by kernel_rfl)
        · exact (show Tryd.prog.wantsStandIn 34 = false by kernel_rfl)⟩)
    (by kernel_rfl)
#print axioms treeLeavesCard_holds
end Go.Proofs.YtpfpmjdifnoeoaaDoor
