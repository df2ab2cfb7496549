/- The tied card of gemot/gemotlaw13.TreeReadBack, out of its row and the row's tie; no condition. -/
import Derived.Test.YtiofobdmkkbmlaaDoorRowTreeReadBack
import Derived.Test.YtiofobdmkkbmlaaDoorTie
import Derived.Test.YtiofobdmkkbmlaaDoorCards
import Derived.SevenTiedAt
namespace Go.Proofs.YtiofobdmkkbmlaaDoor
open Go
/-- The given statement, proved. -/
theorem treeReadBackCard_holds : Rows.TreeReadBackCardSaid :=
  Claim7.holds_tied_plain_at .later [] [.data, .data, .data] true (true, "30a325d382a853a9ad6863f59eec42559e2d47b3e66c759bb1d81507c05bb157") false
    treeReadBack_holds (fun _ h => by cases h) (by kernel_rfl) (fun _ h => by cases h) treeReadBack_row_tie rfl ⟨rfl, rfl⟩ (by kernel_rfl) rfl
    (fun f fn hf hfn => by
      obtain rfl : f = 5 := Option.some.inj ((show Tryd.prog.funcNamed "gemot/gemotlaw13.TreeReadBack" = some 5 by kernel_rfl).symm.trans hf) |>.symm
      obtain rfl : fn = Tryd.f5 := (Option.some.inj (Tryd.func5.symm.trans hfn)).symm
      exact ⟨by kernel_rfl, fun j t ht => by
        rw [Tryd.params5] at ht
        have hm : t ∈ [34, 3] := by simpa using Array.mem_of_getElem? ht
        simp only [List.mem_cons, List.not_mem_nil, or_false] at hm
        rcases hm with rfl | rfl
        · exact (show Tryd.prog.wantsStandIn 34 = false by kernel_rfl)
        · exact (show Tryd.prog.wantsStandIn 3 = false by kernel_rfl)⟩)
    (by kernel_rfl)
#print axioms treeReadBackCard_holds
end Go.Proofs.YtiofobdmkkbmlaaDoor
