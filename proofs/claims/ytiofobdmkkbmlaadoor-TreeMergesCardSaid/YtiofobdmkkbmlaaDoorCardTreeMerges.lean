/- The tied card of gemot/gemotlaw13.TreeMerges, out of its row and the row's tie; no condition. -/
import Derived.Test.YtiofobdmkkbmlaaDoorRowTreeMerges
import Derived.Test.YtiofobdmkkbmlaaDoorTie
import Derived.Test.YtiofobdmkkbmlaaDoorCards
import Derived.SevenTiedAt
namespace Go.Proofs.YtiofobdmkkbmlaaDoor
open Go
/-- The given statement, proved. -/
theorem treeMergesCard_holds : Rows.TreeMergesCardSaid :=
  Claim7.holds_tied_plain_at .later [] [.data, .data, .data] true (true, "30a325d382a853a9ad6863f59eec42559e2d47b3e66c759bb1d81507c05bb157") false
    treeMerges_holds (fun _ h => by cases h) (by kernel_rfl) (fun _ h => by cases h) treeMerges_row_tie rfl ⟨rfl, rfl⟩ (by kernel_rfl) rfl
    (fun f fn hf hfn => by
      obtain rfl : f = 4 := Option.some.inj ((show Tryd.prog.funcNamed "gemot/gemotlaw13.TreeMerges" = some 4 by kernel_rfl).symm.trans hf) |>.symm
      obtain rfl : fn = Tryd.f4 := (Option.some.inj (Tryd.func4.symm.trans hfn)).symm
      exact ⟨by kernel_rfl, fun j t ht => by
        rw [Tryd.params4] at ht
        have hm : t ∈ [9, 9, 34] := by simpa using Array.mem_of_getElem? ht
        simp only [List.mem_cons, List.not_mem_nil, or_false] at hm
        rcases hm with rfl | rfl | rfl
        · exact (show Tryd.prog.wantsStandIn 9 = false by kernel_rfl)
        · exact (show Tryd.prog.wantsStandIn 9 = false by kernel_rfl)
        · exact (show Tryd.prog.wantsStandIn 34 = false by kernel_rfl)⟩)
    (by kernel_rfl)
#print axioms treeMergesCard_holds
end Go.Proofs.YtiofobdmkkbmlaaDoor
