/-
  No cell of these rows narrows 'for every input' (looked for: loops, veiled, ifaces, maps, wideKeys, modest, calm, conditions, laid).
  DERIVED. THE GIVEN ROWS OF THIS SEAT. 33 by the template 'for every input the law returns true; each argument reads behind the call as it read before'; 0 by the template 'total and deterministic' (their statements: YtpfpmjdifnoeoaaTotals.lean).
  GIVEN WITH THE SEED: the statements are not yours to turn. If you find one false, say at which input.
  Laid BY PROGRAM, IN A SANDBOX (cutbox-rows.mjs): the forced cells as the released guide's own fill.sh prints them over the translation 6b363b18ceb8ecb4… (all of the seat's roots in one cut). By AI agents, Wed Nov 11 2026. No macro, syntax, notation, axiom, sorry.
-/
import Derived.Test.YtpfpmjdifnoeoaaChecked
import GoSem.Claim
import GoSem.ClaimJoined
import GoSem.ClaimMapViews
import Derived.JoinedTies
import Derived.KernelRfl
namespace Go.Proofs.Ytpfpmjdifnoeoaa
/- THE CELL 'sum', in the pinned program and in every row, IS THE sha256 OF THE DUMP (.gsa) THAT YtpfpmjdifnoeoaaProg.lean LOADS. Nothing in Lean hashes anything: it is a label: what it is worth is what the hold of that sum in a sandbox is worth. -/
noncomputable def Try.pinned : Pinned := { name := "ytpfpmjdifnoeoaa", sum := "6b363b18ceb8ecb41df229cc26744172c5adebd7db0991368a4d47f4c7037811", checked := Try.checked }
namespace Rows
def none {H : Type} : Left H := { results := [], args := [] }

/-- 'gemotlaw2.PartsOpened': WHATEVER THE INPUT: true; the input reads as it did. -/
def partsOpenedSpec : ChangeSpec := { name := "partsOpened", fn := fun _ => fun
  | [d1, d2, d3] => { results := [.lit (.bool true)], args := [d1, d2, d3] }
  | _ => none }
def partsOpenedRow : OpenClaim := { program := "ytpfpmjdifnoeoaa", sum := "6b363b18ceb8ecb41df229cc26744172c5adebd7db0991368a4d47f4c7037811", func := "gemot/gemotlaw2.PartsOpened", spec := "partsOpened", unfollowed := true, recurses := true, apart := false }
def PartsOpenedSaid : Prop := partsOpenedRow.holds Try.pinned (OpenSpec.ofChange partsOpenedSpec)

/-- ITS FALSE NEIGHBOUR: 'it returns false'. Refute it at one input. -/
def partsOpenedWrong : ChangeSpec := { name := "partsOpened", fn := fun _ => fun
  | [d1, d2, d3] => { results := [.lit (.bool false)], args := [d1, d2, d3] }
  | _ => none }
def PartsOpenedWrongFalsely : Prop := partsOpenedRow.holds Try.pinned (OpenSpec.ofChange partsOpenedWrong)

/-- 'gemotlaw4.ListApart': WHATEVER THE INPUT: true; the input reads as it did. -/
def listApartSpec : ChangeSpec := { name := "listApart", fn := fun _ => fun
  | [d1, d2] => { results := [.lit (.bool true)], args := [d1, d2] }
  | _ => none }
def listApartRow : OpenClaim := { program := "ytpfpmjdifnoeoaa", sum := "6b363b18ceb8ecb41df229cc26744172c5adebd7db0991368a4d47f4c7037811", func := "gemot/gemotlaw4.ListApart", spec := "listApart", unfollowed := true, recurses := true, apart := false }
def ListApartSaid : Prop := listApartRow.holds Try.pinned (OpenSpec.ofChange listApartSpec)

/-- ITS FALSE NEIGHBOUR: 'it returns false'. Refute it at one input. -/
def listApartWrong : ChangeSpec := { name := "listApart", fn := fun _ => fun
  | [d1, d2] => { results := [.lit (.bool false)], args := [d1, d2] }
  | _ => none }
def ListApartWrongFalsely : Prop := listApartRow.holds Try.pinned (OpenSpec.ofChange listApartWrong)

/-- 'gemotlaw4.ListRows': WHATEVER THE INPUT: true; the input reads as it did. -/
def listRowsSpec : ChangeSpec := { name := "listRows", fn := fun _ => fun
  | [d1, d2] => { results := [.lit (.bool true)], args := [d1, d2] }
  | _ => none }
def listRowsRow : OpenClaim := { program := "ytpfpmjdifnoeoaa", sum := "6b363b18ceb8ecb41df229cc26744172c5adebd7db0991368a4d47f4c7037811", func := "gemot/gemotlaw4.ListRows", spec := "listRows", unfollowed := true, recurses := true, apart := false }
def ListRowsSaid : Prop := listRowsRow.holds Try.pinned (OpenSpec.ofChange listRowsSpec)

/-- ITS FALSE NEIGHBOUR: 'it returns false'. Refute it at one input. -/
def listRowsWrong : ChangeSpec := { name := "listRows", fn := fun _ => fun
  | [d1, d2] => { results := [.lit (.bool false)], args := [d1, d2] }
  | _ => none }
def ListRowsWrongFalsely : Prop := listRowsRow.holds Try.pinned (OpenSpec.ofChange listRowsWrong)

/-- 'gemotlaw4.ListPacks': WHATEVER THE INPUT: true; the input reads as it did. -/
def listPacksSpec : ChangeSpec := { name := "listPacks", fn := fun _ => fun
  | [d1, d2] => { results := [.lit (.bool true)], args := [d1, d2] }
  | _ => none }
def listPacksRow : OpenClaim := { program := "ytpfpmjdifnoeoaa", sum := "6b363b18ceb8ecb41df229cc26744172c5adebd7db0991368a4d47f4c7037811", func := "gemot/gemotlaw4.ListPacks", spec := "listPacks", unfollowed := true, recurses := true, apart := false }
def ListPacksSaid : Prop := listPacksRow.holds Try.pinned (OpenSpec.ofChange listPacksSpec)

/-- ITS FALSE NEIGHBOUR: 'it returns false'. Refute it at one input. -/
def listPacksWrong : ChangeSpec := { name := "listPacks", fn := fun _ => fun
  | [d1, d2] => { results := [.lit (.bool false)], args := [d1, d2] }
  | _ => none }
def ListPacksWrongFalsely : Prop := listPacksRow.holds Try.pinned (OpenSpec.ofChange listPacksWrong)

/-- 'gemotlaw4.ListNumbers': WHATEVER THE INPUT: true; the input reads as it did. -/
def listNumbersSpec : ChangeSpec := { name := "listNumbers", fn := fun _ => fun
  | [d1, d2, d3, d4] => { results := [.lit (.bool true)], args := [d1, d2, d3, d4] }
  | _ => none }
def listNumbersRow : OpenClaim := { program := "ytpfpmjdifnoeoaa", sum := "6b363b18ceb8ecb41df229cc26744172c5adebd7db0991368a4d47f4c7037811", func := "gemot/gemotlaw4.ListNumbers", spec := "listNumbers", unfollowed := true, recurses := true, apart := false }
def ListNumbersSaid : Prop := listNumbersRow.holds Try.pinned (OpenSpec.ofChange listNumbersSpec)

/-- ITS FALSE NEIGHBOUR: 'it returns false'. Refute it at one input. -/
def listNumbersWrong : ChangeSpec := { name := "listNumbers", fn := fun _ => fun
  | [d1, d2, d3, d4] => { results := [.lit (.bool false)], args := [d1, d2, d3, d4] }
  | _ => none }
def ListNumbersWrongFalsely : Prop := listNumbersRow.holds Try.pinned (OpenSpec.ofChange listNumbersWrong)

/-- 'gemotlaw17.SealCloses': WHATEVER THE INPUT: true; the input reads as it did. -/
def sealClosesSpec : ChangeSpec := { name := "sealCloses", fn := fun _ => fun
  | [d1, d2, d3, d4, d5, d6] => { results := [.lit (.bool true)], args := [d1, d2, d3, d4, d5, d6] }
  | _ => none }
def sealClosesRow : OpenClaim := { program := "ytpfpmjdifnoeoaa", sum := "6b363b18ceb8ecb41df229cc26744172c5adebd7db0991368a4d47f4c7037811", func := "gemot/gemotlaw17.SealCloses", spec := "sealCloses", unfollowed := true, recurses := true, apart := false }
def SealClosesSaid : Prop := sealClosesRow.holds Try.pinned (OpenSpec.ofChange sealClosesSpec)

/-- ITS FALSE NEIGHBOUR: 'it returns false'. Refute it at one input. -/
def sealClosesWrong : ChangeSpec := { name := "sealCloses", fn := fun _ => fun
  | [d1, d2, d3, d4, d5, d6] => { results := [.lit (.bool false)], args := [d1, d2, d3, d4, d5, d6] }
  | _ => none }
def SealClosesWrongFalsely : Prop := sealClosesRow.holds Try.pinned (OpenSpec.ofChange sealClosesWrong)

/-- 'gemotlaw17.SealBinds': WHATEVER THE INPUT: true; the input reads as it did. -/
def sealBindsSpec : ChangeSpec := { name := "sealBinds", fn := fun _ => fun
  | [d1, d2, d3, d4, d5, d6, d7, d8, d9] => { results := [.lit (.bool true)], args := [d1, d2, d3, d4, d5, d6, d7, d8, d9] }
  | _ => none }
def sealBindsRow : OpenClaim := { program := "ytpfpmjdifnoeoaa", sum := "6b363b18ceb8ecb41df229cc26744172c5adebd7db0991368a4d47f4c7037811", func := "gemot/gemotlaw17.SealBinds", spec := "sealBinds", unfollowed := true, recurses := true, apart := false }
def SealBindsSaid : Prop := sealBindsRow.holds Try.pinned (OpenSpec.ofChange sealBindsSpec)

/-- ITS FALSE NEIGHBOUR: 'it returns false'. Refute it at one input. -/
def sealBindsWrong : ChangeSpec := { name := "sealBinds", fn := fun _ => fun
  | [d1, d2, d3, d4, d5, d6, d7, d8, d9] => { results := [.lit (.bool false)], args := [d1, d2, d3, d4, d5, d6, d7, d8, d9] }
  | _ => none }
def SealBindsWrongFalsely : Prop := sealBindsRow.holds Try.pinned (OpenSpec.ofChange sealBindsWrong)

/-- 'gemotlaw17.SealApart': WHATEVER THE INPUT: true; the input reads as it did. -/
def sealApartSpec : ChangeSpec := { name := "sealApart", fn := fun _ => fun
  | [d1, d2, d3, d4] => { results := [.lit (.bool true)], args := [d1, d2, d3, d4] }
  | _ => none }
def sealApartRow : OpenClaim := { program := "ytpfpmjdifnoeoaa", sum := "6b363b18ceb8ecb41df229cc26744172c5adebd7db0991368a4d47f4c7037811", func := "gemot/gemotlaw17.SealApart", spec := "sealApart", unfollowed := true, recurses := true, apart := false }
def SealApartSaid : Prop := sealApartRow.holds Try.pinned (OpenSpec.ofChange sealApartSpec)

/-- ITS FALSE NEIGHBOUR: 'it returns false'. Refute it at one input. -/
def sealApartWrong : ChangeSpec := { name := "sealApart", fn := fun _ => fun
  | [d1, d2, d3, d4] => { results := [.lit (.bool false)], args := [d1, d2, d3, d4] }
  | _ => none }
def SealApartWrongFalsely : Prop := sealApartRow.holds Try.pinned (OpenSpec.ofChange sealApartWrong)

/-- 'gemotlaw17.SealNonces': WHATEVER THE INPUT: true; the input reads as it did. -/
def sealNoncesSpec : ChangeSpec := { name := "sealNonces", fn := fun _ => fun
  | [d] => { results := [.lit (.bool true)], args := [d] }
  | _ => none }
def sealNoncesRow : OpenClaim := { program := "ytpfpmjdifnoeoaa", sum := "6b363b18ceb8ecb41df229cc26744172c5adebd7db0991368a4d47f4c7037811", func := "gemot/gemotlaw17.SealNonces", spec := "sealNonces", unfollowed := true, recurses := true, apart := false }
def SealNoncesSaid : Prop := sealNoncesRow.holds Try.pinned (OpenSpec.ofChange sealNoncesSpec)

/-- ITS FALSE NEIGHBOUR: 'it returns false'. Refute it at one input. -/
def sealNoncesWrong : ChangeSpec := { name := "sealNonces", fn := fun _ => fun
  | [d] => { results := [.lit (.bool false)], args := [d] }
  | _ => none }
def SealNoncesWrongFalsely : Prop := sealNoncesRow.holds Try.pinned (OpenSpec.ofChange sealNoncesWrong)

/-- 'gemotlaw17.SealOld': WHATEVER THE INPUT: true; the input reads as it did. -/
def sealOldSpec : ChangeSpec := { name := "sealOld", fn := fun _ => fun
  | [d1, d2, d3, d4, d5] => { results := [.lit (.bool true)], args := [d1, d2, d3, d4, d5] }
  | _ => none }
def sealOldRow : OpenClaim := { program := "ytpfpmjdifnoeoaa", sum := "6b363b18ceb8ecb41df229cc26744172c5adebd7db0991368a4d47f4c7037811", func := "gemot/gemotlaw17.SealOld", spec := "sealOld", unfollowed := true, recurses := true, apart := false }
def SealOldSaid : Prop := sealOldRow.holds Try.pinned (OpenSpec.ofChange sealOldSpec)

/-- ITS FALSE NEIGHBOUR: 'it returns false'. Refute it at one input. -/
def sealOldWrong : ChangeSpec := { name := "sealOld", fn := fun _ => fun
  | [d1, d2, d3, d4, d5] => { results := [.lit (.bool false)], args := [d1, d2, d3, d4, d5] }
  | _ => none }
def SealOldWrongFalsely : Prop := sealOldRow.holds Try.pinned (OpenSpec.ofChange sealOldWrong)

/-- 'gemotlaw2.PartsTaken': WHATEVER THE INPUT: true; the input reads as it did. -/
def partsTakenSpec : ChangeSpec := { name := "partsTaken", fn := fun _ => fun
  | [d] => { results := [.lit (.bool true)], args := [d] }
  | _ => none }
def partsTakenRow : OpenClaim := { program := "ytpfpmjdifnoeoaa", sum := "6b363b18ceb8ecb41df229cc26744172c5adebd7db0991368a4d47f4c7037811", func := "gemot/gemotlaw2.PartsTaken", spec := "partsTaken", unfollowed := true, recurses := true, apart := false }
def PartsTakenSaid : Prop := partsTakenRow.holds Try.pinned (OpenSpec.ofChange partsTakenSpec)

/-- ITS FALSE NEIGHBOUR: 'it returns false'. Refute it at one input. -/
def partsTakenWrong : ChangeSpec := { name := "partsTaken", fn := fun _ => fun
  | [d] => { results := [.lit (.bool false)], args := [d] }
  | _ => none }
def PartsTakenWrongFalsely : Prop := partsTakenRow.holds Try.pinned (OpenSpec.ofChange partsTakenWrong)

/-- 'gemotlaw1.TermLeaves': WHATEVER THE INPUT: true; the input reads as it did. -/
def termLeavesSpec : ChangeSpec := { name := "termLeaves", fn := fun _ => fun
  | [d1, d2, d3] => { results := [.lit (.bool true)], args := [d1, d2, d3] }
  | _ => none }
def termLeavesRow : OpenClaim := { program := "ytpfpmjdifnoeoaa", sum := "6b363b18ceb8ecb41df229cc26744172c5adebd7db0991368a4d47f4c7037811", func := "gemot/gemotlaw1.TermLeaves", spec := "termLeaves", inPlace := ["internal/abi.NoEscape", "internal/bytealg.MakeNoZero"], recurses := true, apart := false }
def TermLeavesSaid : Prop := termLeavesRow.holds Try.pinned (OpenSpec.ofChange termLeavesSpec)

/-- ITS FALSE NEIGHBOUR: 'it returns false'. Refute it at one input. -/
def termLeavesWrong : ChangeSpec := { name := "termLeaves", fn := fun _ => fun
  | [d1, d2, d3] => { results := [.lit (.bool false)], args := [d1, d2, d3] }
  | _ => none }
def TermLeavesWrongFalsely : Prop := termLeavesRow.holds Try.pinned (OpenSpec.ofChange termLeavesWrong)

/-- 'gemotlaw1.TermNames': WHATEVER THE INPUT: true; the input reads as it did. -/
def termNamesSpec : ChangeSpec := { name := "termNames", fn := fun _ => fun
  | [d1, d2, d3, d4] => { results := [.lit (.bool true)], args := [d1, d2, d3, d4] }
  | _ => none }
def termNamesRow : OpenClaim := { program := "ytpfpmjdifnoeoaa", sum := "6b363b18ceb8ecb41df229cc26744172c5adebd7db0991368a4d47f4c7037811", func := "gemot/gemotlaw1.TermNames", spec := "termNames", inPlace := ["internal/abi.NoEscape", "internal/bytealg.MakeNoZero"], recurses := true, apart := false }
def TermNamesSaid : Prop := termNamesRow.holds Try.pinned (OpenSpec.ofChange termNamesSpec)

/-- ITS FALSE NEIGHBOUR: 'it returns false'. Refute it at one input. -/
def termNamesWrong : ChangeSpec := { name := "termNames", fn := fun _ => fun
  | [d1, d2, d3, d4] => { results := [.lit (.bool false)], args := [d1, d2, d3, d4] }
  | _ => none }
def TermNamesWrongFalsely : Prop := termNamesRow.holds Try.pinned (OpenSpec.ofChange termNamesWrong)

/-- 'gemotlaw1.TermMakes': WHATEVER THE INPUT: true; the input reads as it did. -/
def termMakesSpec : ChangeSpec := { name := "termMakes", fn := fun _ => fun
  | [d1, d2, d3] => { results := [.lit (.bool true)], args := [d1, d2, d3] }
  | _ => none }
def termMakesRow : OpenClaim := { program := "ytpfpmjdifnoeoaa", sum := "6b363b18ceb8ecb41df229cc26744172c5adebd7db0991368a4d47f4c7037811", func := "gemot/gemotlaw1.TermMakes", spec := "termMakes", inPlace := ["internal/abi.NoEscape", "internal/bytealg.MakeNoZero"], recurses := true, apart := false }
def TermMakesSaid : Prop := termMakesRow.holds Try.pinned (OpenSpec.ofChange termMakesSpec)

/-- ITS FALSE NEIGHBOUR: 'it returns false'. Refute it at one input. -/
def termMakesWrong : ChangeSpec := { name := "termMakes", fn := fun _ => fun
  | [d1, d2, d3] => { results := [.lit (.bool false)], args := [d1, d2, d3] }
  | _ => none }
def TermMakesWrongFalsely : Prop := termMakesRow.holds Try.pinned (OpenSpec.ofChange termMakesWrong)

/-- 'gemotlaw1.TermCuts': WHATEVER THE INPUT: true; the input reads as it did. -/
def termCutsSpec : ChangeSpec := { name := "termCuts", fn := fun _ => fun
  | [d1, d2, d3, d4] => { results := [.lit (.bool true)], args := [d1, d2, d3, d4] }
  | _ => none }
def termCutsRow : OpenClaim := { program := "ytpfpmjdifnoeoaa", sum := "6b363b18ceb8ecb41df229cc26744172c5adebd7db0991368a4d47f4c7037811", func := "gemot/gemotlaw1.TermCuts", spec := "termCuts", inPlace := ["internal/abi.NoEscape", "internal/bytealg.MakeNoZero"], recurses := true, apart := false }
def TermCutsSaid : Prop := termCutsRow.holds Try.pinned (OpenSpec.ofChange termCutsSpec)

/-- ITS FALSE NEIGHBOUR: 'it returns false'. Refute it at one input. -/
def termCutsWrong : ChangeSpec := { name := "termCuts", fn := fun _ => fun
  | [d1, d2, d3, d4] => { results := [.lit (.bool false)], args := [d1, d2, d3, d4] }
  | _ => none }
def TermCutsWrongFalsely : Prop := termCutsRow.holds Try.pinned (OpenSpec.ofChange termCutsWrong)

/-- 'gemotlaw1.TermSeals': WHATEVER THE INPUT: true; the input reads as it did. -/
def termSealsSpec : ChangeSpec := { name := "termSeals", fn := fun _ => fun
  | [d1, d2, d3, d4, d5] => { results := [.lit (.bool true)], args := [d1, d2, d3, d4, d5] }
  | _ => none }
def termSealsRow : OpenClaim := { program := "ytpfpmjdifnoeoaa", sum := "6b363b18ceb8ecb41df229cc26744172c5adebd7db0991368a4d47f4c7037811", func := "gemot/gemotlaw1.TermSeals", spec := "termSeals", inPlace := ["internal/abi.NoEscape", "internal/bytealg.MakeNoZero"], recurses := true, apart := false }
def TermSealsSaid : Prop := termSealsRow.holds Try.pinned (OpenSpec.ofChange termSealsSpec)

/-- ITS FALSE NEIGHBOUR: 'it returns false'. Refute it at one input. -/
def termSealsWrong : ChangeSpec := { name := "termSeals", fn := fun _ => fun
  | [d1, d2, d3, d4, d5] => { results := [.lit (.bool false)], args := [d1, d2, d3, d4, d5] }
  | _ => none }
def TermSealsWrongFalsely : Prop := termSealsRow.holds Try.pinned (OpenSpec.ofChange termSealsWrong)

/-- 'gemotlaw1.TermTakesAll': WHATEVER THE INPUT: true; the input reads as it did. -/
def termTakesAllSpec : ChangeSpec := { name := "termTakesAll", fn := fun _ => fun
  | [d] => { results := [.lit (.bool true)], args := [d] }
  | _ => none }
def termTakesAllRow : OpenClaim := { program := "ytpfpmjdifnoeoaa", sum := "6b363b18ceb8ecb41df229cc26744172c5adebd7db0991368a4d47f4c7037811", func := "gemot/gemotlaw1.TermTakesAll", spec := "termTakesAll", inPlace := ["internal/abi.NoEscape", "internal/bytealg.MakeNoZero"], recurses := true, apart := false }
def TermTakesAllSaid : Prop := termTakesAllRow.holds Try.pinned (OpenSpec.ofChange termTakesAllSpec)

/-- ITS FALSE NEIGHBOUR: 'it returns false'. Refute it at one input. -/
def termTakesAllWrong : ChangeSpec := { name := "termTakesAll", fn := fun _ => fun
  | [d] => { results := [.lit (.bool false)], args := [d] }
  | _ => none }
def TermTakesAllWrongFalsely : Prop := termTakesAllRow.holds Try.pinned (OpenSpec.ofChange termTakesAllWrong)

/-- 'gemotlaw1.TermBack': WHATEVER THE INPUT: true; the input reads as it did. -/
def termBackSpec : ChangeSpec := { name := "termBack", fn := fun _ => fun
  | [d1, d2] => { results := [.lit (.bool true)], args := [d1, d2] }
  | _ => none }
def termBackRow : OpenClaim := { program := "ytpfpmjdifnoeoaa", sum := "6b363b18ceb8ecb41df229cc26744172c5adebd7db0991368a4d47f4c7037811", func := "gemot/gemotlaw1.TermBack", spec := "termBack", inPlace := ["internal/abi.NoEscape", "internal/bytealg.MakeNoZero"], recurses := true, apart := false }
def TermBackSaid : Prop := termBackRow.holds Try.pinned (OpenSpec.ofChange termBackSpec)

/-- ITS FALSE NEIGHBOUR: 'it returns false'. Refute it at one input. -/
def termBackWrong : ChangeSpec := { name := "termBack", fn := fun _ => fun
  | [d1, d2] => { results := [.lit (.bool false)], args := [d1, d2] }
  | _ => none }
def TermBackWrongFalsely : Prop := termBackRow.holds Try.pinned (OpenSpec.ofChange termBackWrong)

/-- 'gemotlaw1.TermTurns': WHATEVER THE INPUT: true; the input reads as it did. -/
def termTurnsSpec : ChangeSpec := { name := "termTurns", fn := fun _ => fun
  | [d1, d2] => { results := [.lit (.bool true)], args := [d1, d2] }
  | _ => none }
def termTurnsRow : OpenClaim := { program := "ytpfpmjdifnoeoaa", sum := "6b363b18ceb8ecb41df229cc26744172c5adebd7db0991368a4d47f4c7037811", func := "gemot/gemotlaw1.TermTurns", spec := "termTurns", inPlace := ["internal/abi.NoEscape", "internal/bytealg.MakeNoZero"], recurses := true, apart := false }
def TermTurnsSaid : Prop := termTurnsRow.holds Try.pinned (OpenSpec.ofChange termTurnsSpec)

/-- ITS FALSE NEIGHBOUR: 'it returns false'. Refute it at one input. -/
def termTurnsWrong : ChangeSpec := { name := "termTurns", fn := fun _ => fun
  | [d1, d2] => { results := [.lit (.bool false)], args := [d1, d2] }
  | _ => none }
def TermTurnsWrongFalsely : Prop := termTurnsRow.holds Try.pinned (OpenSpec.ofChange termTurnsWrong)

/-- 'gemotlaw1.TermParts': WHATEVER THE INPUT: true; the input reads as it did. -/
def termPartsSpec : ChangeSpec := { name := "termParts", fn := fun _ => fun
  | [d1, d2, d3, d4] => { results := [.lit (.bool true)], args := [d1, d2, d3, d4] }
  | _ => none }
def termPartsRow : OpenClaim := { program := "ytpfpmjdifnoeoaa", sum := "6b363b18ceb8ecb41df229cc26744172c5adebd7db0991368a4d47f4c7037811", func := "gemot/gemotlaw1.TermParts", spec := "termParts", inPlace := ["internal/abi.NoEscape", "internal/bytealg.MakeNoZero"], recurses := true, apart := false }
def TermPartsSaid : Prop := termPartsRow.holds Try.pinned (OpenSpec.ofChange termPartsSpec)

/-- ITS FALSE NEIGHBOUR: 'it returns false'. Refute it at one input. -/
def termPartsWrong : ChangeSpec := { name := "termParts", fn := fun _ => fun
  | [d1, d2, d3, d4] => { results := [.lit (.bool false)], args := [d1, d2, d3, d4] }
  | _ => none }
def TermPartsWrongFalsely : Prop := termPartsRow.holds Try.pinned (OpenSpec.ofChange termPartsWrong)

/-- 'gemotlaw4.ListJoins': WHATEVER THE INPUT: true; the input reads as it did. -/
def listJoinsSpec : ChangeSpec := { name := "listJoins", fn := fun _ => fun
  | [d1, d2] => { results := [.lit (.bool true)], args := [d1, d2] }
  | _ => none }
def listJoinsRow : OpenClaim := { program := "ytpfpmjdifnoeoaa", sum := "6b363b18ceb8ecb41df229cc26744172c5adebd7db0991368a4d47f4c7037811", func := "gemot/gemotlaw4.ListJoins", spec := "listJoins", inPlace := ["internal/abi.NoEscape", "internal/bytealg.MakeNoZero"], unfollowed := true, recurses := true, apart := false }
def ListJoinsSaid : Prop := listJoinsRow.holds Try.pinned (OpenSpec.ofChange listJoinsSpec)

/-- ITS FALSE NEIGHBOUR: 'it returns false'. Refute it at one input. -/
def listJoinsWrong : ChangeSpec := { name := "listJoins", fn := fun _ => fun
  | [d1, d2] => { results := [.lit (.bool false)], args := [d1, d2] }
  | _ => none }
def ListJoinsWrongFalsely : Prop := listJoinsRow.holds Try.pinned (OpenSpec.ofChange listJoinsWrong)

/-- 'gemotlaw2.PartsPowers': WHATEVER THE INPUT: true; the input reads as it did. -/
def partsPowersSpec : ChangeSpec := { name := "partsPowers", fn := fun _ => fun
  | [d1, d2, d3] => { results := [.lit (.bool true)], args := [d1, d2, d3] }
  | _ => none }
def partsPowersRow : OpenClaim := { program := "ytpfpmjdifnoeoaa", sum := "6b363b18ceb8ecb41df229cc26744172c5adebd7db0991368a4d47f4c7037811", func := "gemot/gemotlaw2.PartsPowers", spec := "partsPowers", inPlace := ["internal/abi.NoEscape", "internal/bytealg.MakeNoZero"], unfollowed := true, recurses := true, apart := false }
def PartsPowersSaid : Prop := partsPowersRow.holds Try.pinned (OpenSpec.ofChange partsPowersSpec)

/-- ITS FALSE NEIGHBOUR: 'it returns false'. Refute it at one input. -/
def partsPowersWrong : ChangeSpec := { name := "partsPowers", fn := fun _ => fun
  | [d1, d2, d3] => { results := [.lit (.bool false)], args := [d1, d2, d3] }
  | _ => none }
def PartsPowersWrongFalsely : Prop := partsPowersRow.holds Try.pinned (OpenSpec.ofChange partsPowersWrong)

/-- 'gemotlaw2.PartsValues': WHATEVER THE INPUT: true; the input reads as it did. -/
def partsValuesSpec : ChangeSpec := { name := "partsValues", fn := fun _ => fun
  | [d1, d2, d3, d4] => { results := [.lit (.bool true)], args := [d1, d2, d3, d4] }
  | _ => none }
def partsValuesRow : OpenClaim := { program := "ytpfpmjdifnoeoaa", sum := "6b363b18ceb8ecb41df229cc26744172c5adebd7db0991368a4d47f4c7037811", func := "gemot/gemotlaw2.PartsValues", spec := "partsValues", inPlace := ["internal/abi.NoEscape", "internal/bytealg.MakeNoZero"], unfollowed := true, recurses := true, apart := false }
def PartsValuesSaid : Prop := partsValuesRow.holds Try.pinned (OpenSpec.ofChange partsValuesSpec)

/-- ITS FALSE NEIGHBOUR: 'it returns false'. Refute it at one input. -/
def partsValuesWrong : ChangeSpec := { name := "partsValues", fn := fun _ => fun
  | [d1, d2, d3, d4] => { results := [.lit (.bool false)], args := [d1, d2, d3, d4] }
  | _ => none }
def PartsValuesWrongFalsely : Prop := partsValuesRow.holds Try.pinned (OpenSpec.ofChange partsValuesWrong)

/-- 'gemotlaw2.PartsBack': WHATEVER THE INPUT: true; the input reads as it did. -/
def partsBackSpec : ChangeSpec := { name := "partsBack", fn := fun _ => fun
  | [d1, d2, d3, d4, d5] => { results := [.lit (.bool true)], args := [d1, d2, d3, d4, d5] }
  | _ => none }
def partsBackRow : OpenClaim := { program := "ytpfpmjdifnoeoaa", sum := "6b363b18ceb8ecb41df229cc26744172c5adebd7db0991368a4d47f4c7037811", func := "gemot/gemotlaw2.PartsBack", spec := "partsBack", inPlace := ["internal/abi.NoEscape", "internal/bytealg.MakeNoZero"], unfollowed := true, recurses := true, apart := false }
def PartsBackSaid : Prop := partsBackRow.holds Try.pinned (OpenSpec.ofChange partsBackSpec)

/-- ITS FALSE NEIGHBOUR: 'it returns false'. Refute it at one input. -/
def partsBackWrong : ChangeSpec := { name := "partsBack", fn := fun _ => fun
  | [d1, d2, d3, d4, d5] => { results := [.lit (.bool false)], args := [d1, d2, d3, d4, d5] }
  | _ => none }
def PartsBackWrongFalsely : Prop := partsBackRow.holds Try.pinned (OpenSpec.ofChange partsBackWrong)

/-- 'gemotlaw2.PartsAll': WHATEVER THE INPUT: true; the input reads as it did. -/
def partsAllSpec : ChangeSpec := { name := "partsAll", fn := fun _ => fun
  | [d1, d2] => { results := [.lit (.bool true)], args := [d1, d2] }
  | _ => none }
def partsAllRow : OpenClaim := { program := "ytpfpmjdifnoeoaa", sum := "6b363b18ceb8ecb41df229cc26744172c5adebd7db0991368a4d47f4c7037811", func := "gemot/gemotlaw2.PartsAll", spec := "partsAll", inPlace := ["internal/abi.NoEscape", "internal/bytealg.MakeNoZero"], unfollowed := true, recurses := true, apart := false }
def PartsAllSaid : Prop := partsAllRow.holds Try.pinned (OpenSpec.ofChange partsAllSpec)

/-- ITS FALSE NEIGHBOUR: 'it returns false'. Refute it at one input. -/
def partsAllWrong : ChangeSpec := { name := "partsAll", fn := fun _ => fun
  | [d1, d2] => { results := [.lit (.bool false)], args := [d1, d2] }
  | _ => none }
def PartsAllWrongFalsely : Prop := partsAllRow.holds Try.pinned (OpenSpec.ofChange partsAllWrong)

/-- 'gemotlaw2.PartsKeys': WHATEVER THE INPUT: true; the input reads as it did. -/
def partsKeysSpec : ChangeSpec := { name := "partsKeys", fn := fun _ => fun
  | [d1, d2, d3, d4, d5] => { results := [.lit (.bool true)], args := [d1, d2, d3, d4, d5] }
  | _ => none }
def partsKeysRow : OpenClaim := { program := "ytpfpmjdifnoeoaa", sum := "6b363b18ceb8ecb41df229cc26744172c5adebd7db0991368a4d47f4c7037811", func := "gemot/gemotlaw2.PartsKeys", spec := "partsKeys", inPlace := ["internal/abi.NoEscape", "internal/bytealg.MakeNoZero"], unfollowed := true, recurses := true, apart := false }
def PartsKeysSaid : Prop := partsKeysRow.holds Try.pinned (OpenSpec.ofChange partsKeysSpec)

/-- ITS FALSE NEIGHBOUR: 'it returns false'. Refute it at one input. -/
def partsKeysWrong : ChangeSpec := { name := "partsKeys", fn := fun _ => fun
  | [d1, d2, d3, d4, d5] => { results := [.lit (.bool false)], args := [d1, d2, d3, d4, d5] }
  | _ => none }
def PartsKeysWrongFalsely : Prop := partsKeysRow.holds Try.pinned (OpenSpec.ofChange partsKeysWrong)

/-- 'gemotlaw4.ListCuts': WHATEVER THE INPUT: true; the input reads as it did. -/
def listCutsSpec : ChangeSpec := { name := "listCuts", fn := fun _ => fun
  | [d] => { results := [.lit (.bool true)], args := [d] }
  | _ => none }
def listCutsRow : OpenClaim := { program := "ytpfpmjdifnoeoaa", sum := "6b363b18ceb8ecb41df229cc26744172c5adebd7db0991368a4d47f4c7037811", func := "gemot/gemotlaw4.ListCuts", spec := "listCuts", inPlace := ["internal/abi.NoEscape", "internal/bytealg.MakeNoZero"], unfollowed := true, recurses := true, apart := false }
def ListCutsSaid : Prop := listCutsRow.holds Try.pinned (OpenSpec.ofChange listCutsSpec)

/-- ITS FALSE NEIGHBOUR: 'it returns false'. Refute it at one input. -/
def listCutsWrong : ChangeSpec := { name := "listCuts", fn := fun _ => fun
  | [d] => { results := [.lit (.bool false)], args := [d] }
  | _ => none }
def ListCutsWrongFalsely : Prop := listCutsRow.holds Try.pinned (OpenSpec.ofChange listCutsWrong)

/-- 'gemotlaw4.ListBack': WHATEVER THE INPUT: true; the input reads as it did. -/
def listBackSpec : ChangeSpec := { name := "listBack", fn := fun _ => fun
  | [d1, d2, d3] => { results := [.lit (.bool true)], args := [d1, d2, d3] }
  | _ => none }
def listBackRow : OpenClaim := { program := "ytpfpmjdifnoeoaa", sum := "6b363b18ceb8ecb41df229cc26744172c5adebd7db0991368a4d47f4c7037811", func := "gemot/gemotlaw4.ListBack", spec := "listBack", inPlace := ["internal/abi.NoEscape", "internal/bytealg.MakeNoZero"], unfollowed := true, recurses := true, apart := false }
def ListBackSaid : Prop := listBackRow.holds Try.pinned (OpenSpec.ofChange listBackSpec)

/-- ITS FALSE NEIGHBOUR: 'it returns false'. Refute it at one input. -/
def listBackWrong : ChangeSpec := { name := "listBack", fn := fun _ => fun
  | [d1, d2, d3] => { results := [.lit (.bool false)], args := [d1, d2, d3] }
  | _ => none }
def ListBackWrongFalsely : Prop := listBackRow.holds Try.pinned (OpenSpec.ofChange listBackWrong)

/-- 'gemotlaw3.KnowPowers': WHATEVER THE INPUT: true; the input reads as it did. -/
def knowPowersSpec : ChangeSpec := { name := "knowPowers", fn := fun _ => fun
  | [d1, d2, d3] => { results := [.lit (.bool true)], args := [d1, d2, d3] }
  | _ => none }
def knowPowersRow : OpenClaim := { program := "ytpfpmjdifnoeoaa", sum := "6b363b18ceb8ecb41df229cc26744172c5adebd7db0991368a4d47f4c7037811", func := "gemot/gemotlaw3.KnowPowers", spec := "knowPowers", inPlace := ["internal/abi.NoEscape", "internal/bytealg.MakeNoZero"], unfollowed := true, recurses := true, apart := false }
def KnowPowersSaid : Prop := knowPowersRow.holds Try.pinned (OpenSpec.ofChange knowPowersSpec)

/-- ITS FALSE NEIGHBOUR: 'it returns false'. Refute it at one input. -/
def knowPowersWrong : ChangeSpec := { name := "knowPowers", fn := fun _ => fun
  | [d1, d2, d3] => { results := [.lit (.bool false)], args := [d1, d2, d3] }
  | _ => none }
def KnowPowersWrongFalsely : Prop := knowPowersRow.holds Try.pinned (OpenSpec.ofChange knowPowersWrong)

/-- 'gemotlaw3.KnowSeals': WHATEVER THE INPUT: true; the input reads as it did. -/
def knowSealsSpec : ChangeSpec := { name := "knowSeals", fn := fun _ => fun
  | [d1, d2] => { results := [.lit (.bool true)], args := [d1, d2] }
  | _ => none }
def knowSealsRow : OpenClaim := { program := "ytpfpmjdifnoeoaa", sum := "6b363b18ceb8ecb41df229cc26744172c5adebd7db0991368a4d47f4c7037811", func := "gemot/gemotlaw3.KnowSeals", spec := "knowSeals", inPlace := ["internal/abi.NoEscape", "internal/bytealg.MakeNoZero"], unfollowed := true, recurses := true, apart := false }
def KnowSealsSaid : Prop := knowSealsRow.holds Try.pinned (OpenSpec.ofChange knowSealsSpec)

/-- ITS FALSE NEIGHBOUR: 'it returns false'. Refute it at one input. -/
def knowSealsWrong : ChangeSpec := { name := "knowSeals", fn := fun _ => fun
  | [d1, d2] => { results := [.lit (.bool false)], args := [d1, d2] }
  | _ => none }
def KnowSealsWrongFalsely : Prop := knowSealsRow.holds Try.pinned (OpenSpec.ofChange knowSealsWrong)

/-- 'gemotlaw3.KnowSecret': WHATEVER THE INPUT: true; the input reads as it did. -/
def knowSecretSpec : ChangeSpec := { name := "knowSecret", fn := fun _ => fun
  | [d1, d2, d3] => { results := [.lit (.bool true)], args := [d1, d2, d3] }
  | _ => none }
def knowSecretRow : OpenClaim := { program := "ytpfpmjdifnoeoaa", sum := "6b363b18ceb8ecb41df229cc26744172c5adebd7db0991368a4d47f4c7037811", func := "gemot/gemotlaw3.KnowSecret", spec := "knowSecret", inPlace := ["internal/abi.NoEscape", "internal/bytealg.MakeNoZero"], unfollowed := true, recurses := true, apart := false }
def KnowSecretSaid : Prop := knowSecretRow.holds Try.pinned (OpenSpec.ofChange knowSecretSpec)

/-- ITS FALSE NEIGHBOUR: 'it returns false'. Refute it at one input. -/
def knowSecretWrong : ChangeSpec := { name := "knowSecret", fn := fun _ => fun
  | [d1, d2, d3] => { results := [.lit (.bool false)], args := [d1, d2, d3] }
  | _ => none }
def KnowSecretWrongFalsely : Prop := knowSecretRow.holds Try.pinned (OpenSpec.ofChange knowSecretWrong)

/-- 'gemotlaw3.KnowPublic': WHATEVER THE INPUT: true; the input reads as it did. -/
def knowPublicSpec : ChangeSpec := { name := "knowPublic", fn := fun _ => fun
  | [d1, d2] => { results := [.lit (.bool true)], args := [d1, d2] }
  | _ => none }
def knowPublicRow : OpenClaim := { program := "ytpfpmjdifnoeoaa", sum := "6b363b18ceb8ecb41df229cc26744172c5adebd7db0991368a4d47f4c7037811", func := "gemot/gemotlaw3.KnowPublic", spec := "knowPublic", inPlace := ["internal/abi.NoEscape", "internal/bytealg.MakeNoZero"], unfollowed := true, recurses := true, apart := false }
def KnowPublicSaid : Prop := knowPublicRow.holds Try.pinned (OpenSpec.ofChange knowPublicSpec)

/-- ITS FALSE NEIGHBOUR: 'it returns false'. Refute it at one input. -/
def knowPublicWrong : ChangeSpec := { name := "knowPublic", fn := fun _ => fun
  | [d1, d2] => { results := [.lit (.bool false)], args := [d1, d2] }
  | _ => none }
def KnowPublicWrongFalsely : Prop := knowPublicRow.holds Try.pinned (OpenSpec.ofChange knowPublicWrong)

/-- 'gemotlaw17.SealHides': WHATEVER THE INPUT: true; the input reads as it did. -/
def sealHidesSpec : ChangeSpec := { name := "sealHides", fn := fun _ => fun
  | [d1, d2, d3, d4] => { results := [.lit (.bool true)], args := [d1, d2, d3, d4] }
  | _ => none }
def sealHidesRow : OpenClaim := { program := "ytpfpmjdifnoeoaa", sum := "6b363b18ceb8ecb41df229cc26744172c5adebd7db0991368a4d47f4c7037811", func := "gemot/gemotlaw17.SealHides", spec := "sealHides", unfollowed := true, recurses := true, apart := false }
def SealHidesSaid : Prop := sealHidesRow.holds Try.pinned (OpenSpec.ofChange sealHidesSpec)

/-- ITS FALSE NEIGHBOUR: 'it returns false'. Refute it at one input. -/
def sealHidesWrong : ChangeSpec := { name := "sealHides", fn := fun _ => fun
  | [d1, d2, d3, d4] => { results := [.lit (.bool false)], args := [d1, d2, d3, d4] }
  | _ => none }
def SealHidesWrongFalsely : Prop := sealHidesRow.holds Try.pinned (OpenSpec.ofChange sealHidesWrong)

/- THE SECOND FORM. 'bulk': how many values and letters a reading holds, each counted each time it is reached (what is shared counts as often as it is met; a slice's spare places count too). A statement '..UptoSaid' is the law's where the arguments, and the package variables that the reading takes, are together of bulk at most 1048576: NARROWER than '..Said'. Prove '..Said' where nothing that the law and all that it calls make is longer than what came in: it says more and counts as full. Else prove '..UptoSaid'. A law counts once. -/
mutual
def uptoBulk {H : Type} : DataW H → Nat
  | .lit (.string bytes) => bytes.length + 1
  | .lit _ => 1
  | .nil => 1
  | .ptr d => uptoBulk d + 1
  | .slice elems spare => uptoBulkAll elems + uptoBulkAll spare + 1
  | .agg parts => uptoBulkAll parts + 1
  | .iface _ d => uptoBulk d + 1
  | .map entries => uptoBulkEntries entries + 1
  | .held _ => 1
def uptoBulkAll {H : Type} : List (DataW H) → Nat
  | [] => 0
  | d :: r => uptoBulk d + uptoBulkAll r
def uptoBulkEntries {H : Type} : List (Lit × DataW H) → Nat
  | [] => 0
  | x :: r => uptoBulkEntry x + uptoBulkEntries r
def uptoBulkEntry {H : Type} : Lit × DataW H → Nat
  | (.string bytes, d) => bytes.length + uptoBulk d + 1
  | (_, d) => uptoBulk d + 1
 end
def uptoSmall : (H : Type) → List (DataW H) → Bool := fun _ ds => decide (uptoBulkAll ds ≤ 1048576)
def OpenSpec.upto (s : _root_.Go.ChangeSpec) : _root_.Go.OpenSpec := { _root_.Go.OpenSpec.ofChange s with cond := some uptoSmall }

/-- 'gemotlaw2.PartsOpened', WHERE WHAT IT READS IS OF BULK AT MOST 1048576: true; the input reads as it did. -/
def partsOpenedUptoRow : OpenClaim := { program := "ytpfpmjdifnoeoaa", sum := "6b363b18ceb8ecb41df229cc26744172c5adebd7db0991368a4d47f4c7037811", func := "gemot/gemotlaw2.PartsOpened", spec := "partsOpened", unfollowed := true, recurses := true, apart := false, narrowed := true }
def PartsOpenedUptoSaid : Prop := partsOpenedUptoRow.holds Try.pinned (OpenSpec.upto partsOpenedSpec)

/-- 'gemotlaw4.ListApart', WHERE WHAT IT READS IS OF BULK AT MOST 1048576: true; the input reads as it did. -/
def listApartUptoRow : OpenClaim := { program := "ytpfpmjdifnoeoaa", sum := "6b363b18ceb8ecb41df229cc26744172c5adebd7db0991368a4d47f4c7037811", func := "gemot/gemotlaw4.ListApart", spec := "listApart", unfollowed := true, recurses := true, apart := false, narrowed := true }
def ListApartUptoSaid : Prop := listApartUptoRow.holds Try.pinned (OpenSpec.upto listApartSpec)

/-- 'gemotlaw4.ListRows', WHERE WHAT IT READS IS OF BULK AT MOST 1048576: true; the input reads as it did. -/
def listRowsUptoRow : OpenClaim := { program := "ytpfpmjdifnoeoaa", sum := "6b363b18ceb8ecb41df229cc26744172c5adebd7db0991368a4d47f4c7037811", func := "gemot/gemotlaw4.ListRows", spec := "listRows", unfollowed := true, recurses := true, apart := false, narrowed := true }
def ListRowsUptoSaid : Prop := listRowsUptoRow.holds Try.pinned (OpenSpec.upto listRowsSpec)

/-- 'gemotlaw4.ListPacks', WHERE WHAT IT READS IS OF BULK AT MOST 1048576: true; the input reads as it did. -/
def listPacksUptoRow : OpenClaim := { program := "ytpfpmjdifnoeoaa", sum := "6b363b18ceb8ecb41df229cc26744172c5adebd7db0991368a4d47f4c7037811", func := "gemot/gemotlaw4.ListPacks", spec := "listPacks", unfollowed := true, recurses := true, apart := false, narrowed := true }
def ListPacksUptoSaid : Prop := listPacksUptoRow.holds Try.pinned (OpenSpec.upto listPacksSpec)

/-- 'gemotlaw4.ListNumbers', WHERE WHAT IT READS IS OF BULK AT MOST 1048576: true; the input reads as it did. -/
def listNumbersUptoRow : OpenClaim := { program := "ytpfpmjdifnoeoaa", sum := "6b363b18ceb8ecb41df229cc26744172c5adebd7db0991368a4d47f4c7037811", func := "gemot/gemotlaw4.ListNumbers", spec := "listNumbers", unfollowed := true, recurses := true, apart := false, narrowed := true }
def ListNumbersUptoSaid : Prop := listNumbersUptoRow.holds Try.pinned (OpenSpec.upto listNumbersSpec)

/-- 'gemotlaw17.SealCloses', WHERE WHAT IT READS IS OF BULK AT MOST 1048576: true; the input reads as it did. -/
def sealClosesUptoRow : OpenClaim := { program := "ytpfpmjdifnoeoaa", sum := "6b363b18ceb8ecb41df229cc26744172c5adebd7db0991368a4d47f4c7037811", func := "gemot/gemotlaw17.SealCloses", spec := "sealCloses", unfollowed := true, recurses := true, apart := false, narrowed := true }
def SealClosesUptoSaid : Prop := sealClosesUptoRow.holds Try.pinned (OpenSpec.upto sealClosesSpec)

/-- 'gemotlaw17.SealBinds', WHERE WHAT IT READS IS OF BULK AT MOST 1048576: true; the input reads as it did. -/
def sealBindsUptoRow : OpenClaim := { program := "ytpfpmjdifnoeoaa", sum := "6b363b18ceb8ecb41df229cc26744172c5adebd7db0991368a4d47f4c7037811", func := "gemot/gemotlaw17.SealBinds", spec := "sealBinds", unfollowed := true, recurses := true, apart := false, narrowed := true }
def SealBindsUptoSaid : Prop := sealBindsUptoRow.holds Try.pinned (OpenSpec.upto sealBindsSpec)

/-- 'gemotlaw17.SealApart', WHERE WHAT IT READS IS OF BULK AT MOST 1048576: true; the input reads as it did. -/
def sealApartUptoRow : OpenClaim := { program := "ytpfpmjdifnoeoaa", sum := "6b363b18ceb8ecb41df229cc26744172c5adebd7db0991368a4d47f4c7037811", func := "gemot/gemotlaw17.SealApart", spec := "sealApart", unfollowed := true, recurses := true, apart := false, narrowed := true }
def SealApartUptoSaid : Prop := sealApartUptoRow.holds Try.pinned (OpenSpec.upto sealApartSpec)

/-- 'gemotlaw17.SealNonces', WHERE WHAT IT READS IS OF BULK AT MOST 1048576: true; the input reads as it did. -/
def sealNoncesUptoRow : OpenClaim := { program := "ytpfpmjdifnoeoaa", sum := "6b363b18ceb8ecb41df229cc26744172c5adebd7db0991368a4d47f4c7037811", func := "gemot/gemotlaw17.SealNonces", spec := "sealNonces", unfollowed := true, recurses := true, apart := false, narrowed := true }
def SealNoncesUptoSaid : Prop := sealNoncesUptoRow.holds Try.pinned (OpenSpec.upto sealNoncesSpec)

/-- 'gemotlaw17.SealOld', WHERE WHAT IT READS IS OF BULK AT MOST 1048576: true; the input reads as it did. -/
def sealOldUptoRow : OpenClaim := { program := "ytpfpmjdifnoeoaa", sum := "6b363b18ceb8ecb41df229cc26744172c5adebd7db0991368a4d47f4c7037811", func := "gemot/gemotlaw17.SealOld", spec := "sealOld", unfollowed := true, recurses := true, apart := false, narrowed := true }
def SealOldUptoSaid : Prop := sealOldUptoRow.holds Try.pinned (OpenSpec.upto sealOldSpec)

/-- 'gemotlaw2.PartsTaken', WHERE WHAT IT READS IS OF BULK AT MOST 1048576: true; the input reads as it did. -/
def partsTakenUptoRow : OpenClaim := { program := "ytpfpmjdifnoeoaa", sum := "6b363b18ceb8ecb41df229cc26744172c5adebd7db0991368a4d47f4c7037811", func := "gemot/gemotlaw2.PartsTaken", spec := "partsTaken", unfollowed := true, recurses := true, apart := false, narrowed := true }
def PartsTakenUptoSaid : Prop := partsTakenUptoRow.holds Try.pinned (OpenSpec.upto partsTakenSpec)

/-- 'gemotlaw1.TermLeaves', WHERE WHAT IT READS IS OF BULK AT MOST 1048576: true; the input reads as it did. -/
def termLeavesUptoRow : OpenClaim := { program := "ytpfpmjdifnoeoaa", sum := "6b363b18ceb8ecb41df229cc26744172c5adebd7db0991368a4d47f4c7037811", func := "gemot/gemotlaw1.TermLeaves", spec := "termLeaves", inPlace := ["internal/abi.NoEscape", "internal/bytealg.MakeNoZero"], recurses := true, apart := false, narrowed := true }
def TermLeavesUptoSaid : Prop := termLeavesUptoRow.holds Try.pinned (OpenSpec.upto termLeavesSpec)

/-- 'gemotlaw1.TermNames', WHERE WHAT IT READS IS OF BULK AT MOST 1048576: true; the input reads as it did. -/
def termNamesUptoRow : OpenClaim := { program := "ytpfpmjdifnoeoaa", sum := "6b363b18ceb8ecb41df229cc26744172c5adebd7db0991368a4d47f4c7037811", func := "gemot/gemotlaw1.TermNames", spec := "termNames", inPlace := ["internal/abi.NoEscape", "internal/bytealg.MakeNoZero"], recurses := true, apart := false, narrowed := true }
def TermNamesUptoSaid : Prop := termNamesUptoRow.holds Try.pinned (OpenSpec.upto termNamesSpec)

/-- 'gemotlaw1.TermMakes', WHERE WHAT IT READS IS OF BULK AT MOST 1048576: true; the input reads as it did. -/
def termMakesUptoRow : OpenClaim := { program := "ytpfpmjdifnoeoaa", sum := "6b363b18ceb8ecb41df229cc26744172c5adebd7db0991368a4d47f4c7037811", func := "gemot/gemotlaw1.TermMakes", spec := "termMakes", inPlace := ["internal/abi.NoEscape", "internal/bytealg.MakeNoZero"], recurses := true, apart := false, narrowed := true }
def TermMakesUptoSaid : Prop := termMakesUptoRow.holds Try.pinned (OpenSpec.upto termMakesSpec)

/-- 'gemotlaw1.TermCuts', WHERE WHAT IT READS IS OF BULK AT MOST 1048576: true; the input reads as it did. -/
def termCutsUptoRow : OpenClaim := { program := "ytpfpmjdifnoeoaa", sum := "6b363b18ceb8ecb41df229cc26744172c5adebd7db0991368a4d47f4c7037811", func := "gemot/gemotlaw1.TermCuts", spec := "termCuts", inPlace := ["internal/abi.NoEscape", "internal/bytealg.MakeNoZero"], recurses := true, apart := false, narrowed := true }
def TermCutsUptoSaid : Prop := termCutsUptoRow.holds Try.pinned (OpenSpec.upto termCutsSpec)

/-- 'gemotlaw1.TermSeals', WHERE WHAT IT READS IS OF BULK AT MOST 1048576: true; the input reads as it did. -/
def termSealsUptoRow : OpenClaim := { program := "ytpfpmjdifnoeoaa", sum := "6b363b18ceb8ecb41df229cc26744172c5adebd7db0991368a4d47f4c7037811", func := "gemot/gemotlaw1.TermSeals", spec := "termSeals", inPlace := ["internal/abi.NoEscape", "internal/bytealg.MakeNoZero"], recurses := true, apart := false, narrowed := true }
def TermSealsUptoSaid : Prop := termSealsUptoRow.holds Try.pinned (OpenSpec.upto termSealsSpec)

/-- 'gemotlaw1.TermTakesAll', WHERE WHAT IT READS IS OF BULK AT MOST 1048576: true; the input reads as it did. -/
def termTakesAllUptoRow : OpenClaim := { program := "ytpfpmjdifnoeoaa", sum := "6b363b18ceb8ecb41df229cc26744172c5adebd7db0991368a4d47f4c7037811", func := "gemot/gemotlaw1.TermTakesAll", spec := "termTakesAll", inPlace := ["internal/abi.NoEscape", "internal/bytealg.MakeNoZero"], recurses := true, apart := false, narrowed := true }
def TermTakesAllUptoSaid : Prop := termTakesAllUptoRow.holds Try.pinned (OpenSpec.upto termTakesAllSpec)

/-- 'gemotlaw1.TermBack', WHERE WHAT IT READS IS OF BULK AT MOST 1048576: true; the input reads as it did. -/
def termBackUptoRow : OpenClaim := { program := "ytpfpmjdifnoeoaa", sum := "6b363b18ceb8ecb41df229cc26744172c5adebd7db0991368a4d47f4c7037811", func := "gemot/gemotlaw1.TermBack", spec := "termBack", inPlace := ["internal/abi.NoEscape", "internal/bytealg.MakeNoZero"], recurses := true, apart := false, narrowed := true }
def TermBackUptoSaid : Prop := termBackUptoRow.holds Try.pinned (OpenSpec.upto termBackSpec)

/-- 'gemotlaw1.TermTurns', WHERE WHAT IT READS IS OF BULK AT MOST 1048576: true; the input reads as it did. -/
def termTurnsUptoRow : OpenClaim := { program := "ytpfpmjdifnoeoaa", sum := "6b363b18ceb8ecb41df229cc26744172c5adebd7db0991368a4d47f4c7037811", func := "gemot/gemotlaw1.TermTurns", spec := "termTurns", inPlace := ["internal/abi.NoEscape", "internal/bytealg.MakeNoZero"], recurses := true, apart := false, narrowed := true }
def TermTurnsUptoSaid : Prop := termTurnsUptoRow.holds Try.pinned (OpenSpec.upto termTurnsSpec)

/-- 'gemotlaw1.TermParts', WHERE WHAT IT READS IS OF BULK AT MOST 1048576: true; the input reads as it did. -/
def termPartsUptoRow : OpenClaim := { program := "ytpfpmjdifnoeoaa", sum := "6b363b18ceb8ecb41df229cc26744172c5adebd7db0991368a4d47f4c7037811", func := "gemot/gemotlaw1.TermParts", spec := "termParts", inPlace := ["internal/abi.NoEscape", "internal/bytealg.MakeNoZero"], recurses := true, apart := false, narrowed := true }
def TermPartsUptoSaid : Prop := termPartsUptoRow.holds Try.pinned (OpenSpec.upto termPartsSpec)

/-- 'gemotlaw4.ListJoins', WHERE WHAT IT READS IS OF BULK AT MOST 1048576: true; the input reads as it did. -/
def listJoinsUptoRow : OpenClaim := { program := "ytpfpmjdifnoeoaa", sum := "6b363b18ceb8ecb41df229cc26744172c5adebd7db0991368a4d47f4c7037811", func := "gemot/gemotlaw4.ListJoins", spec := "listJoins", inPlace := ["internal/abi.NoEscape", "internal/bytealg.MakeNoZero"], unfollowed := true, recurses := true, apart := false, narrowed := true }
def ListJoinsUptoSaid : Prop := listJoinsUptoRow.holds Try.pinned (OpenSpec.upto listJoinsSpec)

/-- 'gemotlaw2.PartsPowers', WHERE WHAT IT READS IS OF BULK AT MOST 1048576: true; the input reads as it did. -/
def partsPowersUptoRow : OpenClaim := { program := "ytpfpmjdifnoeoaa", sum := "6b363b18ceb8ecb41df229cc26744172c5adebd7db0991368a4d47f4c7037811", func := "gemot/gemotlaw2.PartsPowers", spec := "partsPowers", inPlace := ["internal/abi.NoEscape", "internal/bytealg.MakeNoZero"], unfollowed := true, recurses := true, apart := false, narrowed := true }
def PartsPowersUptoSaid : Prop := partsPowersUptoRow.holds Try.pinned (OpenSpec.upto partsPowersSpec)

/-- 'gemotlaw2.PartsValues', WHERE WHAT IT READS IS OF BULK AT MOST 1048576: true; the input reads as it did. -/
def partsValuesUptoRow : OpenClaim := { program := "ytpfpmjdifnoeoaa", sum := "6b363b18ceb8ecb41df229cc26744172c5adebd7db0991368a4d47f4c7037811", func := "gemot/gemotlaw2.PartsValues", spec := "partsValues", inPlace := ["internal/abi.NoEscape", "internal/bytealg.MakeNoZero"], unfollowed := true, recurses := true, apart := false, narrowed := true }
def PartsValuesUptoSaid : Prop := partsValuesUptoRow.holds Try.pinned (OpenSpec.upto partsValuesSpec)

/-- 'gemotlaw2.PartsBack', WHERE WHAT IT READS IS OF BULK AT MOST 1048576: true; the input reads as it did. -/
def partsBackUptoRow : OpenClaim := { program := "ytpfpmjdifnoeoaa", sum := "6b363b18ceb8ecb41df229cc26744172c5adebd7db0991368a4d47f4c7037811", func := "gemot/gemotlaw2.PartsBack", spec := "partsBack", inPlace := ["internal/abi.NoEscape", "internal/bytealg.MakeNoZero"], unfollowed := true, recurses := true, apart := false, narrowed := true }
def PartsBackUptoSaid : Prop := partsBackUptoRow.holds Try.pinned (OpenSpec.upto partsBackSpec)

/-- 'gemotlaw2.PartsAll', WHERE WHAT IT READS IS OF BULK AT MOST 1048576: true; the input reads as it did. -/
def partsAllUptoRow : OpenClaim := { program := "ytpfpmjdifnoeoaa", sum := "6b363b18ceb8ecb41df229cc26744172c5adebd7db0991368a4d47f4c7037811", func := "gemot/gemotlaw2.PartsAll", spec := "partsAll", inPlace := ["internal/abi.NoEscape", "internal/bytealg.MakeNoZero"], unfollowed := true, recurses := true, apart := false, narrowed := true }
def PartsAllUptoSaid : Prop := partsAllUptoRow.holds Try.pinned (OpenSpec.upto partsAllSpec)

/-- 'gemotlaw2.PartsKeys', WHERE WHAT IT READS IS OF BULK AT MOST 1048576: true; the input reads as it did. -/
def partsKeysUptoRow : OpenClaim := { program := "ytpfpmjdifnoeoaa", sum := "6b363b18ceb8ecb41df229cc26744172c5adebd7db0991368a4d47f4c7037811", func := "gemot/gemotlaw2.PartsKeys", spec := "partsKeys", inPlace := ["internal/abi.NoEscape", "internal/bytealg.MakeNoZero"], unfollowed := true, recurses := true, apart := false, narrowed := true }
def PartsKeysUptoSaid : Prop := partsKeysUptoRow.holds Try.pinned (OpenSpec.upto partsKeysSpec)

/-- 'gemotlaw4.ListCuts', WHERE WHAT IT READS IS OF BULK AT MOST 1048576: true; the input reads as it did. -/
def listCutsUptoRow : OpenClaim := { program := "ytpfpmjdifnoeoaa", sum := "6b363b18ceb8ecb41df229cc26744172c5adebd7db0991368a4d47f4c7037811", func := "gemot/gemotlaw4.ListCuts", spec := "listCuts", inPlace := ["internal/abi.NoEscape", "internal/bytealg.MakeNoZero"], unfollowed := true, recurses := true, apart := false, narrowed := true }
def ListCutsUptoSaid : Prop := listCutsUptoRow.holds Try.pinned (OpenSpec.upto listCutsSpec)

/-- 'gemotlaw4.ListBack', WHERE WHAT IT READS IS OF BULK AT MOST 1048576: true; the input reads as it did. -/
def listBackUptoRow : OpenClaim := { program := "ytpfpmjdifnoeoaa", sum := "6b363b18ceb8ecb41df229cc26744172c5adebd7db0991368a4d47f4c7037811", func := "gemot/gemotlaw4.ListBack", spec := "listBack", inPlace := ["internal/abi.NoEscape", "internal/bytealg.MakeNoZero"], unfollowed := true, recurses := true, apart := false, narrowed := true }
def ListBackUptoSaid : Prop := listBackUptoRow.holds Try.pinned (OpenSpec.upto listBackSpec)

/-- 'gemotlaw3.KnowPowers', WHERE WHAT IT READS IS OF BULK AT MOST 1048576: true; the input reads as it did. -/
def knowPowersUptoRow : OpenClaim := { program := "ytpfpmjdifnoeoaa", sum := "6b363b18ceb8ecb41df229cc26744172c5adebd7db0991368a4d47f4c7037811", func := "gemot/gemotlaw3.KnowPowers", spec := "knowPowers", inPlace := ["internal/abi.NoEscape", "internal/bytealg.MakeNoZero"], unfollowed := true, recurses := true, apart := false, narrowed := true }
def KnowPowersUptoSaid : Prop := knowPowersUptoRow.holds Try.pinned (OpenSpec.upto knowPowersSpec)

/-- 'gemotlaw3.KnowSeals', WHERE WHAT IT READS IS OF BULK AT MOST 1048576: true; the input reads as it did. -/
def knowSealsUptoRow : OpenClaim := { program := "ytpfpmjdifnoeoaa", sum := "6b363b18ceb8ecb41df229cc26744172c5adebd7db0991368a4d47f4c7037811", func := "gemot/gemotlaw3.KnowSeals", spec := "knowSeals", inPlace := ["internal/abi.NoEscape", "internal/bytealg.MakeNoZero"], unfollowed := true, recurses := true, apart := false, narrowed := true }
def KnowSealsUptoSaid : Prop := knowSealsUptoRow.holds Try.pinned (OpenSpec.upto knowSealsSpec)

/-- 'gemotlaw3.KnowSecret', WHERE WHAT IT READS IS OF BULK AT MOST 1048576: true; the input reads as it did. -/
def knowSecretUptoRow : OpenClaim := { program := "ytpfpmjdifnoeoaa", sum := "6b363b18ceb8ecb41df229cc26744172c5adebd7db0991368a4d47f4c7037811", func := "gemot/gemotlaw3.KnowSecret", spec := "knowSecret", inPlace := ["internal/abi.NoEscape", "internal/bytealg.MakeNoZero"], unfollowed := true, recurses := true, apart := false, narrowed := true }
def KnowSecretUptoSaid : Prop := knowSecretUptoRow.holds Try.pinned (OpenSpec.upto knowSecretSpec)

/-- 'gemotlaw3.KnowPublic', WHERE WHAT IT READS IS OF BULK AT MOST 1048576: true; the input reads as it did. -/
def knowPublicUptoRow : OpenClaim := { program := "ytpfpmjdifnoeoaa", sum := "6b363b18ceb8ecb41df229cc26744172c5adebd7db0991368a4d47f4c7037811", func := "gemot/gemotlaw3.KnowPublic", spec := "knowPublic", inPlace := ["internal/abi.NoEscape", "internal/bytealg.MakeNoZero"], unfollowed := true, recurses := true, apart := false, narrowed := true }
def KnowPublicUptoSaid : Prop := knowPublicUptoRow.holds Try.pinned (OpenSpec.upto knowPublicSpec)

/-- 'gemotlaw17.SealHides', WHERE WHAT IT READS IS OF BULK AT MOST 1048576: true; the input reads as it did. -/
def sealHidesUptoRow : OpenClaim := { program := "ytpfpmjdifnoeoaa", sum := "6b363b18ceb8ecb41df229cc26744172c5adebd7db0991368a4d47f4c7037811", func := "gemot/gemotlaw17.SealHides", spec := "sealHides", unfollowed := true, recurses := true, apart := false, narrowed := true }
def SealHidesUptoSaid : Prop := sealHidesUptoRow.holds Try.pinned (OpenSpec.upto sealHidesSpec)

end Rows
end Go.Proofs.Ytpfpmjdifnoeoaa
