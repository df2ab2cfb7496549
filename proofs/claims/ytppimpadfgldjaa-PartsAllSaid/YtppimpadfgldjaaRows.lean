/-
  No cell of these rows narrows 'for every input' (looked for: loops, veiled, ifaces, maps, wideKeys, modest, calm, conditions, laid).
  DERIVED. THE GIVEN ROWS OF THIS SEAT. 17 by the template 'for every input the law returns true; each argument reads behind the call as it read before'; 0 by the template 'total and deterministic' (their statements: YtppimpadfgldjaaTotals.lean).
  GIVEN WITH THE SEED: the statements are not yours to turn. If you find one false, say at which input.
  Laid BY PROGRAM, IN A SANDBOX (cutbox-rows.mjs): the forced cells as the released guide's own fill.sh prints them over the translation 60450a7cf26968ac… (all of the seat's roots in one cut). By AI agents, Wed Nov 11 2026. No macro, syntax, notation, axiom, sorry.
-/
import Derived.Test.YtppimpadfgldjaaChecked
import GoSem.Claim
import GoSem.ClaimJoined
import GoSem.ClaimMapViews
import Derived.JoinedTies
import Derived.KernelRfl
namespace Go.Proofs.Ytppimpadfgldjaa
/- THE CELL 'sum', in the pinned program and in every row, IS THE sha256 OF THE DUMP (.gsa) THAT YtppimpadfgldjaaProg.lean LOADS. Nothing in Lean hashes anything: it is a label: what it is worth is what the hold of that sum in a sandbox is worth. -/
noncomputable def Try.pinned : Pinned := { name := "ytppimpadfgldjaa", sum := "60450a7cf26968ac4bb96bb744ccdd727aabda3309030190404b46ef7de0b9b9", checked := Try.checked }
namespace Rows
def none {H : Type} : Left H := { results := [], args := [] }

/-- 'gemotlaw9.WatchTells': WHATEVER THE INPUT: true; the input reads as it did. -/
def watchTellsSpec : ChangeSpec := { name := "watchTells", fn := fun _ => fun
  | [d1, d2, d3] => { results := [.lit (.bool true)], args := [d1, d2, d3] }
  | _ => none }
def watchTellsRow : OpenClaim := { program := "ytppimpadfgldjaa", sum := "60450a7cf26968ac4bb96bb744ccdd727aabda3309030190404b46ef7de0b9b9", func := "gemot/gemotlaw9.WatchTells", spec := "watchTells", apart := false }
def WatchTellsSaid : Prop := watchTellsRow.holds Try.pinned (OpenSpec.ofChange watchTellsSpec)

/-- ITS FALSE NEIGHBOUR: 'it returns false'. Refute it at one input. -/
def watchTellsWrong : ChangeSpec := { name := "watchTells", fn := fun _ => fun
  | [d1, d2, d3] => { results := [.lit (.bool false)], args := [d1, d2, d3] }
  | _ => none }
def WatchTellsWrongFalsely : Prop := watchTellsRow.holds Try.pinned (OpenSpec.ofChange watchTellsWrong)

/-- 'gemotlaw4.ListNumbers': WHATEVER THE INPUT: true; the input reads as it did. -/
def listNumbersSpec : ChangeSpec := { name := "listNumbers", fn := fun _ => fun
  | [d1, d2, d3, d4] => { results := [.lit (.bool true)], args := [d1, d2, d3, d4] }
  | _ => none }
def listNumbersRow : OpenClaim := { program := "ytppimpadfgldjaa", sum := "60450a7cf26968ac4bb96bb744ccdd727aabda3309030190404b46ef7de0b9b9", func := "gemot/gemotlaw4.ListNumbers", spec := "listNumbers", unfollowed := true, recurses := true, apart := false }
def ListNumbersSaid : Prop := listNumbersRow.holds Try.pinned (OpenSpec.ofChange listNumbersSpec)

/-- ITS FALSE NEIGHBOUR: 'it returns false'. Refute it at one input. -/
def listNumbersWrong : ChangeSpec := { name := "listNumbers", fn := fun _ => fun
  | [d1, d2, d3, d4] => { results := [.lit (.bool false)], args := [d1, d2, d3, d4] }
  | _ => none }
def ListNumbersWrongFalsely : Prop := listNumbersRow.holds Try.pinned (OpenSpec.ofChange listNumbersWrong)

/-- 'gemotlaw7.LinkTurned': WHATEVER THE INPUT: true; the input reads as it did. -/
def linkTurnedSpec : ChangeSpec := { name := "linkTurned", fn := fun _ => fun
  | [d1, d2] => { results := [.lit (.bool true)], args := [d1, d2] }
  | _ => none }
def linkTurnedRow : OpenClaim := { program := "ytppimpadfgldjaa", sum := "60450a7cf26968ac4bb96bb744ccdd727aabda3309030190404b46ef7de0b9b9", func := "gemot/gemotlaw7.LinkTurned", spec := "linkTurned", unfollowed := true, recurses := true, apart := false }
def LinkTurnedSaid : Prop := linkTurnedRow.holds Try.pinned (OpenSpec.ofChange linkTurnedSpec)

/-- ITS FALSE NEIGHBOUR: 'it returns false'. Refute it at one input. -/
def linkTurnedWrong : ChangeSpec := { name := "linkTurned", fn := fun _ => fun
  | [d1, d2] => { results := [.lit (.bool false)], args := [d1, d2] }
  | _ => none }
def LinkTurnedWrongFalsely : Prop := linkTurnedRow.holds Try.pinned (OpenSpec.ofChange linkTurnedWrong)

/-- 'gemotlaw7.LinkBoth': WHATEVER THE INPUT: true; the input reads as it did. -/
def linkBothSpec : ChangeSpec := { name := "linkBoth", fn := fun _ => fun
  | [d] => { results := [.lit (.bool true)], args := [d] }
  | _ => none }
def linkBothRow : OpenClaim := { program := "ytppimpadfgldjaa", sum := "60450a7cf26968ac4bb96bb744ccdd727aabda3309030190404b46ef7de0b9b9", func := "gemot/gemotlaw7.LinkBoth", spec := "linkBoth", unfollowed := true, recurses := true, apart := false }
def LinkBothSaid : Prop := linkBothRow.holds Try.pinned (OpenSpec.ofChange linkBothSpec)

/-- ITS FALSE NEIGHBOUR: 'it returns false'. Refute it at one input. -/
def linkBothWrong : ChangeSpec := { name := "linkBoth", fn := fun _ => fun
  | [d] => { results := [.lit (.bool false)], args := [d] }
  | _ => none }
def LinkBothWrongFalsely : Prop := linkBothRow.holds Try.pinned (OpenSpec.ofChange linkBothWrong)

/-- 'gemotlaw7.LinkNews': WHATEVER THE INPUT: true; the input reads as it did. -/
def linkNewsSpec : ChangeSpec := { name := "linkNews", fn := fun _ => fun
  | [d1, d2, d3] => { results := [.lit (.bool true)], args := [d1, d2, d3] }
  | _ => none }
def linkNewsRow : OpenClaim := { program := "ytppimpadfgldjaa", sum := "60450a7cf26968ac4bb96bb744ccdd727aabda3309030190404b46ef7de0b9b9", func := "gemot/gemotlaw7.LinkNews", spec := "linkNews", unfollowed := true, recurses := true, apart := false }
def LinkNewsSaid : Prop := linkNewsRow.holds Try.pinned (OpenSpec.ofChange linkNewsSpec)

/-- ITS FALSE NEIGHBOUR: 'it returns false'. Refute it at one input. -/
def linkNewsWrong : ChangeSpec := { name := "linkNews", fn := fun _ => fun
  | [d1, d2, d3] => { results := [.lit (.bool false)], args := [d1, d2, d3] }
  | _ => none }
def LinkNewsWrongFalsely : Prop := linkNewsRow.holds Try.pinned (OpenSpec.ofChange linkNewsWrong)

/-- 'gemotlaw7.LinkOrder': WHATEVER THE INPUT: true; the input reads as it did. -/
def linkOrderSpec : ChangeSpec := { name := "linkOrder", fn := fun _ => fun
  | [d] => { results := [.lit (.bool true)], args := [d] }
  | _ => none }
def linkOrderRow : OpenClaim := { program := "ytppimpadfgldjaa", sum := "60450a7cf26968ac4bb96bb744ccdd727aabda3309030190404b46ef7de0b9b9", func := "gemot/gemotlaw7.LinkOrder", spec := "linkOrder", unfollowed := true, recurses := true, apart := false }
def LinkOrderSaid : Prop := linkOrderRow.holds Try.pinned (OpenSpec.ofChange linkOrderSpec)

/-- ITS FALSE NEIGHBOUR: 'it returns false'. Refute it at one input. -/
def linkOrderWrong : ChangeSpec := { name := "linkOrder", fn := fun _ => fun
  | [d] => { results := [.lit (.bool false)], args := [d] }
  | _ => none }
def LinkOrderWrongFalsely : Prop := linkOrderRow.holds Try.pinned (OpenSpec.ofChange linkOrderWrong)

/-- 'gemotlaw7.LinkPlays': WHATEVER THE INPUT: true; the input reads as it did. -/
def linkPlaysSpec : ChangeSpec := { name := "linkPlays", fn := fun _ => fun
  | [d] => { results := [.lit (.bool true)], args := [d] }
  | _ => none }
def linkPlaysRow : OpenClaim := { program := "ytppimpadfgldjaa", sum := "60450a7cf26968ac4bb96bb744ccdd727aabda3309030190404b46ef7de0b9b9", func := "gemot/gemotlaw7.LinkPlays", spec := "linkPlays", unfollowed := true, recurses := true, apart := false }
def LinkPlaysSaid : Prop := linkPlaysRow.holds Try.pinned (OpenSpec.ofChange linkPlaysSpec)

/-- ITS FALSE NEIGHBOUR: 'it returns false'. Refute it at one input. -/
def linkPlaysWrong : ChangeSpec := { name := "linkPlays", fn := fun _ => fun
  | [d] => { results := [.lit (.bool false)], args := [d] }
  | _ => none }
def LinkPlaysWrongFalsely : Prop := linkPlaysRow.holds Try.pinned (OpenSpec.ofChange linkPlaysWrong)

/-- 'gemotlaw7.LinkForged': WHATEVER THE INPUT: true; the input reads as it did. -/
def linkForgedSpec : ChangeSpec := { name := "linkForged", fn := fun _ => fun
  | [d1, d2, d3, d4, d5, d6] => { results := [.lit (.bool true)], args := [d1, d2, d3, d4, d5, d6] }
  | _ => none }
def linkForgedRow : OpenClaim := { program := "ytppimpadfgldjaa", sum := "60450a7cf26968ac4bb96bb744ccdd727aabda3309030190404b46ef7de0b9b9", func := "gemot/gemotlaw7.LinkForged", spec := "linkForged", unfollowed := true, recurses := true, apart := false }
def LinkForgedSaid : Prop := linkForgedRow.holds Try.pinned (OpenSpec.ofChange linkForgedSpec)

/-- ITS FALSE NEIGHBOUR: 'it returns false'. Refute it at one input. -/
def linkForgedWrong : ChangeSpec := { name := "linkForged", fn := fun _ => fun
  | [d1, d2, d3, d4, d5, d6] => { results := [.lit (.bool false)], args := [d1, d2, d3, d4, d5, d6] }
  | _ => none }
def LinkForgedWrongFalsely : Prop := linkForgedRow.holds Try.pinned (OpenSpec.ofChange linkForgedWrong)

/-- 'gemotlaw7.LinkRoom': WHATEVER THE INPUT: true; the input reads as it did. -/
def linkRoomSpec : ChangeSpec := { name := "linkRoom", fn := fun _ => fun
  | [d1, d2] => { results := [.lit (.bool true)], args := [d1, d2] }
  | _ => none }
def linkRoomRow : OpenClaim := { program := "ytppimpadfgldjaa", sum := "60450a7cf26968ac4bb96bb744ccdd727aabda3309030190404b46ef7de0b9b9", func := "gemot/gemotlaw7.LinkRoom", spec := "linkRoom", unfollowed := true, recurses := true, apart := false }
def LinkRoomSaid : Prop := linkRoomRow.holds Try.pinned (OpenSpec.ofChange linkRoomSpec)

/-- ITS FALSE NEIGHBOUR: 'it returns false'. Refute it at one input. -/
def linkRoomWrong : ChangeSpec := { name := "linkRoom", fn := fun _ => fun
  | [d1, d2] => { results := [.lit (.bool false)], args := [d1, d2] }
  | _ => none }
def LinkRoomWrongFalsely : Prop := linkRoomRow.holds Try.pinned (OpenSpec.ofChange linkRoomWrong)

/-- 'gemotlaw8.NetPlays': WHATEVER THE INPUT: true; the input reads as it did. -/
def netPlaysSpec : ChangeSpec := { name := "netPlays", fn := fun _ => fun
  | [d] => { results := [.lit (.bool true)], args := [d] }
  | _ => none }
def netPlaysRow : OpenClaim := { program := "ytppimpadfgldjaa", sum := "60450a7cf26968ac4bb96bb744ccdd727aabda3309030190404b46ef7de0b9b9", func := "gemot/gemotlaw8.NetPlays", spec := "netPlays", unfollowed := true, recurses := true, apart := false }
def NetPlaysSaid : Prop := netPlaysRow.holds Try.pinned (OpenSpec.ofChange netPlaysSpec)

/-- ITS FALSE NEIGHBOUR: 'it returns false'. Refute it at one input. -/
def netPlaysWrong : ChangeSpec := { name := "netPlays", fn := fun _ => fun
  | [d] => { results := [.lit (.bool false)], args := [d] }
  | _ => none }
def NetPlaysWrongFalsely : Prop := netPlaysRow.holds Try.pinned (OpenSpec.ofChange netPlaysWrong)

/-- 'gemotlaw8.NetHeard': WHATEVER THE INPUT: true; the input reads as it did. -/
def netHeardSpec : ChangeSpec := { name := "netHeard", fn := fun _ => fun
  | [d] => { results := [.lit (.bool true)], args := [d] }
  | _ => none }
def netHeardRow : OpenClaim := { program := "ytppimpadfgldjaa", sum := "60450a7cf26968ac4bb96bb744ccdd727aabda3309030190404b46ef7de0b9b9", func := "gemot/gemotlaw8.NetHeard", spec := "netHeard", unfollowed := true, recurses := true, apart := false }
def NetHeardSaid : Prop := netHeardRow.holds Try.pinned (OpenSpec.ofChange netHeardSpec)

/-- ITS FALSE NEIGHBOUR: 'it returns false'. Refute it at one input. -/
def netHeardWrong : ChangeSpec := { name := "netHeard", fn := fun _ => fun
  | [d] => { results := [.lit (.bool false)], args := [d] }
  | _ => none }
def NetHeardWrongFalsely : Prop := netHeardRow.holds Try.pinned (OpenSpec.ofChange netHeardWrong)

/-- 'gemotlaw2.PartsAll': WHATEVER THE INPUT: true; the input reads as it did. -/
def partsAllSpec : ChangeSpec := { name := "partsAll", fn := fun _ => fun
  | [d1, d2] => { results := [.lit (.bool true)], args := [d1, d2] }
  | _ => none }
def partsAllRow : OpenClaim := { program := "ytppimpadfgldjaa", sum := "60450a7cf26968ac4bb96bb744ccdd727aabda3309030190404b46ef7de0b9b9", func := "gemot/gemotlaw2.PartsAll", spec := "partsAll", inPlace := ["internal/abi.NoEscape", "internal/bytealg.MakeNoZero"], unfollowed := true, recurses := true, apart := false }
def PartsAllSaid : Prop := partsAllRow.holds Try.pinned (OpenSpec.ofChange partsAllSpec)

/-- ITS FALSE NEIGHBOUR: 'it returns false'. Refute it at one input. -/
def partsAllWrong : ChangeSpec := { name := "partsAll", fn := fun _ => fun
  | [d1, d2] => { results := [.lit (.bool false)], args := [d1, d2] }
  | _ => none }
def PartsAllWrongFalsely : Prop := partsAllRow.holds Try.pinned (OpenSpec.ofChange partsAllWrong)

/-- 'gemotlaw3.KnowPowers': WHATEVER THE INPUT: true; the input reads as it did. -/
def knowPowersSpec : ChangeSpec := { name := "knowPowers", fn := fun _ => fun
  | [d1, d2, d3] => { results := [.lit (.bool true)], args := [d1, d2, d3] }
  | _ => none }
def knowPowersRow : OpenClaim := { program := "ytppimpadfgldjaa", sum := "60450a7cf26968ac4bb96bb744ccdd727aabda3309030190404b46ef7de0b9b9", func := "gemot/gemotlaw3.KnowPowers", spec := "knowPowers", inPlace := ["internal/abi.NoEscape", "internal/bytealg.MakeNoZero"], unfollowed := true, recurses := true, apart := false }
def KnowPowersSaid : Prop := knowPowersRow.holds Try.pinned (OpenSpec.ofChange knowPowersSpec)

/-- ITS FALSE NEIGHBOUR: 'it returns false'. Refute it at one input. -/
def knowPowersWrong : ChangeSpec := { name := "knowPowers", fn := fun _ => fun
  | [d1, d2, d3] => { results := [.lit (.bool false)], args := [d1, d2, d3] }
  | _ => none }
def KnowPowersWrongFalsely : Prop := knowPowersRow.holds Try.pinned (OpenSpec.ofChange knowPowersWrong)

/-- 'gemotlaw3.KnowSeals': WHATEVER THE INPUT: true; the input reads as it did. -/
def knowSealsSpec : ChangeSpec := { name := "knowSeals", fn := fun _ => fun
  | [d1, d2] => { results := [.lit (.bool true)], args := [d1, d2] }
  | _ => none }
def knowSealsRow : OpenClaim := { program := "ytppimpadfgldjaa", sum := "60450a7cf26968ac4bb96bb744ccdd727aabda3309030190404b46ef7de0b9b9", func := "gemot/gemotlaw3.KnowSeals", spec := "knowSeals", inPlace := ["internal/abi.NoEscape", "internal/bytealg.MakeNoZero"], unfollowed := true, recurses := true, apart := false }
def KnowSealsSaid : Prop := knowSealsRow.holds Try.pinned (OpenSpec.ofChange knowSealsSpec)

/-- ITS FALSE NEIGHBOUR: 'it returns false'. Refute it at one input. -/
def knowSealsWrong : ChangeSpec := { name := "knowSeals", fn := fun _ => fun
  | [d1, d2] => { results := [.lit (.bool false)], args := [d1, d2] }
  | _ => none }
def KnowSealsWrongFalsely : Prop := knowSealsRow.holds Try.pinned (OpenSpec.ofChange knowSealsWrong)

/-- 'gemotlaw3.KnowSecret': WHATEVER THE INPUT: true; the input reads as it did. -/
def knowSecretSpec : ChangeSpec := { name := "knowSecret", fn := fun _ => fun
  | [d1, d2, d3] => { results := [.lit (.bool true)], args := [d1, d2, d3] }
  | _ => none }
def knowSecretRow : OpenClaim := { program := "ytppimpadfgldjaa", sum := "60450a7cf26968ac4bb96bb744ccdd727aabda3309030190404b46ef7de0b9b9", func := "gemot/gemotlaw3.KnowSecret", spec := "knowSecret", inPlace := ["internal/abi.NoEscape", "internal/bytealg.MakeNoZero"], unfollowed := true, recurses := true, apart := false }
def KnowSecretSaid : Prop := knowSecretRow.holds Try.pinned (OpenSpec.ofChange knowSecretSpec)

/-- ITS FALSE NEIGHBOUR: 'it returns false'. Refute it at one input. -/
def knowSecretWrong : ChangeSpec := { name := "knowSecret", fn := fun _ => fun
  | [d1, d2, d3] => { results := [.lit (.bool false)], args := [d1, d2, d3] }
  | _ => none }
def KnowSecretWrongFalsely : Prop := knowSecretRow.holds Try.pinned (OpenSpec.ofChange knowSecretWrong)

/-- 'gemotlaw3.KnowPublic': WHATEVER THE INPUT: true; the input reads as it did. -/
def knowPublicSpec : ChangeSpec := { name := "knowPublic", fn := fun _ => fun
  | [d1, d2] => { results := [.lit (.bool true)], args := [d1, d2] }
  | _ => none }
def knowPublicRow : OpenClaim := { program := "ytppimpadfgldjaa", sum := "60450a7cf26968ac4bb96bb744ccdd727aabda3309030190404b46ef7de0b9b9", func := "gemot/gemotlaw3.KnowPublic", spec := "knowPublic", inPlace := ["internal/abi.NoEscape", "internal/bytealg.MakeNoZero"], unfollowed := true, recurses := true, apart := false }
def KnowPublicSaid : Prop := knowPublicRow.holds Try.pinned (OpenSpec.ofChange knowPublicSpec)

/-- ITS FALSE NEIGHBOUR: 'it returns false'. Refute it at one input. -/
def knowPublicWrong : ChangeSpec := { name := "knowPublic", fn := fun _ => fun
  | [d1, d2] => { results := [.lit (.bool false)], args := [d1, d2] }
  | _ => none }
def KnowPublicWrongFalsely : Prop := knowPublicRow.holds Try.pinned (OpenSpec.ofChange knowPublicWrong)

/-- 'gemotlaw17.SealHides': WHATEVER THE INPUT: true; the input reads as it did. -/
def sealHidesSpec : ChangeSpec := { name := "sealHides", fn := fun _ => fun
  | [d1, d2, d3, d4] => { results := [.lit (.bool true)], args := [d1, d2, d3, d4] }
  | _ => none }
def sealHidesRow : OpenClaim := { program := "ytppimpadfgldjaa", sum := "60450a7cf26968ac4bb96bb744ccdd727aabda3309030190404b46ef7de0b9b9", func := "gemot/gemotlaw17.SealHides", spec := "sealHides", unfollowed := true, recurses := true, apart := false }
def SealHidesSaid : Prop := sealHidesRow.holds Try.pinned (OpenSpec.ofChange sealHidesSpec)

/-- ITS FALSE NEIGHBOUR: 'it returns false'. Refute it at one input. -/
def sealHidesWrong : ChangeSpec := { name := "sealHides", fn := fun _ => fun
  | [d1, d2, d3, d4] => { results := [.lit (.bool false)], args := [d1, d2, d3, d4] }
  | _ => none }
def SealHidesWrongFalsely : Prop := sealHidesRow.holds Try.pinned (OpenSpec.ofChange sealHidesWrong)

/- THE SECOND FORM. 'bulk': how many values and letters a reading holds, each counted each time it is reached (what is shared counts as often as it is met; a slice's spare places count too). A statement '..UptoSaid' is the law's where the arguments, and the package variables that the reading takes, are together of bulk at most 1048576: NARROWER than '..Said'. Prove '..Said' where nothing that the law and all that it calls make is longer than what came in: it says more and counts as full. Else prove '..UptoSaid'. A law counts once. -/
mutual
def uptoBulk {H : Type} : DataW H → Nat
  | .lit (.string bytes) => bytes.length + 1
  | .lit _ => 1
  | .nil => 1
  | .ptr d => uptoBulk d + 1
  | .slice elems spare => uptoBulkAll elems + uptoBulkAll spare + 1
  | .agg parts => uptoBulkAll parts + 1
  | .iface _ d => uptoBulk d + 1
  | .map entries => uptoBulkEntries entries + 1
  | .held _ => 1
def uptoBulkAll {H : Type} : List (DataW H) → Nat
  | [] => 0
  | d :: r => uptoBulk d + uptoBulkAll r
def uptoBulkEntries {H : Type} : List (Lit × DataW H) → Nat
  | [] => 0
  | x :: r => uptoBulkEntry x + uptoBulkEntries r
def uptoBulkEntry {H : Type} : Lit × DataW H → Nat
  | (.string bytes, d) => bytes.length + uptoBulk d + 1
  | (_, d) => uptoBulk d + 1
 end
def uptoSmall : (H : Type) → List (DataW H) → Bool := fun _ ds => decide (uptoBulkAll ds ≤ 1048576)
def OpenSpec.upto (s : _root_.Go.ChangeSpec) : _root_.Go.OpenSpec := { _root_.Go.OpenSpec.ofChange s with cond := some uptoSmall }

/-- 'gemotlaw9.WatchTells', WHERE WHAT IT READS IS OF BULK AT MOST 1048576: true; the input reads as it did. -/
def watchTellsUptoRow : OpenClaim := { program := "ytppimpadfgldjaa", sum := "60450a7cf26968ac4bb96bb744ccdd727aabda3309030190404b46ef7de0b9b9", func := "gemot/gemotlaw9.WatchTells", spec := "watchTells", apart := false, narrowed := true }
def WatchTellsUptoSaid : Prop := watchTellsUptoRow.holds Try.pinned (OpenSpec.upto watchTellsSpec)

/-- 'gemotlaw4.ListNumbers', WHERE WHAT IT READS IS OF BULK AT MOST 1048576: true; the input reads as it did. -/
def listNumbersUptoRow : OpenClaim := { program := "ytppimpadfgldjaa", sum := "60450a7cf26968ac4bb96bb744ccdd727aabda3309030190404b46ef7de0b9b9", func := "gemot/gemotlaw4.ListNumbers", spec := "listNumbers", unfollowed := true, recurses := true, apart := false, narrowed := true }
def ListNumbersUptoSaid : Prop := listNumbersUptoRow.holds Try.pinned (OpenSpec.upto listNumbersSpec)

/-- 'gemotlaw7.LinkTurned', WHERE WHAT IT READS IS OF BULK AT MOST 1048576: true; the input reads as it did. -/
def linkTurnedUptoRow : OpenClaim := { program := "ytppimpadfgldjaa", sum := "60450a7cf26968ac4bb96bb744ccdd727aabda3309030190404b46ef7de0b9b9", func := "gemot/gemotlaw7.LinkTurned", spec := "linkTurned", unfollowed := true, recurses := true, apart := false, narrowed := true }
def LinkTurnedUptoSaid : Prop := linkTurnedUptoRow.holds Try.pinned (OpenSpec.upto linkTurnedSpec)

/-- 'gemotlaw7.LinkBoth', WHERE WHAT IT READS IS OF BULK AT MOST 1048576: true; the input reads as it did. -/
def linkBothUptoRow : OpenClaim := { program := "ytppimpadfgldjaa", sum := "60450a7cf26968ac4bb96bb744ccdd727aabda3309030190404b46ef7de0b9b9", func := "gemot/gemotlaw7.LinkBoth", spec := "linkBoth", unfollowed := true, recurses := true, apart := false, narrowed := true }
def LinkBothUptoSaid : Prop := linkBothUptoRow.holds Try.pinned (OpenSpec.upto linkBothSpec)

/-- 'gemotlaw7.LinkNews', WHERE WHAT IT READS IS OF BULK AT MOST 1048576: true; the input reads as it did. -/
def linkNewsUptoRow : OpenClaim := { program := "ytppimpadfgldjaa", sum := "60450a7cf26968ac4bb96bb744ccdd727aabda3309030190404b46ef7de0b9b9", func := "gemot/gemotlaw7.LinkNews", spec := "linkNews", unfollowed := true, recurses := true, apart := false, narrowed := true }
def LinkNewsUptoSaid : Prop := linkNewsUptoRow.holds Try.pinned (OpenSpec.upto linkNewsSpec)

/-- 'gemotlaw7.LinkOrder', WHERE WHAT IT READS IS OF BULK AT MOST 1048576: true; the input reads as it did. -/
def linkOrderUptoRow : OpenClaim := { program := "ytppimpadfgldjaa", sum := "60450a7cf26968ac4bb96bb744ccdd727aabda3309030190404b46ef7de0b9b9", func := "gemot/gemotlaw7.LinkOrder", spec := "linkOrder", unfollowed := true, recurses := true, apart := false, narrowed := true }
def LinkOrderUptoSaid : Prop := linkOrderUptoRow.holds Try.pinned (OpenSpec.upto linkOrderSpec)

/-- 'gemotlaw7.LinkPlays', WHERE WHAT IT READS IS OF BULK AT MOST 1048576: true; the input reads as it did. -/
def linkPlaysUptoRow : OpenClaim := { program := "ytppimpadfgldjaa", sum := "60450a7cf26968ac4bb96bb744ccdd727aabda3309030190404b46ef7de0b9b9", func := "gemot/gemotlaw7.LinkPlays", spec := "linkPlays", unfollowed := true, recurses := true, apart := false, narrowed := true }
def LinkPlaysUptoSaid : Prop := linkPlaysUptoRow.holds Try.pinned (OpenSpec.upto linkPlaysSpec)

/-- 'gemotlaw7.LinkForged', WHERE WHAT IT READS IS OF BULK AT MOST 1048576: true; the input reads as it did. -/
def linkForgedUptoRow : OpenClaim := { program := "ytppimpadfgldjaa", sum := "60450a7cf26968ac4bb96bb744ccdd727aabda3309030190404b46ef7de0b9b9", func := "gemot/gemotlaw7.LinkForged", spec := "linkForged", unfollowed := true, recurses := true, apart := false, narrowed := true }
def LinkForgedUptoSaid : Prop := linkForgedUptoRow.holds Try.pinned (OpenSpec.upto linkForgedSpec)

/-- 'gemotlaw7.LinkRoom', WHERE WHAT IT READS IS OF BULK AT MOST 1048576: true; the input reads as it did. -/
def linkRoomUptoRow : OpenClaim := { program := "ytppimpadfgldjaa", sum := "60450a7cf26968ac4bb96bb744ccdd727aabda3309030190404b46ef7de0b9b9", func := "gemot/gemotlaw7.LinkRoom", spec := "linkRoom", unfollowed := true, recurses := true, apart := false, narrowed := true }
def LinkRoomUptoSaid : Prop := linkRoomUptoRow.holds Try.pinned (OpenSpec.upto linkRoomSpec)

/-- 'gemotlaw8.NetPlays', WHERE WHAT IT READS IS OF BULK AT MOST 1048576: true; the input reads as it did. -/
def netPlaysUptoRow : OpenClaim := { program := "ytppimpadfgldjaa", sum := "60450a7cf26968ac4bb96bb744ccdd727aabda3309030190404b46ef7de0b9b9", func := "gemot/gemotlaw8.NetPlays", spec := "netPlays", unfollowed := true, recurses := true, apart := false, narrowed := true }
def NetPlaysUptoSaid : Prop := netPlaysUptoRow.holds Try.pinned (OpenSpec.upto netPlaysSpec)

/-- 'gemotlaw8.NetHeard', WHERE WHAT IT READS IS OF BULK AT MOST 1048576: true; the input reads as it did. -/
def netHeardUptoRow : OpenClaim := { program := "ytppimpadfgldjaa", sum := "60450a7cf26968ac4bb96bb744ccdd727aabda3309030190404b46ef7de0b9b9", func := "gemot/gemotlaw8.NetHeard", spec := "netHeard", unfollowed := true, recurses := true, apart := false, narrowed := true }
def NetHeardUptoSaid : Prop := netHeardUptoRow.holds Try.pinned (OpenSpec.upto netHeardSpec)

/-- 'gemotlaw2.PartsAll', WHERE WHAT IT READS IS OF BULK AT MOST 1048576: true; the input reads as it did. -/
def partsAllUptoRow : OpenClaim := { program := "ytppimpadfgldjaa", sum := "60450a7cf26968ac4bb96bb744ccdd727aabda3309030190404b46ef7de0b9b9", func := "gemot/gemotlaw2.PartsAll", spec := "partsAll", inPlace := ["internal/abi.NoEscape", "internal/bytealg.MakeNoZero"], unfollowed := true, recurses := true, apart := false, narrowed := true }
def PartsAllUptoSaid : Prop := partsAllUptoRow.holds Try.pinned (OpenSpec.upto partsAllSpec)

/-- 'gemotlaw3.KnowPowers', WHERE WHAT IT READS IS OF BULK AT MOST 1048576: true; the input reads as it did. -/
def knowPowersUptoRow : OpenClaim := { program := "ytppimpadfgldjaa", sum := "60450a7cf26968ac4bb96bb744ccdd727aabda3309030190404b46ef7de0b9b9", func := "gemot/gemotlaw3.KnowPowers", spec := "knowPowers", inPlace := ["internal/abi.NoEscape", "internal/bytealg.MakeNoZero"], unfollowed := true, recurses := true, apart := false, narrowed := true }
def KnowPowersUptoSaid : Prop := knowPowersUptoRow.holds Try.pinned (OpenSpec.upto knowPowersSpec)

/-- 'gemotlaw3.KnowSeals', WHERE WHAT IT READS IS OF BULK AT MOST 1048576: true; the input reads as it did. -/
def knowSealsUptoRow : OpenClaim := { program := "ytppimpadfgldjaa", sum := "60450a7cf26968ac4bb96bb744ccdd727aabda3309030190404b46ef7de0b9b9", func := "gemot/gemotlaw3.KnowSeals", spec := "knowSeals", inPlace := ["internal/abi.NoEscape", "internal/bytealg.MakeNoZero"], unfollowed := true, recurses := true, apart := false, narrowed := true }
def KnowSealsUptoSaid : Prop := knowSealsUptoRow.holds Try.pinned (OpenSpec.upto knowSealsSpec)

/-- 'gemotlaw3.KnowSecret', WHERE WHAT IT READS IS OF BULK AT MOST 1048576: true; the input reads as it did. -/
def knowSecretUptoRow : OpenClaim := { program := "ytppimpadfgldjaa", sum := "60450a7cf26968ac4bb96bb744ccdd727aabda3309030190404b46ef7de0b9b9", func := "gemot/gemotlaw3.KnowSecret", spec := "knowSecret", inPlace := ["internal/abi.NoEscape", "internal/bytealg.MakeNoZero"], unfollowed := true, recurses := true, apart := false, narrowed := true }
def KnowSecretUptoSaid : Prop := knowSecretUptoRow.holds Try.pinned (OpenSpec.upto knowSecretSpec)

/-- 'gemotlaw3.KnowPublic', WHERE WHAT IT READS IS OF BULK AT MOST 1048576: true; the input reads as it did. -/
def knowPublicUptoRow : OpenClaim := { program := "ytppimpadfgldjaa", sum := "60450a7cf26968ac4bb96bb744ccdd727aabda3309030190404b46ef7de0b9b9", func := "gemot/gemotlaw3.KnowPublic", spec := "knowPublic", inPlace := ["internal/abi.NoEscape", "internal/bytealg.MakeNoZero"], unfollowed := true, recurses := true, apart := false, narrowed := true }
def KnowPublicUptoSaid : Prop := knowPublicUptoRow.holds Try.pinned (OpenSpec.upto knowPublicSpec)

/-- 'gemotlaw17.SealHides', WHERE WHAT IT READS IS OF BULK AT MOST 1048576: true; the input reads as it did. -/
def sealHidesUptoRow : OpenClaim := { program := "ytppimpadfgldjaa", sum := "60450a7cf26968ac4bb96bb744ccdd727aabda3309030190404b46ef7de0b9b9", func := "gemot/gemotlaw17.SealHides", spec := "sealHides", unfollowed := true, recurses := true, apart := false, narrowed := true }
def SealHidesUptoSaid : Prop := sealHidesUptoRow.holds Try.pinned (OpenSpec.upto sealHidesSpec)

end Rows
end Go.Proofs.Ytppimpadfgldjaa
