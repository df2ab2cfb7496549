/- Facts on the program alone, for all rows of the seat: what its head says; no condition. -/
import Derived.Test.YtppimpadfgldjaaRows
import Derived.JoinedOf
import Derived.KernelRfl
import Derived.RowKit
namespace Go.Proofs.Ytppimpadfgldjaa
open Go.RowKit
theorem words_cons (w r : List Char) (h : w.all (fun c => c != Char.ofNat 32) = true) : wordsSigns (w ++ Char.ofNat 32 :: r) = w :: wordsSigns r := by
  induction w with
  | nil => rfl
  | cons c w ih =>
    rw [List.all_cons, Bool.and_eq_true, bne_iff_ne] at h
    have h1 := ih h.2
    rw [List.cons_append, wordsSigns, h1]
    exact fun q => h.1 q
def headRest : List Char := ([97, 116, 32, 103, 101, 109, 111, 116, 47, 103, 101, 109, 111, 116, 108, 97, 119, 57, 46, 87, 97, 116, 99, 104, 84, 101, 108, 108, 115, 32, 103, 101, 109, 111, 116, 47, 103, 101, 109, 111, 116, 108, 97, 119, 52, 46, 76, 105, 115, 116, 78, 117, 109, 98, 101, 114, 115, 32, 103, 101, 109, 111, 116, 47, 103, 101, 109, 111, 116, 108, 97, 119, 55, 46, 76, 105, 110, 107, 84, 117, 114, 110, 101, 100, 32, 103, 101, 109, 111, 116, 47, 103, 101, 109, 111, 116, 108, 97, 119, 55, 46, 76, 105, 110, 107, 66, 111, 116, 104, 32, 103, 101, 109, 111, 116, 47, 103, 101, 109, 111, 116, 108, 97, 119, 55, 46, 76, 105, 110, 107, 78, 101, 119, 115, 32, 103, 101, 109, 111, 116, 47, 103, 101, 109, 111, 116, 108, 97, 119, 55, 46, 76, 105, 110, 107, 79, 114, 100, 101, 114, 32, 103, 101, 109, 111, 116, 47, 103, 101, 109, 111, 116, 108, 97, 119, 55, 46, 76, 105, 110, 107, 80, 108, 97, 121, 115, 32, 103, 101, 109, 111, 116, 47, 103, 101, 109, 111, 116, 108, 97, 119, 55, 46, 76, 105, 110, 107, 70, 111, 114, 103, 101, 100, 32, 103, 101, 109, 111, 116, 47, 103, 101, 109, 111, 116, 108, 97, 119, 55, 46, 76, 105, 110, 107, 82, 111, 111, 109, 32, 103, 101, 109, 111, 116, 47, 103, 101, 109, 111, 116, 108, 97, 119, 56, 46, 78, 101, 116, 80, 108, 97, 121, 115, 32, 103, 101, 109, 111, 116, 47, 103, 101, 109, 111, 116, 108, 97, 119, 56, 46, 78, 101, 116, 72, 101, 97, 114, 100, 32, 103, 101, 109, 111, 116, 47, 103, 101, 109, 111, 116, 108, 97, 119, 50, 46, 80, 97, 114, 116, 115, 65, 108, 108, 32, 103, 101, 109, 111, 116, 47, 103, 101, 109, 111, 116, 108, 97, 119, 51, 46, 75, 110, 111, 119, 80, 111, 119, 101, 114, 115, 32, 103, 101, 109, 111, 116, 47, 103, 101, 109, 111, 116, 108, 97, 119, 51, 46, 75, 110, 111, 119, 83, 101, 97, 108, 115, 32, 103, 101, 109, 111, 116, 47, 103, 101, 109, 111, 116, 108, 97, 119, 51, 46, 75, 110, 111, 119, 83, 101, 99, 114, 101, 116, 32, 103, 101, 109, 111, 116, 47, 103, 101, 109, 111, 116, 108, 97, 119, 51, 46, 75, 110, 111, 119, 80, 117, 98, 108, 105, 99, 32, 103, 101, 109, 111, 116, 47, 103, 101, 109, 111, 116, 108, 97, 119, 49, 55, 46, 83, 101, 97, 108, 72, 105, 100, 101, 115].map Char.ofNat : List Char)
theorem rowfact_order : Try.pinned.checked.prog.initOrder = String.ofList (([104, 97, 114, 110, 101, 115, 115].map Char.ofNat : List Char) ++ Char.ofNat 32 :: (([55, 51, 97, 52, 50, 53, 49, 48, 98, 51, 99, 97, 98, 54, 102, 56, 101, 48, 53, 100, 57, 100, 52, 102, 99, 51, 97, 99, 99, 56, 52, 100, 102, 102, 54, 99, 51, 48, 98, 54, 102, 50, 100, 101, 100, 101, 100, 53, 53, 54, 98, 98, 51, 56, 57, 51, 55, 50, 52, 100, 99, 55, 52, 99].map Char.ofNat : List Char) ++ Char.ofNat 32 :: (([99, 117, 116].map Char.ofNat : List Char) ++ Char.ofNat 32 :: headRest))) := by kernel_rfl
theorem rowfact_words : ∃ rest, behindMainWord (wordsSigns Try.pinned.checked.prog.initOrder.toList) = ([99, 117, 116].map Char.ofNat : List Char) :: rest := by
  rw [rowfact_order, String.toList_ofList, words_cons _ _ (by decide), words_cons _ _ (by decide), words_cons _ _ (by decide)]
  exact ⟨wordsSigns headRest, by kernel_rfl⟩
theorem gen_and {a b : Bool} (h : a = true) (k : b = true) : (a && b) = true := by rw [h, k]; rfl
theorem gen_closed (P : Program) (f : FuncId) (fn : Func) (s : ChangeSpec) (c : OpenClaim) (h0 : (c.wf (OpenSpec.ofChange s)) = true) (h1 : (laidOutB P) = true) (h2 : (mapsRowed P) = true) (h3 : (fn.params.all (P.readableRec ·)) = true) (h4 : (namedTie P c.named s.vars) = true) (h5 : ((c.stops == [])) = true) (h6 : ((P.stops == [])) = true) (h7 : ((c.knobs == [])) = true) (h8 : ((P.stopKnobs == [])) = true) (h9 : ((c.inPlace == P.inPlace f)) = true) (h10 : ((c.unfollowed == P.unfollowed f)) = true) (h11 : ((c.recurses == P.recurses f)) = true) (h12 : ((c.named == P.varsNamed f)) = true) (h13 : ((c.maps == (fn.params.toList ++ s.plain.varTypes P).any (P.mapsRec ·))) = true) (h14 : ((c.ifaces == (fn.params.toList ++ s.plain.varTypes P).any (P.ifacesRec ·))) = true) (h15 : ((c.mapsOut == P.mapsAmong fn.resultTypes.toList)) = true) (h16 : ((c.loops == (fn.params.toList ++ s.plain.varTypes P).any (P.loopsFrom ·))) = true) (h17 : ((c.wideKeys == (fn.params.toList ++ s.plain.varTypes P ++ fn.resultTypes.toList).any (P.wideKeysFrom ·))) = true) (h18 : (s.vars.all (P.varReadable ·)) = true) (h19 : (fn.resultTypes.all (fun t => P.readableRec t && decide (t < P.types.size))) = true) (h20 : ((c.ifacesOut == fn.resultTypes.toList.any (P.ifacesRec ·))) = true) (h21 : ((c.loopsOut == fn.resultTypes.toList.any (P.loopsFrom ·))) = true) (h22 : ((c.plainKeys == P.plainKeys)) = true) (h23 : (c.shortTexts.isNone) = true) (h24 : (P.stopsHeard) = true) (h25 : (P.mayEnter) = true) (h26 : ((c.lifted == P.liftsFinal)) = true) (h27 : ((P.make == some c.make)) = true) (h28 : ((c.kinds == (if c.domain.isEmpty then [] else fn.params.toList.map fun t => match P.underlying t with | some (.int k) => some k | _ => none))) = true) (h29 : ((c.pinned == c.pinnedBy)) = true) (h30 : ((c.veiled == (fn.params.toList ++ s.plain.varTypes P ++ fn.resultTypes.toList).any (P.veiledRec ·))) = true) (h31 : (c.veiledFits P fn.params.toList (fn.params.toList ++ s.plain.varTypes P ++ fn.resultTypes.toList)) = true) : joinedFacts P f fn s c = true := by
  unfold joinedFacts
  exact gen_and (gen_and (gen_and (gen_and (gen_and (gen_and (gen_and (gen_and (gen_and (gen_and (gen_and (gen_and (gen_and (gen_and (gen_and (gen_and (gen_and (gen_and (gen_and (gen_and (gen_and (gen_and (gen_and (gen_and (gen_and (gen_and (gen_and (gen_and (gen_and (gen_and (gen_and (h0) h1) h2) h3) h4) h5) h6) h7) h8) h9) h10) h11) h12) h13) h14) h15) h16) h17) h18) h19) h20) h21) h22) h23) h24) h25) h26) h27) h28) h29) h30) h31
theorem gen_strip (rest : List (List Char)) : stripLifts liftWords (([99, 117, 116].map Char.ofNat : List Char) :: rest) = ([], ([99, 117, 116].map Char.ofNat : List Char) :: rest) := by kernel_rfl
theorem gen_mayEnter (P : Program) (rest : List (List Char)) (h : behindMainWord (wordsSigns P.initOrder.toList) = ([99, 117, 116].map Char.ofNat : List Char) :: rest) (h1 : P.laysLater = false) (h2 : P.bearsReflect = false) (h3 : P.doorFits [] = true) : P.mayEnter = true := by
  unfold Program.mayEnter
  rw [h]
  simp only
  rw [gen_strip, h1, h2, h3]
  have e1 : ((([99, 117, 116].map Char.ofNat : List Char) :: rest).head? == some "cut".toList) = true := by kernel_rfl
  simp only [e1, Bool.not_false, Bool.or_true, Bool.true_and, Bool.and_true]
  have e2 : (([] : List String).contains "reflectrows" || !([] : List String).contains "leanrows") = true := by kernel_rfl
  rw [e2, Bool.or_true]
theorem gen_make (P : Program) (rest : List (List Char)) (h : behindMainWord (wordsSigns P.initOrder.toList) = ([99, 117, 116].map Char.ofNat : List Char) :: rest) : P.make = some .cut := by
  unfold Program.make
  rw [h]
  simp only
  have e1 : ((([99, 117, 116].map Char.ofNat : List Char) == "gc".toList) || (([99, 117, 116].map Char.ofNat : List Char) == "spec".toList)) = false := by kernel_rfl
  have e2 : (([99, 117, 116].map Char.ofNat : List Char) == "cut".toList) = true := by kernel_rfl
  rw [e1, e2]
  rfl
theorem gen_lifts (P : Program) (rest : List (List Char)) (h : behindMainWord (wordsSigns P.initOrder.toList) = ([99, 117, 116].map Char.ofNat : List Char) :: rest) : P.liftsFinal = false := by
  unfold Program.liftsFinal Program.headLifts
  rw [h]
  clear h
  kernel_rfl
theorem rowfact_later : Try.pinned.checked.prog.laysLater = false := by kernel_rfl
theorem rowfact_reflect : Try.pinned.checked.prog.bearsReflect = false := by kernel_rfl
theorem rowfact_door : Try.pinned.checked.prog.doorFits [] = true := by kernel_rfl
theorem rowfact_mayEnter : Try.pinned.checked.prog.mayEnter = true := by
  obtain ⟨rest, h⟩ := rowfact_words
  exact gen_mayEnter _ rest h rowfact_later rowfact_reflect rowfact_door
theorem rowfact_make : Try.pinned.checked.prog.make = some .cut := by
  obtain ⟨rest, h⟩ := rowfact_words
  exact gen_make _ rest h
theorem rowfact_lifts : Try.pinned.checked.prog.liftsFinal = false := by
  obtain ⟨rest, h⟩ := rowfact_words
  exact gen_lifts _ rest h
theorem rowfact_stopsHeard : Try.pinned.checked.prog.stopsHeard = true := by kernel_rfl
theorem rowfact_laidOut : laidOutB Try.pinned.checked.prog = true := by kernel_rfl
theorem rowfact_mapsRowed : mapsRowed Try.pinned.checked.prog = true := by kernel_rfl
end Go.Proofs.Ytppimpadfgldjaa
