/- The law gemot/gemotlaw13.TreeMerges: for every input it returns true, and the input reads behind the call as it read before; no condition. -/
import Derived.LaidMore
import Derived.Stop.Joined
import Derived.Test.YtiofobdmkkbmlaaDoorRows
import Derived.Test.YtiofobdmkkbmlaaDoorF4
import Derived.Test.YtiofobdmkkbmlaaDoorRowOpen
import Derived.Test.YtiofobdmkkbmlaaDoorRowFacts
import Derived.Test.YtiofobdmkkbmlaaDoorPureTreeMerges
import Derived.WalkKit
import Derived.ProofKit
import Derived.OpenShut
import Derived.ShutString
import Derived.ChangeOld
import Derived.Below
import Derived.SizedLaws
import Derived.Carry
import Derived.WideShapes
namespace Go.Proofs.YtiofobdmkkbmlaaDoor.treeMerges
open Go.ChangeShapes Go.WideShapes Go.ChangeAt Go.RowKit Go.Proofs.YtiofobdmkkbmlaaDoor.F Go.Proofs.YtiofobdmkkbmlaaDoorW.PrintWords Go.Proofs.YtiofobdmkkbmlaaDoorW.PrintLast Go.Proofs.YtiofobdmkkbmlaaDoorW.PrintMore
open Go.ChangeMaps (open_string shut_string)
set_option linter.unusedVariables false
set_option linter.unusedSimpArgs false
theorem own : ownKnob Tryd.prog.godebug = none := by kernel_rfl
theorem laidOut : laidOutB Tryd.prog = true := by kernel_rfl
theorem door_met (os : Os) (args : Array Value) : laidMetH Tryd.prog Rows.treeMergesRow.laid ((World.doorLaid Tryd.prog 24 os).forCall (fun _ _ => 0) ⟨#[], args, []⟩).memory :=
  laidMetH_of_parts3 (fuel := 8) (laidMet_of_run' 8 (by kernel_rfl) (by kernel_rfl)) (by kernel_rfl) (by kernel_rfl)
set_option maxRecDepth 100000 in
theorem lifted (os : Os) (started : os.Started) (H : Type) (enc : TypeId × Value → H) :
    ReturnsInHanded {} Tryd.checked os 4 .any (fun w args => (Rows.treeMergesSpec.pre enc Tryd.prog Tryd.f4 Rows.treeMergesRow.domain false w args ∧ laidMetH Tryd.prog Rows.treeMergesRow.laid w) ∧ sizedMet enc Tryd.prog Tryd.f4 (OpenSpec.ofChange Rows.treeMergesSpec) false w args) (Rows.treeMergesSpec.post enc Tryd.prog Tryd.f4 false true false false) := by
  refine returnsInHanded_of_change_and (C := Tryd.checked) (X := fun w _ => laidMetH Tryd.prog Rows.treeMergesRow.laid w) (fun _ _ _ hh h => h.of_heap hh) own started (by kernel_rfl) Tryd.func4
    (ChangeSpec.witness_shaped (enc := enc) (C := Tryd.checked) (os := os) (X := fun w _ => laidMetH Tryd.prog Rows.treeMergesRow.laid w) false (World.doorLaid Tryd.prog 24 os) #[.string ByteArray.empty, .string ByteArray.empty, .slice none 0 0] 8 rfl (World.shaped_of_RefB (by kernel_rfl) (by kernel_rfl)) (by kernel_rfl) (by kernel_rfl) (by kernel_rfl) (door_met os _)) ?_
  intro W base args ds gs before hval0 hW hcnd hsz0 hL _
  have hval : ∀ (j : Nat) t v, Tryd.f4.params[j]? = some t → args[j]? = some v → Value.okWide Tryd.prog W .any base t v := hval0
  have hW' := hW
  obtain ⟨p, q, hA0, hV, rfl, hfz, hnd⟩ := hW
  have hA : DataW.TrodAll enc Tryd.prog W 0 (fun _ => true) true Tryd.f4.params.toList args.toList ds p := hA0
  rw [Tryd.params4] at hA hval
  obtain ⟨v0, vs0, d0, ds0, p0, q0, hargs, rfl, rfl, h0, r0⟩ := trodAll_cons hA
  obtain ⟨v1, vs1, d1, ds1, p1, q1, rfl, rfl, rfl, h1, r1⟩ := trodAll_cons r0
  obtain ⟨v2, vs2, d2, ds2, p2, q2, rfl, rfl, rfl, h2, r2⟩ := trodAll_cons r1
  obtain ⟨rfl, rfl, rfl⟩ := trodAll_nil r2
  obtain rfl : args = #[v0, v1, v2] := by cases args; simp_all
  obtain ⟨rfl, rfl⟩ := trodVars_none hV
  have k0 := h0
  have lt0 : ∀ x ∈ p0, x.block < W.heap.size := by obtain ⟨m, hm⟩ := k0; exact DataW.trod_lt m _ _ _ hm
  obtain ⟨a0, rfl, _, _, w0⟩ := open_string Tryd.underlying9 (hval 0 9 v0 rfl rfl) h0
  have k1 := h1
  have lt1 : ∀ x ∈ p1, x.block < W.heap.size := by obtain ⟨m, hm⟩ := k1; exact DataW.trod_lt m _ _ _ hm
  obtain ⟨a1, rfl, _, _, w1⟩ := open_string Tryd.underlying9 (hval 1 9 v1 rfl rfl) h1
  have k2 := h2
  have lt2 : ∀ x ∈ p2, x.block < W.heap.size := by obtain ⟨m, hm⟩ := k2; exact DataW.trod_lt m _ _ _ hm
  obtain ⟨a2, len2, cap2, rfl⟩ := okWide_slice Tryd.underlying34 (hval 2 34 v2 rfl rfl)
  obtain ⟨fuel2, hf2⟩ := h2
  obtain ⟨l2, ⟨A2, c2, e2, hc2, hr2⟩, w2⟩ := (opens_slice Tryd.underlying34 (by kernel_rfl) (opens_int Tryd.underlying3)) enc W _ _ _ _ _ hf2
  simp only [Value.cells, List.cons.injEq, Value.slice.injEq, and_true] at e2
  obtain ⟨rfl, rfl, rfl⟩ := e2
  obtain ⟨k, hp⟩ := Pure.TreeMerges a0 a1 l2 w0 w1 w2
  refine (gemotlaw13_TreeMerges.calls k a0 a1 _ _ l2 true W hr2 hc2 hp).mono fun e W' he => ?_
  obtain ⟨he, hb⟩ := he
  subst he
  have bel : Below W.heap.size W W' := hb
  exact ⟨_, rfl, _, _, _, [], _, [], hW', trodAll_mk1 (shut_bool Tryd.underlying4 _), (trodAll_cons_mk (Below.trod laidOut (by kernel_rfl) (of_decide_eq_true (by kernel_rfl)) k0 bel lt0) (trodAll_cons_mk (Below.trod laidOut (by kernel_rfl) (of_decide_eq_true (by kernel_rfl)) k1 bel lt1) (trodAll_cons_mk (Below.trod laidOut (by kernel_rfl) (of_decide_eq_true (by kernel_rfl)) k2 bel lt2) trodAll_mk0))), rfl, bel.frame _, fun h => by cases h⟩
theorem j0 : (Rows.treeMergesRow.wf (OpenSpec.ofChange Rows.treeMergesSpec)) = true := by kernel_rfl
theorem j1 : (laidOutB Tryd.pinned.checked.prog) = true := rowfact_laidOut
theorem j2 : (mapsRowed Tryd.pinned.checked.prog) = true := rowfact_mapsRowed
theorem j3 : (Tryd.f4.params.all (Tryd.pinned.checked.prog.readableRec ·)) = true := by kernel_rfl
theorem j4 : (namedTie Tryd.pinned.checked.prog Rows.treeMergesRow.named Rows.treeMergesSpec.vars) = true := by kernel_rfl
theorem j5 : ((Rows.treeMergesRow.stops == [])) = true := by kernel_rfl
theorem j6 : ((Tryd.pinned.checked.prog.stops == [])) = true := by kernel_rfl
theorem j7 : ((Rows.treeMergesRow.knobs == [])) = true := by kernel_rfl
theorem j8 : ((Tryd.pinned.checked.prog.stopKnobs == [])) = true := by kernel_rfl
theorem j9 : ((Rows.treeMergesRow.inPlace == Tryd.pinned.checked.prog.inPlace 4)) = true := by kernel_rfl
theorem j10 : ((Rows.treeMergesRow.unfollowed == Tryd.pinned.checked.prog.unfollowed 4)) = true := by kernel_rfl
theorem j11 : ((Rows.treeMergesRow.recurses == Tryd.pinned.checked.prog.recurses 4)) = true := by kernel_rfl
theorem j12 : ((Rows.treeMergesRow.named == Tryd.pinned.checked.prog.varsNamed 4)) = true := by kernel_rfl
theorem j13 : ((Rows.treeMergesRow.maps == (Tryd.f4.params.toList ++ Rows.treeMergesSpec.plain.varTypes Tryd.pinned.checked.prog).any (Tryd.pinned.checked.prog.mapsRec ·))) = true := by kernel_rfl
theorem j14 : ((Rows.treeMergesRow.ifaces == (Tryd.f4.params.toList ++ Rows.treeMergesSpec.plain.varTypes Tryd.pinned.checked.prog).any (Tryd.pinned.checked.prog.ifacesRec ·))) = true := by kernel_rfl
theorem j15 : ((Rows.treeMergesRow.mapsOut == Tryd.pinned.checked.prog.mapsAmong Tryd.f4.resultTypes.toList)) = true := by kernel_rfl
theorem j16 : ((Rows.treeMergesRow.loops == (Tryd.f4.params.toList ++ Rows.treeMergesSpec.plain.varTypes Tryd.pinned.checked.prog).any (Tryd.pinned.checked.prog.loopsFrom ·))) = true := by kernel_rfl
theorem j17 : ((Rows.treeMergesRow.wideKeys == (Tryd.f4.params.toList ++ Rows.treeMergesSpec.plain.varTypes Tryd.pinned.checked.prog ++ Tryd.f4.resultTypes.toList).any (Tryd.pinned.checked.prog.wideKeysFrom ·))) = true := by kernel_rfl
theorem j18 : (Rows.treeMergesSpec.vars.all (Tryd.pinned.checked.prog.varReadable ·)) = true := by kernel_rfl
theorem j19 : (Tryd.f4.resultTypes.all (fun t => Tryd.pinned.checked.prog.readableRec t && decide (t < Tryd.pinned.checked.prog.types.size))) = true := by kernel_rfl
theorem j20 : ((Rows.treeMergesRow.ifacesOut == Tryd.f4.resultTypes.toList.any (Tryd.pinned.checked.prog.ifacesRec ·))) = true := by kernel_rfl
theorem j21 : ((Rows.treeMergesRow.loopsOut == Tryd.f4.resultTypes.toList.any (Tryd.pinned.checked.prog.loopsFrom ·))) = true := by kernel_rfl
theorem j22 : ((Rows.treeMergesRow.plainKeys == Tryd.pinned.checked.prog.plainKeys)) = true := by kernel_rfl
theorem j23 : (Rows.treeMergesRow.shortTexts.isNone) = true := by kernel_rfl
theorem j24 : (Tryd.pinned.checked.prog.stopsHeard) = true := rowfact_stopsHeard
theorem j25 : (Tryd.pinned.checked.prog.mayEnter) = true := rowfact_mayEnter
theorem j26 : ((Rows.treeMergesRow.lifted == Tryd.pinned.checked.prog.liftsFinal)) = true := by rw [rowfact_lifts]; kernel_rfl
theorem j27 : ((Tryd.pinned.checked.prog.make == some Rows.treeMergesRow.make)) = true := by rw [rowfact_make]; kernel_rfl
theorem j28 : ((Rows.treeMergesRow.kinds == (if Rows.treeMergesRow.domain.isEmpty then [] else Tryd.f4.params.toList.map fun t => match Tryd.pinned.checked.prog.underlying t with | some (.int k) => some k | _ => none))) = true := by kernel_rfl
theorem j29 : ((Rows.treeMergesRow.pinned == Rows.treeMergesRow.pinnedBy)) = true := by kernel_rfl
theorem j30 : ((Rows.treeMergesRow.veiled == (Tryd.f4.params.toList ++ Rows.treeMergesSpec.plain.varTypes Tryd.pinned.checked.prog ++ Tryd.f4.resultTypes.toList).any (Tryd.pinned.checked.prog.veiledRec ·))) = true := by kernel_rfl
theorem j31 : (Rows.treeMergesRow.veiledFits Tryd.pinned.checked.prog Tryd.f4.params.toList (Tryd.f4.params.toList ++ Rows.treeMergesSpec.plain.varTypes Tryd.pinned.checked.prog ++ Tryd.f4.resultTypes.toList)) = true := by kernel_rfl
set_option maxRecDepth 100000 in
theorem closed : joinedFacts Tryd.pinned.checked.prog 4 Tryd.f4 Rows.treeMergesSpec Rows.treeMergesRow = true := gen_closed _ _ _ _ _ j0 j1 j2 j3 j4 j5 j6 j7 j8 j9 j10 j11 j12 j13 j14 j15 j16 j17 j18 j19 j20 j21 j22 j23 j24 j25 j26 j27 j28 j29 j30 j31
theorem over : Rows.treeMergesRow.holds Tryd.pinned (OpenSpec.ofChange Rows.treeMergesSpec) :=
  OpenClaim.holds_of_wide 4 Tryd.f4 rfl rfl rfl rfl rfl rfl rfl ⟨rfl, rfl, rfl, rfl, rfl⟩ rfl rfl rfl rfl rfl (by kernel_rfl) Tryd.func4 closed
    (of_decide_eq_true (by kernel_rfl)) (by unfold Func.isWrapper; first | (rw [if_pos (by decide +kernel)]; kernel_rfl) | (rw [if_neg (by decide +kernel)]; exact ⟨rfl, rfl⟩))
    (fun os started H enc _ => lifted os started H enc)
end Go.Proofs.YtiofobdmkkbmlaaDoor.treeMerges
namespace Go.Proofs.YtiofobdmkkbmlaaDoor
/-- The given statement, proved. -/
theorem treeMerges_holds : Rows.TreeMergesSaid := treeMerges.over
#print axioms treeMerges_holds
end Go.Proofs.YtiofobdmkkbmlaaDoor
