/- The law gemot/gemotlaw2.PartsTaken: for every input it returns true, and the input reads behind the call as it read before; no condition. -/
import Derived.Test.YtpfpmjdifnoeoaaRows
import Derived.Test.YtpfpmjdifnoeoaaF13
import Derived.Test.YtpfpmjdifnoeoaaRowOpen
import Derived.Test.YtpfpmjdifnoeoaaRowFacts
import Derived.Test.YtpfpmjdifnoeoaaPurePartsTaken
import Derived.WalkKit
import Derived.ProofKit
import Derived.OpenShut
import Derived.ShutString
import Derived.ChangeOld
import Derived.Below
import Derived.SizedLaws
import Derived.Carry
import Derived.WideShapes
namespace Go.Proofs.Ytpfpmjdifnoeoaa.partsTaken
open Go.ChangeShapes Go.WideShapes Go.ChangeAt Go.RowKit Go.Proofs.Ytpfpmjdifnoeoaa.F Go.Proofs.YtpfpmjdifnoeoaaW.PrintWords Go.Proofs.YtpfpmjdifnoeoaaW.PrintLast Go.Proofs.YtpfpmjdifnoeoaaW.PrintMore
open Go.ChangeMaps (open_string shut_string)
set_option linter.unusedVariables false
set_option linter.unusedSimpArgs false
theorem own : ownKnob Try.prog.godebug = none := by kernel_rfl
theorem laidOut : laidOutB Try.prog = true := by kernel_rfl
set_option maxRecDepth 100000 in
theorem lifted (os : Os) (started : os.Started) (H : Type) (enc : TypeId × Value → H) :
    ReturnsInHanded {} Try.checked os 13 .any (Rows.partsTakenSpec.pre6 enc Try.prog Try.f13 Rows.partsTakenRow.domain false) (Rows.partsTakenSpec.post enc Try.prog Try.f13 false true false false) := by
  refine returnsInHanded_of_change_sized (C := Try.checked) own started (by kernel_rfl) Try.func13
    (ChangeSpec.witness6 (enc := enc) (C := Try.checked) false ⟨#[], #[.string ByteArray.empty], []⟩ 8 (by kernel_rfl) (by kernel_rfl) (by kernel_rfl) (by kernel_rfl)) ?_
  intro W base args ds gs before hval0 hW hcnd hsz0 _
  have hval : ∀ (j : Nat) t v, Try.f13.params[j]? = some t → args[j]? = some v → Value.okWide Try.prog W .any base t v := hval0
  have hW' := hW
  obtain ⟨p, q, hA0, hV, rfl, hfz, hnd⟩ := hW
  have hA : DataW.TrodAll enc Try.prog W 0 (fun _ => true) true Try.f13.params.toList args.toList ds p := hA0
  rw [Try.params13] at hA hval
  obtain ⟨v0, vs0, d0, ds0, p0, q0, hargs, rfl, rfl, h0, r0⟩ := trodAll_cons hA
  obtain ⟨rfl, rfl, rfl⟩ := trodAll_nil r0
  obtain rfl : args = #[v0] := by cases args; simp_all
  obtain ⟨rfl, rfl⟩ := trodVars_none hV
  have k0 := h0
  have lt0 : ∀ x ∈ p0, x.block < W.heap.size := by obtain ⟨m, hm⟩ := k0; exact DataW.trod_lt m _ _ _ hm
  obtain ⟨a0, rfl, _, _, w0⟩ := open_string Try.underlying9 (hval 0 9 v0 rfl rfl) h0
  obtain ⟨k, hp⟩ := Pure.PartsTaken a0 w0
  refine (gemotlaw2_PartsTaken.calls k a0 true W  hp).mono fun e W' he => ?_
  obtain ⟨he, hb⟩ := he
  subst he
  have bel : Below W.heap.size W W' := hb
  exact ⟨_, rfl, _, _, _, [], _, [], hW', trodAll_mk1 (shut_bool Try.underlying4 _), (trodAll_cons_mk (Below.trod laidOut (by kernel_rfl) (of_decide_eq_true (by kernel_rfl)) k0 bel lt0) trodAll_mk0), rfl, bel.frame _, fun h => by cases h⟩
theorem j0 : (Rows.partsTakenRow.wf (OpenSpec.ofChange Rows.partsTakenSpec)) = true := by kernel_rfl
theorem j1 : (laidOutB Try.pinned.checked.prog) = true := rowfact_laidOut
theorem j2 : (mapsRowed Try.pinned.checked.prog) = true := rowfact_mapsRowed
theorem j3 : (Try.f13.params.all (Try.pinned.checked.prog.readableRec ·)) = true := by kernel_rfl
theorem j4 : (namedTie Try.pinned.checked.prog Rows.partsTakenRow.named Rows.partsTakenSpec.vars) = true := by kernel_rfl
theorem j5 : ((Rows.partsTakenRow.stops == [])) = true := by kernel_rfl
theorem j6 : ((Try.pinned.checked.prog.stops == [])) = true := by kernel_rfl
theorem j7 : ((Rows.partsTakenRow.knobs == [])) = true := by kernel_rfl
theorem j8 : ((Try.pinned.checked.prog.stopKnobs == [])) = true := by kernel_rfl
theorem j9 : ((Rows.partsTakenRow.inPlace == Try.pinned.checked.prog.inPlace 13)) = true := by kernel_rfl
theorem j10 : ((Rows.partsTakenRow.unfollowed == Try.pinned.checked.prog.unfollowed 13)) = true := by kernel_rfl
theorem j11 : ((Rows.partsTakenRow.recurses == Try.pinned.checked.prog.recurses 13)) = true := by kernel_rfl
theorem j12 : ((Rows.partsTakenRow.named == Try.pinned.checked.prog.varsNamed 13)) = true := by kernel_rfl
theorem j13 : ((Rows.partsTakenRow.maps == (Try.f13.params.toList ++ Rows.partsTakenSpec.plain.varTypes Try.pinned.checked.prog).any (Try.pinned.checked.prog.mapsRec ·))) = true := by kernel_rfl
theorem j14 : ((Rows.partsTakenRow.ifaces == (Try.f13.params.toList ++ Rows.partsTakenSpec.plain.varTypes Try.pinned.checked.prog).any (Try.pinned.checked.prog.ifacesRec ·))) = true := by kernel_rfl
theorem j15 : ((Rows.partsTakenRow.mapsOut == Try.pinned.checked.prog.mapsAmong Try.f13.resultTypes.toList)) = true := by kernel_rfl
theorem j16 : ((Rows.partsTakenRow.loops == (Try.f13.params.toList ++ Rows.partsTakenSpec.plain.varTypes Try.pinned.checked.prog).any (Try.pinned.checked.prog.loopsFrom ·))) = true := by kernel_rfl
theorem j17 : ((Rows.partsTakenRow.wideKeys == (Try.f13.params.toList ++ Rows.partsTakenSpec.plain.varTypes Try.pinned.checked.prog ++ Try.f13.resultTypes.toList).any (Try.pinned.checked.prog.wideKeysFrom ·))) = true := by kernel_rfl
theorem j18 : (Rows.partsTakenSpec.vars.all (Try.pinned.checked.prog.varReadable ·)) = true := by kernel_rfl
theorem j19 : (Try.f13.resultTypes.all (fun t => Try.pinned.checked.prog.readableRec t && decide (t < Try.pinned.checked.prog.types.size))) = true := by kernel_rfl
theorem j20 : ((Rows.partsTakenRow.ifacesOut == Try.f13.resultTypes.toList.any (Try.pinned.checked.prog.ifacesRec ·))) = true := by kernel_rfl
theorem j21 : ((Rows.partsTakenRow.loopsOut == Try.f13.resultTypes.toList.any (Try.pinned.checked.prog.loopsFrom ·))) = true := by kernel_rfl
theorem j22 : ((Rows.partsTakenRow.plainKeys == Try.pinned.checked.prog.plainKeys)) = true := by kernel_rfl
theorem j23 : (Rows.partsTakenRow.shortTexts.isNone) = true := by kernel_rfl
theorem j24 : (Try.pinned.checked.prog.stopsHeard) = true := rowfact_stopsHeard
theorem j25 : (Try.pinned.checked.prog.mayEnter) = true := rowfact_mayEnter
theorem j26 : ((Rows.partsTakenRow.lifted == Try.pinned.checked.prog.liftsFinal)) = true := by rw [rowfact_lifts]; kernel_rfl
theorem j27 : ((Try.pinned.checked.prog.make == some Rows.partsTakenRow.make)) = true := by rw [rowfact_make]; kernel_rfl
theorem j28 : ((Rows.partsTakenRow.kinds == (if Rows.partsTakenRow.domain.isEmpty then [] else Try.f13.params.toList.map fun t => match Try.pinned.checked.prog.underlying t with | some (.int k) => some k | _ => none))) = true := by kernel_rfl
theorem j29 : ((Rows.partsTakenRow.pinned == Rows.partsTakenRow.pinnedBy)) = true := by kernel_rfl
theorem j30 : ((Rows.partsTakenRow.veiled == (Try.f13.params.toList ++ Rows.partsTakenSpec.plain.varTypes Try.pinned.checked.prog ++ Try.f13.resultTypes.toList).any (Try.pinned.checked.prog.veiledRec ·))) = true := by kernel_rfl
theorem j31 : (Rows.partsTakenRow.veiledFits Try.pinned.checked.prog Try.f13.params.toList (Try.f13.params.toList ++ Rows.partsTakenSpec.plain.varTypes Try.pinned.checked.prog ++ Try.f13.resultTypes.toList)) = true := by kernel_rfl
set_option maxRecDepth 100000 in
theorem closed : joinedFacts Try.pinned.checked.prog 13 Try.f13 Rows.partsTakenSpec Rows.partsTakenRow = true := gen_closed _ _ _ _ _ j0 j1 j2 j3 j4 j5 j6 j7 j8 j9 j10 j11 j12 j13 j14 j15 j16 j17 j18 j19 j20 j21 j22 j23 j24 j25 j26 j27 j28 j29 j30 j31
theorem over : Rows.partsTakenRow.holds Try.pinned (OpenSpec.ofChange Rows.partsTakenSpec) :=
  OpenClaim.holds_of_wide 13 Try.f13 rfl rfl rfl rfl rfl rfl rfl ⟨rfl, rfl, rfl, rfl, rfl⟩ rfl rfl rfl rfl rfl (by kernel_rfl) Try.func13 closed
    (of_decide_eq_true (by kernel_rfl)) (by unfold Func.isWrapper; first | (rw [if_pos (by decide +kernel)]; kernel_rfl) | (rw [if_neg (by decide +kernel)]; exact ⟨rfl, rfl⟩))
    (fun os started H enc _ => lifted os started H enc)
end Go.Proofs.Ytpfpmjdifnoeoaa.partsTaken
namespace Go.Proofs.Ytpfpmjdifnoeoaa
/-- The given statement, proved. -/
theorem partsTaken_holds : Rows.PartsTakenSaid := partsTaken.over
#print axioms partsTaken_holds
end Go.Proofs.Ytpfpmjdifnoeoaa
