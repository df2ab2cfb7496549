/- The law gemot/gemotlaw2.PartsAll: for every input it returns true, and the input reads behind the call as it read before; no condition. -/
import Derived.Test.YtppimpadfgldjaaRows
import Derived.Test.YtppimpadfgldjaaF14
import Derived.Test.YtppimpadfgldjaaRowOpen
import Derived.Test.YtppimpadfgldjaaRowFacts
import Derived.Test.YtppimpadfgldjaaPurePartsAll
import Derived.WalkKit
import Derived.ProofKit
import Derived.OpenShut
import Derived.ShutString
import Derived.ChangeOld
import Derived.Below
import Derived.SizedLaws
import Derived.Carry
import Derived.WideShapes
namespace Go.Proofs.Ytppimpadfgldjaa.partsAll
open Go.ChangeShapes Go.WideShapes Go.ChangeAt Go.RowKit Go.Proofs.Ytppimpadfgldjaa.F Go.Proofs.YtppimpadfgldjaaW.PrintWords Go.Proofs.YtppimpadfgldjaaW.PrintLast Go.Proofs.YtppimpadfgldjaaW.PrintMore
open Go.ChangeMaps (open_string shut_string)
set_option linter.unusedVariables false
set_option linter.unusedSimpArgs false
theorem own : ownKnob Try.prog.godebug = none := by kernel_rfl
theorem laidOut : laidOutB Try.prog = true := by kernel_rfl
def wf186 (x : S186) : Prop := ((Lit.int .i64 x.f0).wf = true) ∧ ((Lit.int .i64 x.f1).wf = true) ∧ ((Lit.int .i64 x.f2).wf = true) ∧ ((Lit.int .i64 x.f3).wf = true)
theorem opens_T186 : Opens Try.prog 186 k186 wf186 := by
  intro H enc w spare held fuel cs x h
  obtain ⟨xs, n, _, _, hl, hlen, hg⟩ := DataW.trod_struct Try.underlying186 h
  have hl' : cs.length = 4 := hl.trans (by kernel_rfl)
  obtain ⟨a0, h0, w0⟩ := opens_field hlen hg 0 _ rfl (opens_int Try.underlying3) 0 1 rfl (by kernel_rfl)
  obtain ⟨a1, h1, w1⟩ := opens_field hlen hg 1 _ rfl (opens_int Try.underlying3) 1 1 rfl (by kernel_rfl)
  obtain ⟨a2, h2, w2⟩ := opens_field hlen hg 2 _ rfl (opens_int Try.underlying3) 2 1 rfl (by kernel_rfl)
  obtain ⟨a3, h3, w3⟩ := opens_field hlen hg 3 _ rfl (opens_int Try.underlying3) 3 1 rfl (by kernel_rfl)
  have e : cs = (cs.drop 0).take 1 ++ ((cs.drop 1).take 1 ++ ((cs.drop 2).take 1 ++ ((cs.drop 3).take 1))) := ((cut2 cs 0 1 3 hl').trans (congrArg (fun z => (cs.drop 0).take 1 ++ z) ((cut2 cs 1 1 2 hl').trans (congrArg (fun z => (cs.drop 1).take 1 ++ z) ((cut2 cs 2 1 1 hl').trans (congrArg (fun z => (cs.drop 2).take 1 ++ z) (cut1 cs 3 1 hl')))))))
  exact ⟨⟨a0, a1, a2, a3⟩, ⟨_, _, e, h0, ⟨_, _, rfl, h1, ⟨_, _, rfl, h2, h3⟩⟩⟩, w0, w1, w2, w3⟩
set_option maxRecDepth 100000 in
theorem lifted (os : Os) (started : os.Started) (H : Type) (enc : TypeId × Value → H) :
    ReturnsInHanded {} Try.checked os 14 .any (Rows.partsAllSpec.pre6 enc Try.prog Try.f14 Rows.partsAllRow.domain false) (Rows.partsAllSpec.post enc Try.prog Try.f14 false true false false) := by
  refine returnsInHanded_of_change_sized (C := Try.checked) own started (by kernel_rfl) Try.func14
    (ChangeSpec.witness6 (enc := enc) (C := Try.checked) false ⟨#[], #[.slice none 0 0, .int .i64 0], []⟩ 8 (by kernel_rfl) (by kernel_rfl) (by kernel_rfl) (by kernel_rfl)) ?_
  intro W base args ds gs before hval0 hW hcnd hsz0 _
  have hval : ∀ (j : Nat) t v, Try.f14.params[j]? = some t → args[j]? = some v → Value.okWide Try.prog W .any base t v := hval0
  have hW' := hW
  obtain ⟨p, q, hA0, hV, rfl, hfz, hnd⟩ := hW
  have hA : DataW.TrodAll enc Try.prog W 0 (fun _ => true) true Try.f14.params.toList args.toList ds p := hA0
  rw [Try.params14] at hA hval
  obtain ⟨v0, vs0, d0, ds0, p0, q0, hargs, rfl, rfl, h0, r0⟩ := trodAll_cons hA
  obtain ⟨v1, vs1, d1, ds1, p1, q1, rfl, rfl, rfl, h1, r1⟩ := trodAll_cons r0
  obtain ⟨rfl, rfl, rfl⟩ := trodAll_nil r1
  obtain rfl : args = #[v0, v1] := by cases args; simp_all
  obtain ⟨rfl, rfl⟩ := trodVars_none hV
  have k0 := h0
  have lt0 : ∀ x ∈ p0, x.block < W.heap.size := by obtain ⟨m, hm⟩ := k0; exact DataW.trod_lt m _ _ _ hm
  obtain ⟨a0, len0, cap0, rfl⟩ := okWide_slice Try.underlying130 (hval 0 130 v0 rfl rfl)
  obtain ⟨fuel0, hf0⟩ := h0
  obtain ⟨l0, ⟨A0, c0, e0, hc0, hr0⟩, w0⟩ := (opens_slice Try.underlying130 (by kernel_rfl) opens_T186) enc W _ _ _ _ _ hf0
  simp only [Value.cells, List.cons.injEq, Value.slice.injEq, and_true] at e0
  obtain ⟨rfl, rfl, rfl⟩ := e0
  have k1 := h1
  have lt1 : ∀ x ∈ p1, x.block < W.heap.size := by obtain ⟨m, hm⟩ := k1; exact DataW.trod_lt m _ _ _ hm
  obtain ⟨a1, rfl, _, _, w1⟩ := open_int Try.underlying3 (hval 1 3 v1 rfl rfl) h1
  have hp := Pure.PartsAll l0 a1 w0 w1
  refine (gemotlaw2_PartsAll.calls _ _ l0 a1 true W hr0 hc0 hp).mono fun e W' he => ?_
  obtain ⟨he, hb⟩ := he
  subst he
  have bel : Below W.heap.size W W' := hb
  exact ⟨_, rfl, _, _, _, [], _, [], hW', trodAll_mk1 (shut_bool Try.underlying4 _), (trodAll_cons_mk (Below.trod laidOut (by kernel_rfl) (of_decide_eq_true (by kernel_rfl)) k0 bel lt0) (trodAll_cons_mk (Below.trod laidOut (by kernel_rfl) (of_decide_eq_true (by kernel_rfl)) k1 bel lt1) trodAll_mk0)), rfl, bel.frame _, fun h => by cases h⟩
theorem j0 : (Rows.partsAllRow.wf (OpenSpec.ofChange Rows.partsAllSpec)) = true := by kernel_rfl
theorem j1 : (laidOutB Try.pinned.checked.prog) = true := rowfact_laidOut
theorem j2 : (mapsRowed Try.pinned.checked.prog) = true := rowfact_mapsRowed
theorem j3 : (Try.f14.params.all (Try.pinned.checked.prog.readableRec ·)) = true := by kernel_rfl
theorem j4 : (namedTie Try.pinned.checked.prog Rows.partsAllRow.named Rows.partsAllSpec.vars) = true := by kernel_rfl
theorem j5 : ((Rows.partsAllRow.stops == [])) = true := by kernel_rfl
theorem j6 : ((Try.pinned.checked.prog.stops == [])) = true := by kernel_rfl
theorem j7 : ((Rows.partsAllRow.knobs == [])) = true := by kernel_rfl
theorem j8 : ((Try.pinned.checked.prog.stopKnobs == [])) = true := by kernel_rfl
theorem j9 : ((Rows.partsAllRow.inPlace == Try.pinned.checked.prog.inPlace 14)) = true := by kernel_rfl
theorem j10 : ((Rows.partsAllRow.unfollowed == Try.pinned.checked.prog.unfollowed 14)) = true := by kernel_rfl
theorem j11 : ((Rows.partsAllRow.recurses == Try.pinned.checked.prog.recurses 14)) = true := by kernel_rfl
theorem j12 : ((Rows.partsAllRow.named == Try.pinned.checked.prog.varsNamed 14)) = true := by kernel_rfl
theorem j13 : ((Rows.partsAllRow.maps == (Try.f14.params.toList ++ Rows.partsAllSpec.plain.varTypes Try.pinned.checked.prog).any (Try.pinned.checked.prog.mapsRec ·))) = true := by kernel_rfl
theorem j14 : ((Rows.partsAllRow.ifaces == (Try.f14.params.toList ++ Rows.partsAllSpec.plain.varTypes Try.pinned.checked.prog).any (Try.pinned.checked.prog.ifacesRec ·))) = true := by kernel_rfl
theorem j15 : ((Rows.partsAllRow.mapsOut == Try.pinned.checked.prog.mapsAmong Try.f14.resultTypes.toList)) = true := by kernel_rfl
theorem j16 : ((Rows.partsAllRow.loops == (Try.f14.params.toList ++ Rows.partsAllSpec.plain.varTypes Try.pinned.checked.prog).any (Try.pinned.checked.prog.loopsFrom ·))) = true := by kernel_rfl
theorem j17 : ((Rows.partsAllRow.wideKeys == (Try.f14.params.toList ++ Rows.partsAllSpec.plain.varTypes Try.pinned.checked.prog ++ Try.f14.resultTypes.toList).any (Try.pinned.checked.prog.wideKeysFrom ·))) = true := by kernel_rfl
theorem j18 : (Rows.partsAllSpec.vars.all (Try.pinned.checked.prog.varReadable ·)) = true := by kernel_rfl
theorem j19 : (Try.f14.resultTypes.all (fun t => Try.pinned.checked.prog.readableRec t && decide (t < Try.pinned.checked.prog.types.size))) = true := by kernel_rfl
theorem j20 : ((Rows.partsAllRow.ifacesOut == Try.f14.resultTypes.toList.any (Try.pinned.checked.prog.ifacesRec ·))) = true := by kernel_rfl
theorem j21 : ((Rows.partsAllRow.loopsOut == Try.f14.resultTypes.toList.any (Try.pinned.checked.prog.loopsFrom ·))) = true := by kernel_rfl
theorem j22 : ((Rows.partsAllRow.plainKeys == Try.pinned.checked.prog.plainKeys)) = true := by kernel_rfl
theorem j23 : (Rows.partsAllRow.shortTexts.isNone) = true := by kernel_rfl
theorem j24 : (Try.pinned.checked.prog.stopsHeard) = true := rowfact_stopsHeard
theorem j25 : (Try.pinned.checked.prog.mayEnter) = true := rowfact_mayEnter
theorem j26 : ((Rows.partsAllRow.lifted == Try.pinned.checked.prog.liftsFinal)) = true := by rw [rowfact_lifts]; kernel_rfl
theorem j27 : ((Try.pinned.checked.prog.make == some Rows.partsAllRow.make)) = true := by rw [rowfact_make]; kernel_rfl
theorem j28 : ((Rows.partsAllRow.kinds == (if Rows.partsAllRow.domain.isEmpty then [] else Try.f14.params.toList.map fun t => match Try.pinned.checked.prog.underlying t with | some (.int k) => some k | _ => none))) = true := by kernel_rfl
theorem j29 : ((Rows.partsAllRow.pinned == Rows.partsAllRow.pinnedBy)) = true := by kernel_rfl
theorem j30 : ((Rows.partsAllRow.veiled == (Try.f14.params.toList ++ Rows.partsAllSpec.plain.varTypes Try.pinned.checked.prog ++ Try.f14.resultTypes.toList).any (Try.pinned.checked.prog.veiledRec ·))) = true := by kernel_rfl
theorem j31 : (Rows.partsAllRow.veiledFits Try.pinned.checked.prog Try.f14.params.toList (Try.f14.params.toList ++ Rows.partsAllSpec.plain.varTypes Try.pinned.checked.prog ++ Try.f14.resultTypes.toList)) = true := by kernel_rfl
set_option maxRecDepth 100000 in
theorem closed : joinedFacts Try.pinned.checked.prog 14 Try.f14 Rows.partsAllSpec Rows.partsAllRow = true := gen_closed _ _ _ _ _ j0 j1 j2 j3 j4 j5 j6 j7 j8 j9 j10 j11 j12 j13 j14 j15 j16 j17 j18 j19 j20 j21 j22 j23 j24 j25 j26 j27 j28 j29 j30 j31
theorem over : Rows.partsAllRow.holds Try.pinned (OpenSpec.ofChange Rows.partsAllSpec) :=
  OpenClaim.holds_of_wide 14 Try.f14 rfl rfl rfl rfl rfl rfl rfl ⟨rfl, rfl, rfl, rfl, rfl⟩ rfl rfl rfl rfl rfl (by kernel_rfl) Try.func14 closed
    (of_decide_eq_true (by kernel_rfl)) (by unfold Func.isWrapper; first | (rw [if_pos (by decide +kernel)]; kernel_rfl) | (rw [if_neg (by decide +kernel)]; exact ⟨rfl, rfl⟩))
    (fun os started H enc _ => lifted os started H enc)
end Go.Proofs.Ytppimpadfgldjaa.partsAll
namespace Go.Proofs.Ytppimpadfgldjaa
/-- The given statement, proved. -/
theorem partsAll_holds : Rows.PartsAllSaid := partsAll.over
#print axioms partsAll_holds
end Go.Proofs.Ytppimpadfgldjaa
