/- The law gemot/gemotlaw8.NetLost: for every input it returns true, and the input reads behind the call as it read before; no condition. -/
import Derived.Test.YtagceackfnkifaaRows
import Derived.Test.YtagceackfnkifaaF11
import Derived.Test.YtagceackfnkifaaRowOpen
import Derived.Test.YtagceackfnkifaaRowFacts
import Derived.Test.YtagceackfnkifaaPureNetLost
import Derived.WalkKit
import Derived.ProofKit
import Derived.OpenShut
import Derived.ShutString
import Derived.ChangeOld
import Derived.Below
import Derived.SizedLaws
import Derived.Carry
import Derived.WideShapes
namespace Go.Proofs.Ytagceackfnkifaa.netLost
open Go.ChangeShapes Go.WideShapes Go.ChangeAt Go.RowKit Go.Proofs.Ytagceackfnkifaa.F Go.Proofs.YtagceackfnkifaaW.PrintWords Go.Proofs.YtagceackfnkifaaW.PrintLast Go.Proofs.YtagceackfnkifaaW.PrintMore
open Go.ChangeMaps (open_string shut_string)
set_option linter.unusedVariables false
set_option linter.unusedSimpArgs false
theorem own : ownKnob Try.prog.godebug = none := by kernel_rfl
theorem laidOut : laidOutB Try.prog = true := by kernel_rfl
set_option maxRecDepth 100000 in
theorem lifted (os : Os) (started : os.Started) (H : Type) (enc : TypeId × Value → H) :
    ReturnsInHanded {} Try.checked os 11 .any (Rows.netLostSpec.pre6 enc Try.prog Try.f11 Rows.netLostRow.domain false) (Rows.netLostSpec.post enc Try.prog Try.f11 false true false false) := by
  refine returnsInHanded_of_change_sized (C := Try.checked) own started (by kernel_rfl) Try.func11
    (ChangeSpec.witness6 (enc := enc) (C := Try.checked) false ⟨#[], #[.int .i64 0, .slice none 0 0], []⟩ 8 (by kernel_rfl) (by kernel_rfl) (by kernel_rfl) (by kernel_rfl)) ?_
  intro W base args ds gs before hval0 hW hcnd hsz0 _
  have hval : ∀ (j : Nat) t v, Try.f11.params[j]? = some t → args[j]? = some v → Value.okWide Try.prog W .any base t v := hval0
  have hW' := hW
  obtain ⟨p, q, hA0, hV, rfl, hfz, hnd⟩ := hW
  have hA : DataW.TrodAll enc Try.prog W 0 (fun _ => true) true Try.f11.params.toList args.toList ds p := hA0
  rw [Try.params11] at hA hval
  obtain ⟨v0, vs0, d0, ds0, p0, q0, hargs, rfl, rfl, h0, r0⟩ := trodAll_cons hA
  obtain ⟨v1, vs1, d1, ds1, p1, q1, rfl, rfl, rfl, h1, r1⟩ := trodAll_cons r0
  obtain ⟨rfl, rfl, rfl⟩ := trodAll_nil r1
  obtain rfl : args = #[v0, v1] := by cases args; simp_all
  obtain ⟨rfl, rfl⟩ := trodVars_none hV
  have k0 := h0
  have lt0 : ∀ x ∈ p0, x.block < W.heap.size := by obtain ⟨m, hm⟩ := k0; exact DataW.trod_lt m _ _ _ hm
  obtain ⟨a0, rfl, _, _, w0⟩ := open_int Try.underlying3 (hval 0 3 v0 rfl rfl) h0
  have k1 := h1
  have lt1 : ∀ x ∈ p1, x.block < W.heap.size := by obtain ⟨m, hm⟩ := k1; exact DataW.trod_lt m _ _ _ hm
  obtain ⟨a1, len1, cap1, rfl⟩ := okWide_slice Try.underlying22 (hval 1 22 v1 rfl rfl)
  obtain ⟨fuel1, hf1⟩ := h1
  obtain ⟨l1, ⟨A1, c1, e1, hc1, hr1⟩, w1⟩ := (opens_slice Try.underlying22 (by kernel_rfl) (opens_int Try.underlying3)) enc W _ _ _ _ _ hf1
  simp only [Value.cells, List.cons.injEq, Value.slice.injEq, and_true] at e1
  obtain ⟨rfl, rfl, rfl⟩ := e1
  have hp := Pure.NetLost a0 l1 w0 w1
  refine (gemotlaw8_NetLost.calls a0 _ _ l1 true W hr1 hc1 hp).mono fun e W' he => ?_
  obtain ⟨he, hb⟩ := he
  subst he
  have bel : Below W.heap.size W W' := hb
  exact ⟨_, rfl, _, _, _, [], _, [], hW', trodAll_mk1 (shut_bool Try.underlying4 _), (trodAll_cons_mk (Below.trod laidOut (by kernel_rfl) (of_decide_eq_true (by kernel_rfl)) k0 bel lt0) (trodAll_cons_mk (Below.trod laidOut (by kernel_rfl) (of_decide_eq_true (by kernel_rfl)) k1 bel lt1) trodAll_mk0)), rfl, bel.frame _, fun h => by cases h⟩
theorem j0 : (Rows.netLostRow.wf (OpenSpec.ofChange Rows.netLostSpec)) = true := by kernel_rfl
theorem j1 : (laidOutB Try.pinned.checked.prog) = true := rowfact_laidOut
theorem j2 : (mapsRowed Try.pinned.checked.prog) = true := rowfact_mapsRowed
theorem j3 : (Try.f11.params.all (Try.pinned.checked.prog.readableRec ·)) = true := by kernel_rfl
theorem j4 : (namedTie Try.pinned.checked.prog Rows.netLostRow.named Rows.netLostSpec.vars) = true := by kernel_rfl
theorem j5 : ((Rows.netLostRow.stops == [])) = true := by kernel_rfl
theorem j6 : ((Try.pinned.checked.prog.stops == [])) = true := by kernel_rfl
theorem j7 : ((Rows.netLostRow.knobs == [])) = true := by kernel_rfl
theorem j8 : ((Try.pinned.checked.prog.stopKnobs == [])) = true := by kernel_rfl
theorem j9 : ((Rows.netLostRow.inPlace == Try.pinned.checked.prog.inPlace 11)) = true := by kernel_rfl
theorem j10 : ((Rows.netLostRow.unfollowed == Try.pinned.checked.prog.unfollowed 11)) = true := by kernel_rfl
theorem j11 : ((Rows.netLostRow.recurses == Try.pinned.checked.prog.recurses 11)) = true := by kernel_rfl
theorem j12 : ((Rows.netLostRow.named == Try.pinned.checked.prog.varsNamed 11)) = true := by kernel_rfl
theorem j13 : ((Rows.netLostRow.maps == (Try.f11.params.toList ++ Rows.netLostSpec.plain.varTypes Try.pinned.checked.prog).any (Try.pinned.checked.prog.mapsRec ·))) = true := by kernel_rfl
theorem j14 : ((Rows.netLostRow.ifaces == (Try.f11.params.toList ++ Rows.netLostSpec.plain.varTypes Try.pinned.checked.prog).any (Try.pinned.checked.prog.ifacesRec ·))) = true := by kernel_rfl
theorem j15 : ((Rows.netLostRow.mapsOut == Try.pinned.checked.prog.mapsAmong Try.f11.resultTypes.toList)) = true := by kernel_rfl
theorem j16 : ((Rows.netLostRow.loops == (Try.f11.params.toList ++ Rows.netLostSpec.plain.varTypes Try.pinned.checked.prog).any (Try.pinned.checked.prog.loopsFrom ·))) = true := by kernel_rfl
theorem j17 : ((Rows.netLostRow.wideKeys == (Try.f11.params.toList ++ Rows.netLostSpec.plain.varTypes Try.pinned.checked.prog ++ Try.f11.resultTypes.toList).any (Try.pinned.checked.prog.wideKeysFrom ·))) = true := by kernel_rfl
theorem j18 : (Rows.netLostSpec.vars.all (Try.pinned.checked.prog.varReadable ·)) = true := by kernel_rfl
theorem j19 : (Try.f11.resultTypes.all (fun t => Try.pinned.checked.prog.readableRec t && decide (t < Try.pinned.checked.prog.types.size))) = true := by kernel_rfl
theorem j20 : ((Rows.netLostRow.ifacesOut == Try.f11.resultTypes.toList.any (Try.pinned.checked.prog.ifacesRec ·))) = true := by kernel_rfl
theorem j21 : ((Rows.netLostRow.loopsOut == Try.f11.resultTypes.toList.any (Try.pinned.checked.prog.loopsFrom ·))) = true := by kernel_rfl
theorem j22 : ((Rows.netLostRow.plainKeys == Try.pinned.checked.prog.plainKeys)) = true := by kernel_rfl
theorem j23 : (Rows.netLostRow.shortTexts.isNone) = true := by kernel_rfl
theorem j24 : (Try.pinned.checked.prog.stopsHeard) = true := rowfact_stopsHeard
theorem j25 : (Try.pinned.checked.prog.mayEnter) = true := rowfact_mayEnter
theorem j26 : ((Rows.netLostRow.lifted == Try.pinned.checked.prog.liftsFinal)) = true := by rw [rowfact_lifts]; kernel_rfl
theorem j27 : ((Try.pinned.checked.prog.make == some Rows.netLostRow.make)) = true := by rw [rowfact_make]; kernel_rfl
theorem j28 : ((Rows.netLostRow.kinds == (if Rows.netLostRow.domain.isEmpty then [] else Try.f11.params.toList.map fun t => match Try.pinned.checked.prog.underlying t with | some (.int k) => some k | _ => none))) = true := by kernel_rfl
theorem j29 : ((Rows.netLostRow.pinned == Rows.netLostRow.pinnedBy)) = true := by kernel_rfl
theorem j30 : ((Rows.netLostRow.veiled == (Try.f11.params.toList ++ Rows.netLostSpec.plain.varTypes Try.pinned.checked.prog ++ Try.f11.resultTypes.toList).any (Try.pinned.checked.prog.veiledRec ·))) = true := by kernel_rfl
theorem j31 : (Rows.netLostRow.veiledFits Try.pinned.checked.prog Try.f11.params.toList (Try.f11.params.toList ++ Rows.netLostSpec.plain.varTypes Try.pinned.checked.prog ++ Try.f11.resultTypes.toList)) = true := by kernel_rfl
set_option maxRecDepth 100000 in
theorem closed : joinedFacts Try.pinned.checked.prog 11 Try.f11 Rows.netLostSpec Rows.netLostRow = true := gen_closed _ _ _ _ _ j0 j1 j2 j3 j4 j5 j6 j7 j8 j9 j10 j11 j12 j13 j14 j15 j16 j17 j18 j19 j20 j21 j22 j23 j24 j25 j26 j27 j28 j29 j30 j31
theorem over : Rows.netLostRow.holds Try.pinned (OpenSpec.ofChange Rows.netLostSpec) :=
  OpenClaim.holds_of_wide 11 Try.f11 rfl rfl rfl rfl rfl rfl rfl ⟨rfl, rfl, rfl, rfl, rfl⟩ rfl rfl rfl rfl rfl (by kernel_rfl) Try.func11 closed
    (of_decide_eq_true (by kernel_rfl)) (by unfold Func.isWrapper; first | (rw [if_pos (by decide +kernel)]; kernel_rfl) | (rw [if_neg (by decide +kernel)]; exact ⟨rfl, rfl⟩))
    (fun os started H enc _ => lifted os started H enc)
end Go.Proofs.Ytagceackfnkifaa.netLost
namespace Go.Proofs.Ytagceackfnkifaa
/-- The given statement, proved. -/
theorem netLost_holds : Rows.NetLostSaid := netLost.over
#print axioms netLost_holds
end Go.Proofs.Ytagceackfnkifaa
