/- The law gemot/gemotlaw4.ListPacks: for every input it returns true, and the input reads behind the call as it read before; no condition. -/
import Derived.Test.YtpfpmjdifnoeoaaRows
import Derived.Test.YtpfpmjdifnoeoaaMListPacksF6
import Derived.Test.YtpfpmjdifnoeoaaMListPacksRowOpen
import Derived.Test.YtpfpmjdifnoeoaaMListPacksRowFacts
import Derived.Test.YtpfpmjdifnoeoaaMListPacksPureListPacks
import Derived.WalkKit
import Derived.ProofKit
import Derived.OpenShut
import Derived.ShutString
import Derived.ChangeOld
import Derived.Below
import Derived.SizedLaws
import Derived.Carry
import Derived.WideShapes
namespace Go.Proofs.Ytpfpmjdifnoeoaa.listPacks
open Go.ChangeShapes Go.WideShapes Go.ChangeAt Go.RowKit Go.Proofs.Ytpfpmjdifnoeoaa.F Go.Proofs.YtpfpmjdifnoeoaaW.PrintWords Go.Proofs.YtpfpmjdifnoeoaaW.PrintLast Go.Proofs.YtpfpmjdifnoeoaaW.PrintMore
open Go.ChangeMaps (open_string shut_string)
set_option linter.unusedVariables false
set_option linter.unusedSimpArgs false
theorem own : ownKnob Try.prog.godebug = none := by kernel_rfl
theorem laidOut : laidOutB Try.prog = true := by kernel_rfl
def wf35 (x : S35) : Prop := ((Lit.int .i64 x.f0).wf = true) ∧ ((Lit.int .i64 x.f1).wf = true)
theorem opens_T35 : Opens Try.prog 35 k35 wf35 := by
  intro H enc w spare held fuel cs x h
  obtain ⟨xs, n, _, _, hl, hlen, hg⟩ := DataW.trod_struct Try.underlying35 h
  have hl' : cs.length = 2 := hl.trans (by kernel_rfl)
  obtain ⟨a0, h0, w0⟩ := opens_field hlen hg 0 _ rfl (opens_int Try.underlying3) 0 1 rfl (by kernel_rfl)
  obtain ⟨a1, h1, w1⟩ := opens_field hlen hg 1 _ rfl (opens_int Try.underlying3) 1 1 rfl (by kernel_rfl)
  have e : cs = (cs.drop 0).take 1 ++ ((cs.drop 1).take 1) := ((cut2 cs 0 1 1 hl').trans (congrArg (fun z => (cs.drop 0).take 1 ++ z) (cut1 cs 1 1 hl')))
  exact ⟨⟨a0, a1⟩, ⟨_, _, e, h0, h1⟩, w0, w1⟩
def wf39 (x : S39) : Prop := ((Lit.int .i64 x.f0).wf = true) ∧ (wf35 x.f1) ∧ (wf35 x.f2) ∧ ((Lit.int .i64 x.f3).wf = true) ∧ (x.f4.length ≤ 9223372036854775807 ∧ ∀ y ∈ x.f4, (Lit.int .i64 y).wf = true) ∧ (x.f5.length ≤ 9223372036854775807 ∧ ∀ y ∈ x.f5, y.size ≤ 9223372036854775807)
theorem opens_T39 : Opens Try.prog 39 k39 wf39 := by
  intro H enc w spare held fuel cs x h
  obtain ⟨xs, n, _, _, hl, hlen, hg⟩ := DataW.trod_struct Try.underlying39 h
  have hl' : cs.length = 8 := hl.trans (by kernel_rfl)
  obtain ⟨a0, h0, w0⟩ := opens_field hlen hg 0 _ rfl (opens_int Try.underlying3) 0 1 rfl (by kernel_rfl)
  obtain ⟨a1, h1, w1⟩ := opens_field hlen hg 1 _ rfl opens_T35 1 2 rfl (by kernel_rfl)
  obtain ⟨a2, h2, w2⟩ := opens_field hlen hg 2 _ rfl opens_T35 3 2 rfl (by kernel_rfl)
  obtain ⟨a3, h3, w3⟩ := opens_field hlen hg 3 _ rfl (opens_int Try.underlying3) 5 1 rfl (by kernel_rfl)
  obtain ⟨a4, h4, w4⟩ := opens_field hlen hg 4 _ rfl (opens_slice Try.underlying36 (by kernel_rfl) (opens_int Try.underlying3)) 6 1 rfl (by kernel_rfl)
  obtain ⟨a5, h5, w5⟩ := opens_field hlen hg 5 _ rfl (opens_slice Try.underlying37 (by kernel_rfl) (opens_string Try.underlying23)) 7 1 rfl (by kernel_rfl)
  have e : cs = (cs.drop 0).take 1 ++ ((cs.drop 1).take 2 ++ ((cs.drop 3).take 2 ++ ((cs.drop 5).take 1 ++ ((cs.drop 6).take 1 ++ ((cs.drop 7).take 1))))) := ((cut2 cs 0 1 7 hl').trans (congrArg (fun z => (cs.drop 0).take 1 ++ z) ((cut2 cs 1 2 5 hl').trans (congrArg (fun z => (cs.drop 1).take 2 ++ z) ((cut2 cs 3 2 3 hl').trans (congrArg (fun z => (cs.drop 3).take 2 ++ z) ((cut2 cs 5 1 2 hl').trans (congrArg (fun z => (cs.drop 5).take 1 ++ z) ((cut2 cs 6 1 1 hl').trans (congrArg (fun z => (cs.drop 6).take 1 ++ z) (cut1 cs 7 1 hl')))))))))))
  exact ⟨⟨a0, a1, a2, a3, a4, a5⟩, ⟨_, _, e, h0, ⟨_, _, rfl, h1, ⟨_, _, rfl, h2, ⟨_, _, rfl, h3, ⟨_, _, rfl, h4, h5⟩⟩⟩⟩⟩, w0, w1, w2, w3, w4, w5⟩
set_option maxRecDepth 100000 in
theorem lifted (os : Os) (started : os.Started) (H : Type) (enc : TypeId × Value → H) :
    ReturnsInHanded {} Try.checked os 6 .any (Rows.listPacksSpec.pre6 enc Try.prog Try.f6 Rows.listPacksRow.domain false) (Rows.listPacksSpec.post enc Try.prog Try.f6 false true false false) := by
  refine returnsInHanded_of_change_sized (C := Try.checked) own started (by kernel_rfl) Try.func6
    (ChangeSpec.witness6 (enc := enc) (C := Try.checked) false ⟨#[], #[.agg #[.int .i64 0, .int .i64 0, .int .i64 0, .int .i64 0, .int .i64 0, .int .i64 0, .slice none 0 0, .slice none 0 0], .string ByteArray.empty], []⟩ 8 (by kernel_rfl) (by kernel_rfl) (by kernel_rfl) (by kernel_rfl)) ?_
  intro W base args ds gs before hval0 hW hcnd hsz0 _
  have hval : ∀ (j : Nat) t v, Try.f6.params[j]? = some t → args[j]? = some v → Value.okWide Try.prog W .any base t v := hval0
  have hW' := hW
  obtain ⟨p, q, hA0, hV, rfl, hfz, hnd⟩ := hW
  have hA : DataW.TrodAll enc Try.prog W 0 (fun _ => true) true Try.f6.params.toList args.toList ds p := hA0
  rw [Try.params6] at hA hval
  obtain ⟨v0, vs0, d0, ds0, p0, q0, hargs, rfl, rfl, h0, r0⟩ := trodAll_cons hA
  obtain ⟨v1, vs1, d1, ds1, p1, q1, rfl, rfl, rfl, h1, r1⟩ := trodAll_cons r0
  obtain ⟨rfl, rfl, rfl⟩ := trodAll_nil r1
  obtain rfl : args = #[v0, v1] := by cases args; simp_all
  obtain ⟨rfl, rfl⟩ := trodVars_none hV
  have k0 := h0
  have lt0 : ∀ x ∈ p0, x.block < W.heap.size := by obtain ⟨m, hm⟩ := k0; exact DataW.trod_lt m _ _ _ hm
  obtain ⟨⟨cs0⟩, rfl, _⟩ := okWide_struct Try.underlying39 (hval 0 39 v0 rfl rfl)
  obtain ⟨fuel0, hf0⟩ := h0
  obtain ⟨x0, hK0, w0⟩ := opens_T39 enc W _ _ _ _ _ hf0
  have hK0' : k39.K W x0 cs0 := hK0
  obtain ⟨_, _, rfl, rfl, ⟨_, _, rfl, ⟨_, _, rfl, rfl, rfl⟩, ⟨_, _, rfl, ⟨_, _, rfl, rfl, rfl⟩, ⟨_, _, rfl, rfl, ⟨_, _, rfl, ⟨A0_6, c0_6, rfl, hc0_6, hr0_6⟩, ⟨A0_7, c0_7, rfl, hc0_7, hr0_7⟩⟩⟩⟩⟩⟩ := hK0'
  have k1 := h1
  have lt1 : ∀ x ∈ p1, x.block < W.heap.size := by obtain ⟨m, hm⟩ := k1; exact DataW.trod_lt m _ _ _ hm
  obtain ⟨a1, rfl, _, _, w1⟩ := open_string Try.underlying9 (hval 1 9 v1 rfl rfl) h1
  obtain ⟨k, hp⟩ := Pure.ListPacks x0.f0 x0.f1.f0 x0.f1.f1 x0.f2.f0 x0.f2.f1 x0.f3 x0.f4 x0.f5 a1 w0.1 w0.2.1.1 w0.2.1.2 w0.2.2.1.1 w0.2.2.1.2 w0.2.2.2.1 w0.2.2.2.2.1 w0.2.2.2.2.2 w1
  refine (gemotlaw4_ListPacks.calls k x0.f0 x0.f1.f0 x0.f1.f1 x0.f2.f0 x0.f2.f1 x0.f3 _ _ x0.f4 _ _ x0.f5 a1 true W hr0_6 hc0_6 hr0_7 hc0_7 hp).mono fun e W' he => ?_
  obtain ⟨he, hb⟩ := he
  subst he
  have bel : Below W.heap.size W W' := hb
  exact ⟨_, rfl, _, _, _, [], _, [], hW', trodAll_mk1 (shut_bool Try.underlying4 _), (trodAll_cons_mk (Below.trod laidOut (by kernel_rfl) (of_decide_eq_true (by kernel_rfl)) k0 bel lt0) (trodAll_cons_mk (Below.trod laidOut (by kernel_rfl) (of_decide_eq_true (by kernel_rfl)) k1 bel lt1) trodAll_mk0)), rfl, bel.frame _, fun h => by cases h⟩
theorem j0 : (Rows.listPacksRow.wf (OpenSpec.ofChange Rows.listPacksSpec)) = true := by kernel_rfl
theorem j1 : (laidOutB Try.pinned.checked.prog) = true := rowfact_laidOut
theorem j2 : (mapsRowed Try.pinned.checked.prog) = true := rowfact_mapsRowed
theorem j3 : (Try.f6.params.all (Try.pinned.checked.prog.readableRec ·)) = true := by kernel_rfl
theorem j4 : (namedTie Try.pinned.checked.prog Rows.listPacksRow.named Rows.listPacksSpec.vars) = true := by kernel_rfl
theorem j5 : ((Rows.listPacksRow.stops == [])) = true := by kernel_rfl
theorem j6 : ((Try.pinned.checked.prog.stops == [])) = true := by kernel_rfl
theorem j7 : ((Rows.listPacksRow.knobs == [])) = true := by kernel_rfl
theorem j8 : ((Try.pinned.checked.prog.stopKnobs == [])) = true := by kernel_rfl
theorem j9 : ((Rows.listPacksRow.inPlace == Try.pinned.checked.prog.inPlace 6)) = true := by kernel_rfl
theorem j10 : ((Rows.listPacksRow.unfollowed == Try.pinned.checked.prog.unfollowed 6)) = true := by kernel_rfl
theorem j11 : ((Rows.listPacksRow.recurses == Try.pinned.checked.prog.recurses 6)) = true := by kernel_rfl
theorem j12 : ((Rows.listPacksRow.named == Try.pinned.checked.prog.varsNamed 6)) = true := by kernel_rfl
theorem j13 : ((Rows.listPacksRow.maps == (Try.f6.params.toList ++ Rows.listPacksSpec.plain.varTypes Try.pinned.checked.prog).any (Try.pinned.checked.prog.mapsRec ·))) = true := by kernel_rfl
theorem j14 : ((Rows.listPacksRow.ifaces == (Try.f6.params.toList ++ Rows.listPacksSpec.plain.varTypes Try.pinned.checked.prog).any (Try.pinned.checked.prog.ifacesRec ·))) = true := by kernel_rfl
theorem j15 : ((Rows.listPacksRow.mapsOut == Try.pinned.checked.prog.mapsAmong Try.f6.resultTypes.toList)) = true := by kernel_rfl
theorem j16 : ((Rows.listPacksRow.loops == (Try.f6.params.toList ++ Rows.listPacksSpec.plain.varTypes Try.pinned.checked.prog).any (Try.pinned.checked.prog.loopsFrom ·))) = true := by kernel_rfl
theorem j17 : ((Rows.listPacksRow.wideKeys == (Try.f6.params.toList ++ Rows.listPacksSpec.plain.varTypes Try.pinned.checked.prog ++ Try.f6.resultTypes.toList).any (Try.pinned.checked.prog.wideKeysFrom ·))) = true := by kernel_rfl
theorem j18 : (Rows.listPacksSpec.vars.all (Try.pinned.checked.prog.varReadable ·)) = true := by kernel_rfl
theorem j19 : (Try.f6.resultTypes.all (fun t => Try.pinned.checked.prog.readableRec t && decide (t < Try.pinned.checked.prog.types.size))) = true := by kernel_rfl
theorem j20 : ((Rows.listPacksRow.ifacesOut == Try.f6.resultTypes.toList.any (Try.pinned.checked.prog.ifacesRec ·))) = true := by kernel_rfl
theorem j21 : ((Rows.listPacksRow.loopsOut == Try.f6.resultTypes.toList.any (Try.pinned.checked.prog.loopsFrom ·))) = true := by kernel_rfl
theorem j22 : ((Rows.listPacksRow.plainKeys == Try.pinned.checked.prog.plainKeys)) = true := by kernel_rfl
theorem j23 : (Rows.listPacksRow.shortTexts.isNone) = true := by kernel_rfl
theorem j24 : (Try.pinned.checked.prog.stopsHeard) = true := rowfact_stopsHeard
theorem j25 : (Try.pinned.checked.prog.mayEnter) = true := rowfact_mayEnter
theorem j26 : ((Rows.listPacksRow.lifted == Try.pinned.checked.prog.liftsFinal)) = true := by rw [rowfact_lifts]; kernel_rfl
theorem j27 : ((Try.pinned.checked.prog.make == some Rows.listPacksRow.make)) = true := by rw [rowfact_make]; kernel_rfl
theorem j28 : ((Rows.listPacksRow.kinds == (if Rows.listPacksRow.domain.isEmpty then [] else Try.f6.params.toList.map fun t => match Try.pinned.checked.prog.underlying t with | some (.int k) => some k | _ => none))) = true := by kernel_rfl
theorem j29 : ((Rows.listPacksRow.pinned == Rows.listPacksRow.pinnedBy)) = true := by kernel_rfl
theorem j30 : ((Rows.listPacksRow.veiled == (Try.f6.params.toList ++ Rows.listPacksSpec.plain.varTypes Try.pinned.checked.prog ++ Try.f6.resultTypes.toList).any (Try.pinned.checked.prog.veiledRec ·))) = true := by kernel_rfl
theorem j31 : (Rows.listPacksRow.veiledFits Try.pinned.checked.prog Try.f6.params.toList (Try.f6.params.toList ++ Rows.listPacksSpec.plain.varTypes Try.pinned.checked.prog ++ Try.f6.resultTypes.toList)) = true := by kernel_rfl
set_option maxRecDepth 100000 in
theorem closed : joinedFacts Try.pinned.checked.prog 6 Try.f6 Rows.listPacksSpec Rows.listPacksRow = true := gen_closed _ _ _ _ _ j0 j1 j2 j3 j4 j5 j6 j7 j8 j9 j10 j11 j12 j13 j14 j15 j16 j17 j18 j19 j20 j21 j22 j23 j24 j25 j26 j27 j28 j29 j30 j31
theorem over : Rows.listPacksRow.holds Try.pinned (OpenSpec.ofChange Rows.listPacksSpec) :=
  OpenClaim.holds_of_wide 6 Try.f6 rfl rfl rfl rfl rfl rfl rfl ⟨rfl, rfl, rfl, rfl, rfl⟩ rfl rfl rfl rfl rfl (by kernel_rfl) Try.func6 closed
    (of_decide_eq_true (by kernel_rfl)) (by unfold Func.isWrapper; first | (rw [if_pos (by decide +kernel)]; kernel_rfl) | (rw [if_neg (by decide +kernel)]; exact ⟨rfl, rfl⟩))
    (fun os started H enc _ => lifted os started H enc)
end Go.Proofs.Ytpfpmjdifnoeoaa.listPacks
namespace Go.Proofs.Ytpfpmjdifnoeoaa
theorem listPacks_holds : Rows.ListPacksSaid := listPacks.over
#print axioms listPacks_holds
end Go.Proofs.Ytpfpmjdifnoeoaa
