/- The law gemot/gemotlaw1.TermNames: for every input it returns true, and the input reads behind the call as it read before; no condition. -/
import Derived.Test.YtpfpmjdifnoeoaaLMade
import Derived.Test.YtpfpmjdifnoeoaaF87
import Derived.Test.YtpfpmjdifnoeoaaF99
import Derived.Test.YtpfpmjdifnoeoaaF15
import Derived.Test.YtpfpmjdifnoeoaaRows
import Derived.Test.YtpfpmjdifnoeoaaRowOpen
import Derived.Test.YtpfpmjdifnoeoaaRowFacts
import Derived.WalkKit
import Derived.ProofKit
import Derived.OpenShut
import Derived.ShutString
import Derived.ChangeOld
import Derived.Below
import Derived.SizedLaws
import Derived.Carry
import Derived.WideShapes
namespace Go.Proofs.Ytpfpmjdifnoeoaa.Pure
set_option linter.unusedVariables false
set_option linter.unusedSimpArgs false
open Go.RowKit Go.Proofs.Ytpfpmjdifnoeoaa.F Go.Proofs.YtpfpmjdifnoeoaaW.PrintWords Go.Proofs.YtpfpmjdifnoeoaaW.PrintLast Go.Proofs.YtpfpmjdifnoeoaaW.PrintMore

theorem rg64 {a : Int} (h : (Lit.int .i64 a).wf = true) : -9223372036854775808 ≤ a ∧ a ≤ 9223372036854775807 := by
  simp only [Lit.wf, IntKind.min, IntKind.max, IntKind.signed, IntKind.bits, Bool.and_eq_true, decide_eq_true_eq, if_true, Bool.false_eq_true, if_false] at h
  omega
theorem rgu64 {a : Int} (h : (Lit.int .u64 a).wf = true) : 0 ≤ a ∧ a < 18446744073709551616 := by
  simp only [Lit.wf, IntKind.min, IntKind.max, IntKind.signed, IntKind.bits, Bool.and_eq_true, decide_eq_true_eq, if_true, Bool.false_eq_true, if_false] at h
  omega
theorem tl_eq {a b : ByteArray} : a.toList = b.toList ↔ a = b :=
  ⟨fun h => by rw [ByteArray.toList_eq, ByteArray.toList_eq] at h; exact ByteArray.ext (Array.ext' h), fun h => by rw [h]⟩
theorem tl_beq {a b c d : ByteArray} (h : a = b ↔ c = d) : (a.toList == b.toList) = (c.toList == d.toList) := by
  rw [Bool.eq_iff_iff, beq_iff_eq, beq_iff_eq, tl_eq, tl_eq]; exact h
theorem tl_beq_int {a b : ByteArray} {x y : Int} (h : a = b ↔ x = y) : (a.toList == b.toList) = (x == y) := by
  rw [Bool.eq_iff_iff, beq_iff_eq, beq_iff_eq, tl_eq]; exact h
theorem ne_bt {a b : ByteArray} (h : bt a 0 ≠ bt b 0) : ¬ a.toList = b.toList := fun q => h (by rw [tl_eq.mp q])
theorem tl_nil {a : ByteArray} : a.toList = ([] : List UInt8) ↔ a = ⟨#[]⟩ := by
  have : (⟨#[]⟩ : ByteArray).toList = [] := by rw [ByteArray.toList_eq]
  constructor
  · intro h; exact tl_eq.mp (h.trans this.symm)
  · intro h; rw [h, this]
theorem depth_right {t : ByteArray} (h : rightB t = true) : depthF t = depF t := by
  have ht := ((right_iff t).mp h).1
  unfold depthF scanF
  rw [if_pos h, if_pos ht.1]; rfl
theorem depth_not {t : ByteArray} (h : rightB t = false) : depthF t = 0 := by
  unfold depthF
  rw [if_neg (by rw [h]; simp)]
theorem leaf_dep {t : ByteArray} (h : Leaf t) (hs : t.size ≤ 20000) : depthF t = 1 := by rw [depth_right (h.right hs), h.tm.2]
theorem Part.dep1 {m : Int} {t : ByteArray} (h : Part m t) : 1 ≤ depF t := h.tm.dep.1
/-! ### Eight bytes say a number -/
theorem cnt_byte {a b : Int} (h : UInt8.ofNat (a % 256).toNat = UInt8.ofNat (b % 256).toNat) : a % 256 = b % 256 := by
  have := congrArg UInt8.toNat h
  rw [UInt8.toNat_ofNat_of_lt' (by show (a % 256).toNat < 256; omega), UInt8.toNat_ofNat_of_lt' (by show (b % 256).toNat < 256; omega)] at this
  omega
theorem cnt_inj {c a b : Int} (ha : 0 ≤ a ∧ a < 18446744073709551616) (hb : 0 ≤ b ∧ b < 18446744073709551616) (h : countF c a = countF c b) : a = b := by
  have h1 := congrArg (fun x => x.data.toList) h
  simp only [countF, strOfNums, eightL, List.map_cons, List.map_nil, List.toList_toArray, List.cons.injEq, and_true, true_and] at h1
  obtain ⟨h7, h6, h5, h4, h3, h2, h1, h0⟩ := h1
  replace h7 := cnt_byte h7
  replace h6 := cnt_byte h6
  replace h5 := cnt_byte h5
  replace h4 := cnt_byte h4
  replace h3 := cnt_byte h3
  replace h2 := cnt_byte h2
  replace h1 := cnt_byte h1
  replace h0 := cnt_byte h0
  have s : ∀ (x : Int) (j : Nat), j ≤ 64 → shr .u64 x (j : Int) = x / ((2 ^ j : Nat) : Int) := by
    intro x j hj
    unfold shr
    rw [Nat.min_eq_left (by show ((j : Int)).toNat ≤ 64; omega), Int.toNat_natCast]
    congr 1
  have t : ∀ (x : Int) (j : Nat), j ≤ 56 → shr .u64 x ((j + 8 : Nat) : Int) = shr .u64 x (j : Int) / 256 := by
    intro x j hj
    rw [s x _ (by omega), s x _ (by omega), Int.ediv_ediv_of_nonneg (Int.natCast_nonneg _), Nat.pow_add]
    simp
  have step : ∀ j : Nat, j ≤ 56 → shr .u64 a (j : Int) % 256 = shr .u64 b (j : Int) % 256 → shr .u64 a ((j + 8 : Nat) : Int) = shr .u64 b ((j + 8 : Nat) : Int) → shr .u64 a (j : Int) = shr .u64 b (j : Int) := by
    intro j hj e1 e2
    rw [t a j hj, t b j hj] at e2
    omega
  have top : shr .u64 a ((64 : Nat) : Int) = shr .u64 b ((64 : Nat) : Int) := by
    rw [s a 64 (by omega), s b 64 (by omega)]
    have : ((2 ^ 64 : Nat) : Int) = 18446744073709551616 := by decide
    rw [this]
    omega
  have r := step 0 (by omega) h0 (step 8 (by omega) h1 (step 16 (by omega) h2 (step 24 (by omega) h3 (step 32 (by omega) h4 (step 40 (by omega) h5 (step 48 (by omega) h6 (step 56 (by omega) h7 top)))))))
  rw [s a 0 (by omega), s b 0 (by omega)] at r
  simpa using r
theorem text_inj {s t : ByteArray} (hs : s.size ≤ 100) (ht : t.size ≤ 100) (h : (textF s).1 = (textF t).1) : s = t := by
  rw [(text_ok hs).1, (text_ok ht).1] at h
  have h2 := congrArg bl h
  rw [bl_app, bl_app] at h2
  exact bl_inj (List.append_inj h2 rfl).2
end Go.Proofs.Ytpfpmjdifnoeoaa.Pure
namespace Go.Proofs.Ytpfpmjdifnoeoaa.Pure
set_option linter.unusedVariables false
set_option linter.unusedSimpArgs false
open Go.RowKit Go.Proofs.Ytpfpmjdifnoeoaa.F Go.Proofs.YtpfpmjdifnoeoaaW.PrintWords Go.Proofs.YtpfpmjdifnoeoaaW.PrintLast Go.Proofs.YtpfpmjdifnoeoaaW.PrintMore

theorem TermNames : ∀ (a0 : Int) (a1 : Int) (a2 : ByteArray) (a3 : ByteArray), ((Lit.int .u64 a0).wf = true) → ((Lit.int .u64 a1).wf = true) → (a2.size ≤ 9223372036854775807) → (a3.size ≤ 9223372036854775807) → ∃ k, gemotlaw1_TermNames.f k a0 a1 a2 a3 = some true := by
  intro a0 a1 a2 a3 h0 h1 _ _
  have r0 := rgu64 h0
  have r1 := rgu64 h1
  refine ⟨2, ?_⟩
  unfold gemotlaw1_TermNames.f gemotlaw1_shown.f
  rw [Option.bind_some, if_pos rfl]
  by_cases c2 : (a2.size : Int) > 100
  · rw [if_pos c2]; rfl
  rw [if_neg c2]
  by_cases c3 : (a3.size : Int) > 100
  · rw [decide_eq_true c3]; rfl
  rw [decide_eq_false c3, gemotlaw1_TermNames.j0, if_neg (by decide)]
  have k2 := text_ok (s := a2) (by omega)
  have k3 := text_ok (s := a3) (by omega)
  have e1 : ((textF a2).1.toList == (textF a3).1.toList) = (a2.toList == a3.toList) := tl_beq ⟨fun h => text_inj (by omega) (by omega) h, fun h => by rw [h]⟩
  have e2 : ((nameF a0).toList == (nameF a1).toList) = (a0 == a1) := tl_beq_int ⟨fun h => cnt_inj r0 r1 h, fun h => by rw [h]⟩
  have e3 : ((numF a0).toList == (numF a1).toList) = (a0 == a1) := tl_beq_int ⟨fun h => cnt_inj r0 r1 h, fun h => by rw [h]⟩
  have e4 : ¬ (nameF a0).toList = (numF a1).toList := ne_bt (by show ¬ ((110 : Int) = 117); decide)
  have b2 := (text_bytes a2 (by omega))
  have e5 : ¬ (textF a2).1.toList = (nameF a0).toList := ne_bt (by rw [k2.1, b2.1]; show ¬ ((116 : Int) = 110); decide)
  have e6 : ¬ (textF a2).1.toList = (⟨#[103]⟩ : ByteArray).toList := ne_bt (by rw [k2.1, b2.1]; show ¬ ((116 : Int) = 103); decide)
  have hz := b2.2.2.2
  have hn := name_size a0
  unfold term_Text.f term_Name.f term_Number.f term_Gen.f term_Right.f term_Depth.f
  rw [Option.bind_some, Option.bind_some, if_pos (by rw [k2.1]), if_pos (by rw [k3.1]), e1, if_pos (by simp), Option.bind_some, Option.bind_some, e2, if_pos (by simp), Option.bind_some, Option.bind_some, e3, if_pos (by simp), Option.bind_some, Option.bind_some, if_neg e4, Option.bind_some, if_neg e5, Option.bind_some, if_neg e6]
  rw [k2.1]
  simp only
  rw [if_pos (by omega), Option.bind_some, if_pos (k2.2.right (by omega)), Option.bind_some, if_pos (by omega), Option.bind_some, if_pos ((name_leaf a0).right (by omega)), if_pos (by omega), Option.bind_some, leaf_dep k2.2 (by omega)]
  rfl
end Go.Proofs.Ytpfpmjdifnoeoaa.Pure
namespace Go.Proofs.Ytpfpmjdifnoeoaa.termNames
open Go.ChangeShapes Go.WideShapes Go.ChangeAt Go.RowKit Go.Proofs.Ytpfpmjdifnoeoaa.F Go.Proofs.YtpfpmjdifnoeoaaW.PrintWords Go.Proofs.YtpfpmjdifnoeoaaW.PrintLast Go.Proofs.YtpfpmjdifnoeoaaW.PrintMore
open Go.ChangeMaps (open_string shut_string)
set_option linter.unusedVariables false
set_option linter.unusedSimpArgs false
theorem own : ownKnob Try.prog.godebug = none := by kernel_rfl
theorem laidOut : laidOutB Try.prog = true := by kernel_rfl
set_option maxRecDepth 100000 in
theorem lifted (os : Os) (started : os.Started) (H : Type) (enc : TypeId × Value → H) :
    ReturnsInHanded {} Try.checked os 15 .any (Rows.termNamesSpec.pre6 enc Try.prog Try.f15 Rows.termNamesRow.domain false) (Rows.termNamesSpec.post enc Try.prog Try.f15 false true false false) := by
  refine returnsInHanded_of_change_sized (C := Try.checked) own started (by kernel_rfl) Try.func15
    (ChangeSpec.witness6 (enc := enc) (C := Try.checked) false ⟨#[], #[.int .u64 0, .int .u64 0, .string ByteArray.empty, .string ByteArray.empty], []⟩ 8 (by kernel_rfl) (by kernel_rfl) (by kernel_rfl) (by kernel_rfl)) ?_
  intro W base args ds gs before hval0 hW hcnd hsz0 _
  have hval : ∀ (j : Nat) t v, Try.f15.params[j]? = some t → args[j]? = some v → Value.okWide Try.prog W .any base t v := hval0
  have hW' := hW
  obtain ⟨p, q, hA0, hV, rfl, hfz, hnd⟩ := hW
  have hA : DataW.TrodAll enc Try.prog W 0 (fun _ => true) true Try.f15.params.toList args.toList ds p := hA0
  rw [Try.params15] at hA hval
  obtain ⟨v0, vs0, d0, ds0, p0, q0, hargs, rfl, rfl, h0, r0⟩ := trodAll_cons hA
  obtain ⟨v1, vs1, d1, ds1, p1, q1, rfl, rfl, rfl, h1, r1⟩ := trodAll_cons r0
  obtain ⟨v2, vs2, d2, ds2, p2, q2, rfl, rfl, rfl, h2, r2⟩ := trodAll_cons r1
  obtain ⟨v3, vs3, d3, ds3, p3, q3, rfl, rfl, rfl, h3, r3⟩ := trodAll_cons r2
  obtain ⟨rfl, rfl, rfl⟩ := trodAll_nil r3
  obtain rfl : args = #[v0, v1, v2, v3] := by cases args; simp_all
  obtain ⟨rfl, rfl⟩ := trodVars_none hV
  have k0 := h0
  have lt0 : ∀ x ∈ p0, x.block < W.heap.size := by obtain ⟨m, hm⟩ := k0; exact DataW.trod_lt m _ _ _ hm
  obtain ⟨a0, rfl, _, _, w0⟩ := open_int Try.underlying72 (hval 0 72 v0 rfl rfl) h0
  have k1 := h1
  have lt1 : ∀ x ∈ p1, x.block < W.heap.size := by obtain ⟨m, hm⟩ := k1; exact DataW.trod_lt m _ _ _ hm
  obtain ⟨a1, rfl, _, _, w1⟩ := open_int Try.underlying72 (hval 1 72 v1 rfl rfl) h1
  have k2 := h2
  have lt2 : ∀ x ∈ p2, x.block < W.heap.size := by obtain ⟨m, hm⟩ := k2; exact DataW.trod_lt m _ _ _ hm
  obtain ⟨a2, rfl, _, _, w2⟩ := open_string Try.underlying9 (hval 2 9 v2 rfl rfl) h2
  have k3 := h3
  have lt3 : ∀ x ∈ p3, x.block < W.heap.size := by obtain ⟨m, hm⟩ := k3; exact DataW.trod_lt m _ _ _ hm
  obtain ⟨a3, rfl, _, _, w3⟩ := open_string Try.underlying9 (hval 3 9 v3 rfl rfl) h3
  obtain ⟨k, hp⟩ := Pure.TermNames a0 a1 a2 a3 w0 w1 w2 w3
  refine (gemotlaw1_TermNames.calls k a0 a1 a2 a3 true W  hp).mono fun e W' he => ?_
  obtain ⟨he, hb⟩ := he
  subst he
  have bel : Below W.heap.size W W' := hb
  exact ⟨_, rfl, _, _, _, [], _, [], hW', trodAll_mk1 (shut_bool Try.underlying4 _), (trodAll_cons_mk (Below.trod laidOut (by kernel_rfl) (of_decide_eq_true (by kernel_rfl)) k0 bel lt0) (trodAll_cons_mk (Below.trod laidOut (by kernel_rfl) (of_decide_eq_true (by kernel_rfl)) k1 bel lt1) (trodAll_cons_mk (Below.trod laidOut (by kernel_rfl) (of_decide_eq_true (by kernel_rfl)) k2 bel lt2) (trodAll_cons_mk (Below.trod laidOut (by kernel_rfl) (of_decide_eq_true (by kernel_rfl)) k3 bel lt3) trodAll_mk0)))), rfl, bel.frame _, fun h => by cases h⟩
theorem j0 : (Rows.termNamesRow.wf (OpenSpec.ofChange Rows.termNamesSpec)) = true := by kernel_rfl
theorem j1 : (laidOutB Try.pinned.checked.prog) = true := rowfact_laidOut
theorem j2 : (mapsRowed Try.pinned.checked.prog) = true := rowfact_mapsRowed
theorem j3 : (Try.f15.params.all (Try.pinned.checked.prog.readableRec ·)) = true := by kernel_rfl
theorem j4 : (namedTie Try.pinned.checked.prog Rows.termNamesRow.named Rows.termNamesSpec.vars) = true := by kernel_rfl
theorem j5 : ((Rows.termNamesRow.stops == [])) = true := by kernel_rfl
theorem j6 : ((Try.pinned.checked.prog.stops == [])) = true := by kernel_rfl
theorem j7 : ((Rows.termNamesRow.knobs == [])) = true := by kernel_rfl
theorem j8 : ((Try.pinned.checked.prog.stopKnobs == [])) = true := by kernel_rfl
theorem j9 : ((Rows.termNamesRow.inPlace == Try.pinned.checked.prog.inPlace 15)) = true := by kernel_rfl
theorem j10 : ((Rows.termNamesRow.unfollowed == Try.pinned.checked.prog.unfollowed 15)) = true := by kernel_rfl
theorem j11 : ((Rows.termNamesRow.recurses == Try.pinned.checked.prog.recurses 15)) = true := by kernel_rfl
theorem j12 : ((Rows.termNamesRow.named == Try.pinned.checked.prog.varsNamed 15)) = true := by kernel_rfl
theorem j13 : ((Rows.termNamesRow.maps == (Try.f15.params.toList ++ Rows.termNamesSpec.plain.varTypes Try.pinned.checked.prog).any (Try.pinned.checked.prog.mapsRec ·))) = true := by kernel_rfl
theorem j14 : ((Rows.termNamesRow.ifaces == (Try.f15.params.toList ++ Rows.termNamesSpec.plain.varTypes Try.pinned.checked.prog).any (Try.pinned.checked.prog.ifacesRec ·))) = true := by kernel_rfl
theorem j15 : ((Rows.termNamesRow.mapsOut == Try.pinned.checked.prog.mapsAmong Try.f15.resultTypes.toList)) = true := by kernel_rfl
theorem j16 : ((Rows.termNamesRow.loops == (Try.f15.params.toList ++ Rows.termNamesSpec.plain.varTypes Try.pinned.checked.prog).any (Try.pinned.checked.prog.loopsFrom ·))) = true := by kernel_rfl
theorem j17 : ((Rows.termNamesRow.wideKeys == (Try.f15.params.toList ++ Rows.termNamesSpec.plain.varTypes Try.pinned.checked.prog ++ Try.f15.resultTypes.toList).any (Try.pinned.checked.prog.wideKeysFrom ·))) = true := by kernel_rfl
theorem j18 : (Rows.termNamesSpec.vars.all (Try.pinned.checked.prog.varReadable ·)) = true := by kernel_rfl
theorem j19 : (Try.f15.resultTypes.all (fun t => Try.pinned.checked.prog.readableRec t && decide (t < Try.pinned.checked.prog.types.size))) = true := by kernel_rfl
theorem j20 : ((Rows.termNamesRow.ifacesOut == Try.f15.resultTypes.toList.any (Try.pinned.checked.prog.ifacesRec ·))) = true := by kernel_rfl
theorem j21 : ((Rows.termNamesRow.loopsOut == Try.f15.resultTypes.toList.any (Try.pinned.checked.prog.loopsFrom ·))) = true := by kernel_rfl
theorem j22 : ((Rows.termNamesRow.plainKeys == Try.pinned.checked.prog.plainKeys)) = true := by kernel_rfl
theorem j23 : (Rows.termNamesRow.shortTexts.isNone) = true := by kernel_rfl
theorem j24 : (Try.pinned.checked.prog.stopsHeard) = true := rowfact_stopsHeard
theorem j25 : (Try.pinned.checked.prog.mayEnter) = true := rowfact_mayEnter
theorem j26 : ((Rows.termNamesRow.lifted == Try.pinned.checked.prog.liftsFinal)) = true := by rw [rowfact_lifts]; kernel_rfl
theorem j27 : ((Try.pinned.checked.prog.make == some Rows.termNamesRow.make)) = true := by rw [rowfact_make]; kernel_rfl
theorem j28 : ((Rows.termNamesRow.kinds == (if Rows.termNamesRow.domain.isEmpty then [] else Try.f15.params.toList.map fun t => match Try.pinned.checked.prog.underlying t with | some (.int k) => some k | _ => none))) = true := by kernel_rfl
theorem j29 : ((Rows.termNamesRow.pinned == Rows.termNamesRow.pinnedBy)) = true := by kernel_rfl
theorem j30 : ((Rows.termNamesRow.veiled == (Try.f15.params.toList ++ Rows.termNamesSpec.plain.varTypes Try.pinned.checked.prog ++ Try.f15.resultTypes.toList).any (Try.pinned.checked.prog.veiledRec ·))) = true := by kernel_rfl
theorem j31 : (Rows.termNamesRow.veiledFits Try.pinned.checked.prog Try.f15.params.toList (Try.f15.params.toList ++ Rows.termNamesSpec.plain.varTypes Try.pinned.checked.prog ++ Try.f15.resultTypes.toList)) = true := by kernel_rfl
set_option maxRecDepth 100000 in
theorem closed : joinedFacts Try.pinned.checked.prog 15 Try.f15 Rows.termNamesSpec Rows.termNamesRow = true := gen_closed _ _ _ _ _ j0 j1 j2 j3 j4 j5 j6 j7 j8 j9 j10 j11 j12 j13 j14 j15 j16 j17 j18 j19 j20 j21 j22 j23 j24 j25 j26 j27 j28 j29 j30 j31
theorem over : Rows.termNamesRow.holds Try.pinned (OpenSpec.ofChange Rows.termNamesSpec) :=
  OpenClaim.holds_of_wide 15 Try.f15 rfl rfl rfl rfl rfl rfl rfl ⟨rfl, rfl, rfl, rfl, rfl⟩ rfl rfl rfl rfl rfl (by kernel_rfl) Try.func15 closed
    (of_decide_eq_true (by kernel_rfl)) (by unfold Func.isWrapper; first | (rw [if_pos (by decide +kernel)]; kernel_rfl) | (rw [if_neg (by decide +kernel)]; exact ⟨rfl, rfl⟩))
    (fun os started H enc _ => lifted os started H enc)
end Go.Proofs.Ytpfpmjdifnoeoaa.termNames
namespace Go.Proofs.Ytpfpmjdifnoeoaa
/-- The given statement, proved. -/
theorem termNames_holds : Rows.TermNamesSaid := termNames.over
#print axioms termNames_holds
end Go.Proofs.Ytpfpmjdifnoeoaa
