/- The law gemot/gemotlaw10.ViewParts: for every input it returns true, and the input reads behind the call as it read before; no condition. -/
import Derived.Test.YtenmlpkgodnjnaaRows
import Derived.Test.YtenmlpkgodnjnaaF8
import Derived.Test.YtenmlpkgodnjnaaRowOpen
import Derived.Test.YtenmlpkgodnjnaaPureViewParts
import Derived.WalkKit
import Derived.ProofKit
import Derived.OpenShut
import Derived.ShutString
import Derived.ChangeOld
import Derived.Below
import Derived.SizedLaws
import Derived.Carry
import Derived.WideShapes
namespace Go.Proofs.Ytenmlpkgodnjnaa.viewParts
open Go.ChangeShapes Go.WideShapes Go.ChangeAt Go.RowKit Go.Proofs.Ytenmlpkgodnjnaa.F Go.Proofs.YtenmlpkgodnjnaaW.PrintWords Go.Proofs.YtenmlpkgodnjnaaW.PrintLast Go.Proofs.YtenmlpkgodnjnaaW.PrintMore
open Go.ChangeMaps (open_string shut_string)
set_option linter.unusedVariables false
set_option linter.unusedSimpArgs false
theorem own : ownKnob Try.prog.godebug = none := by kernel_rfl
theorem laidOut : laidOutB Try.prog = true := by kernel_rfl
def wf23 (x : S23) : Prop := ((Lit.int .i64 x.f0).wf = true) ∧ ((Lit.int .i64 x.f1).wf = true)
theorem opens_T23 : Opens Try.prog 23 k23 wf23 := by
  intro H enc w spare held fuel cs x h
  obtain ⟨xs, n, _, _, hl, hlen, hg⟩ := DataW.trod_struct Try.underlying23 h
  have hl' : cs.length = 2 := hl.trans (by kernel_rfl)
  obtain ⟨a0, h0, w0⟩ := opens_field hlen hg 0 _ rfl (opens_int Try.underlying3) 0 1 rfl (by kernel_rfl)
  obtain ⟨a1, h1, w1⟩ := opens_field hlen hg 1 _ rfl (opens_int Try.underlying3) 1 1 rfl (by kernel_rfl)
  have e : cs = (cs.drop 0).take 1 ++ ((cs.drop 1).take 1) := ((cut2 cs 0 1 1 hl').trans (congrArg (fun z => (cs.drop 0).take 1 ++ z) (cut1 cs 1 1 hl')))
  exact ⟨⟨a0, a1⟩, ⟨_, _, e, h0, h1⟩, w0, w1⟩
structure S53 where
  f0 : S23
  f1 : List Int
def k53 : Kd S53 := Kd.iso (Kd.pair k23 (Kd.slice 3 (Kd.int .i64))) (fun x : S53 => (x.f0, x.f1))
def wf53 (x : S53) : Prop := (wf23 x.f0) ∧ (x.f1.length ≤ 9223372036854775807 ∧ ∀ y ∈ x.f1, (Lit.int .i64 y).wf = true)
theorem opens_T53 : Opens Try.prog 53 k53 wf53 := by
  intro H enc w spare held fuel cs x h
  obtain ⟨xs, n, _, _, hl, hlen, hg⟩ := DataW.trod_struct Try.underlying53 h
  have hl' : cs.length = 3 := hl.trans (by kernel_rfl)
  obtain ⟨a0, h0, w0⟩ := opens_field hlen hg 0 _ rfl opens_T23 0 2 rfl (by kernel_rfl)
  obtain ⟨a1, h1, w1⟩ := opens_field hlen hg 1 _ rfl (opens_slice Try.underlying28 (by kernel_rfl) (opens_int Try.underlying3)) 2 1 rfl (by kernel_rfl)
  have e : cs = (cs.drop 0).take 2 ++ ((cs.drop 2).take 1) := ((cut2 cs 0 2 1 hl').trans (congrArg (fun z => (cs.drop 0).take 2 ++ z) (cut1 cs 2 1 hl')))
  exact ⟨⟨a0, a1⟩, ⟨_, _, e, h0, h1⟩, w0, w1⟩
set_option maxRecDepth 100000 in
theorem lifted (os : Os) (started : os.Started) (H : Type) (enc : TypeId × Value → H) :
    ReturnsInHanded {} Try.checked os 8 .any (Rows.viewPartsSpec.pre6 enc Try.prog Try.f8 Rows.viewPartsRow.domain false) (Rows.viewPartsSpec.post enc Try.prog Try.f8 false true false false) := by
  refine returnsInHanded_of_change_sized (C := Try.checked) own started (by kernel_rfl) Try.func8
    (ChangeSpec.witness6 (enc := enc) (C := Try.checked) false ⟨#[], #[.agg #[.int .i64 0, .int .i64 0, .slice none 0 0], .agg #[.int .i64 0, .int .i64 0, .slice none 0 0]], []⟩ 8 (by kernel_rfl) (by kernel_rfl) (by kernel_rfl) (by kernel_rfl)) ?_
  intro W base args ds gs before hval0 hW hcnd hsz0 _
  have hval : ∀ (j : Nat) t v, Try.f8.params[j]? = some t → args[j]? = some v → Value.okWide Try.prog W .any base t v := hval0
  have hW' := hW
  obtain ⟨p, q, hA0, hV, rfl, hfz, hnd⟩ := hW
  have hA : DataW.TrodAll enc Try.prog W 0 (fun _ => true) true Try.f8.params.toList args.toList ds p := hA0
  rw [Try.params8] at hA hval
  obtain ⟨v0, vs0, d0, ds0, p0, q0, hargs, rfl, rfl, h0, r0⟩ := trodAll_cons hA
  obtain ⟨v1, vs1, d1, ds1, p1, q1, rfl, rfl, rfl, h1, r1⟩ := trodAll_cons r0
  obtain ⟨rfl, rfl, rfl⟩ := trodAll_nil r1
  obtain rfl : args = #[v0, v1] := by cases args; simp_all
  obtain ⟨rfl, rfl⟩ := trodVars_none hV
  have k0 := h0
  have lt0 : ∀ x ∈ p0, x.block < W.heap.size := by obtain ⟨m, hm⟩ := k0; exact DataW.trod_lt m _ _ _ hm
  obtain ⟨⟨cs0⟩, rfl, _⟩ := okWide_struct Try.underlying53 (hval 0 53 v0 rfl rfl)
  obtain ⟨fuel0, hf0⟩ := h0
  obtain ⟨x0, hK0, w0⟩ := opens_T53 enc W _ _ _ _ _ hf0
  have hK0' : k53.K W x0 cs0 := hK0
  obtain ⟨_, _, rfl, ⟨_, _, rfl, rfl, rfl⟩, ⟨A0_2, c0_2, rfl, hc0_2, hr0_2⟩⟩ := hK0'
  have k1 := h1
  have lt1 : ∀ x ∈ p1, x.block < W.heap.size := by obtain ⟨m, hm⟩ := k1; exact DataW.trod_lt m _ _ _ hm
  obtain ⟨⟨cs1⟩, rfl, _⟩ := okWide_struct Try.underlying53 (hval 1 53 v1 rfl rfl)
  obtain ⟨fuel1, hf1⟩ := h1
  obtain ⟨x1, hK1, w1⟩ := opens_T53 enc W _ _ _ _ _ hf1
  have hK1' : k53.K W x1 cs1 := hK1
  obtain ⟨_, _, rfl, ⟨_, _, rfl, rfl, rfl⟩, ⟨A1_2, c1_2, rfl, hc1_2, hr1_2⟩⟩ := hK1'
  obtain ⟨k, hp⟩ := Pure.ViewParts x0.f0.f0 x0.f0.f1 x0.f1 x1.f0.f0 x1.f0.f1 x1.f1 w0.1.1 w0.1.2 w0.2 w1.1.1 w1.1.2 w1.2
  refine (gemotlaw10_ViewParts.calls k x0.f0.f0 x0.f0.f1 _ _ x0.f1 x1.f0.f0 x1.f0.f1 _ _ x1.f1 true W hr0_2 hc0_2 hr1_2 hc1_2 hp).mono fun e W' he => ?_
  obtain ⟨he, hb⟩ := he
  subst he
  have bel : Below W.heap.size W W' := hb
  exact ⟨_, rfl, _, _, _, [], _, [], hW', trodAll_mk1 (shut_bool Try.underlying4 _), (trodAll_cons_mk (Below.trod laidOut (by kernel_rfl) (of_decide_eq_true (by kernel_rfl)) k0 bel lt0) (trodAll_cons_mk (Below.trod laidOut (by kernel_rfl) (of_decide_eq_true (by kernel_rfl)) k1 bel lt1) trodAll_mk0)), rfl, bel.frame _, fun h => by cases h⟩
theorem over : Rows.viewPartsRow.holds Try.pinned (OpenSpec.ofChange Rows.viewPartsSpec) :=
  OpenClaim.holds_of_wide 8 Try.f8 rfl rfl rfl rfl rfl rfl rfl ⟨rfl, rfl, rfl, rfl, rfl⟩ rfl rfl rfl rfl rfl (by kernel_rfl) Try.func8 (by kernel_rfl)
    (of_decide_eq_true (by kernel_rfl)) (by unfold Func.isWrapper; first | (rw [if_pos (by decide +kernel)]; kernel_rfl) | (rw [if_neg (by decide +kernel)]; exact ⟨rfl, rfl⟩))
    (fun os started H enc _ => lifted os started H enc)
end Go.Proofs.Ytenmlpkgodnjnaa.viewParts
namespace Go.Proofs.Ytenmlpkgodnjnaa
/-- The given statement, proved. -/
theorem viewParts_holds : Rows.ViewPartsSaid := viewParts.over
#print axioms viewParts_holds
end Go.Proofs.Ytenmlpkgodnjnaa
