/- The law gemot/gemotlaw1.TermCuts: for every input it returns true, and the input reads behind the call as it read before; no condition. -/
import Derived.Test.YtpfpmjdifnoeoaaF0
import Derived.Test.YtpfpmjdifnoeoaaF65
import Derived.Test.YtpfpmjdifnoeoaaF86
import Derived.Test.YtpfpmjdifnoeoaaF88
import Derived.Test.YtpfpmjdifnoeoaaLMade
import Derived.Test.YtpfpmjdifnoeoaaF66
import Derived.Test.YtpfpmjdifnoeoaaF97
import Derived.Test.YtpfpmjdifnoeoaaF98
import Derived.Test.YtpfpmjdifnoeoaaF99
import Derived.Test.YtpfpmjdifnoeoaaF131
import Derived.Test.YtpfpmjdifnoeoaaRows
import Derived.Test.YtpfpmjdifnoeoaaRowOpen
import Derived.Test.YtpfpmjdifnoeoaaRowFacts
import Derived.WalkKit
import Derived.ProofKit
import Derived.OpenShut
import Derived.ShutString
import Derived.ChangeOld
import Derived.Below
import Derived.SizedLaws
import Derived.Carry
import Derived.WideShapes
namespace Go.Proofs.Ytpfpmjdifnoeoaa.F
open Go.RowKit Go.Proofs.YtpfpmjdifnoeoaaW.PrintWords Go.Proofs.YtpfpmjdifnoeoaaW.PrintLast Go.Proofs.YtpfpmjdifnoeoaaW.PrintMore
attribute [local go_sem] max2_int min2_int max_two min_two max_three min_three max_four min_four
set_option linter.unusedVariables false
set_option linter.unusedSimpArgs false

/-! ### gemotlaw1_shown: function 78 -/
/-! #### gemotlaw1_shown_p: function 78 -/
def gemotlaw1_shown_p.f  : Option (Bool) := (term_Gen.f).bind fun t727 => ((term_Name.f 2).bind fun t728 => ((term_Power.f t727 t728).bind fun bt729 => ((term_Name.f 1).bind fun t731 => ((term_Power.f bt729.1 t731).bind fun bt732 => (if bt729.2 = 0 then (if bt732.2 = 0 then (some (bt732.1.toList == ([101, 2, 110, 0, 0, 0, 0, 0, 0, 0, 1, 110, 0, 0, 0, 0, 0, 0, 0, 2] : List UInt8))) else (some false)) else (some false))))))
set_option maxHeartbeats 8000000 in
set_option maxRecDepth 100000 in
theorem gemotlaw1_shown_p.calls  (r : Bool) (w : World) (h : gemotlaw1_shown_p.f  = some r) :
    Calls Try.prog 78 #[] w fun e w' => e = .returned (.bool r) ∧ Below w.heap.size w w' := by
  have HB := Aside0.mk (Below.refl w.heap.size w)
  have H : ((term_Gen.f).bind fun t727 => ((term_Name.f 2).bind fun t728 => ((term_Power.f t727 t728).bind fun bt729 => ((term_Name.f 1).bind fun t731 => ((term_Power.f bt729.1 t731).bind fun bt732 => (if bt729.2 = 0 then (if bt732.2 = 0 then (some (bt732.1.toList == ([101, 2, 110, 0, 0, 0, 0, 0, 0, 0, 1, 110, 0, 0, 0, 0, 0, 0, 0, 2] : List UInt8))) else (some false)) else (some false))))))) = some r := h
  clear h
  replace H := Option.bind_eq_some_iff.mp H
  obtain ⟨t727, A10, H⟩ := H
  replace H : ((term_Name.f 2).bind fun t728 => ((term_Power.f t727 t728).bind fun bt729 => ((term_Name.f 1).bind fun t731 => ((term_Power.f bt729.1 t731).bind fun bt732 => (if bt729.2 = 0 then (if bt732.2 = 0 then (some (bt732.1.toList == ([101, 2, 110, 0, 0, 0, 0, 0, 0, 0, 1, 110, 0, 0, 0, 0, 0, 0, 0, 2] : List UInt8))) else (some false)) else (some false)))))) = some r := H
  have A1 := Aside0.mk A10
  clear A10
  replace H := Option.bind_eq_some_iff.mp H
  obtain ⟨t728, A20, H⟩ := H
  replace H : ((term_Power.f t727 t728).bind fun bt729 => ((term_Name.f 1).bind fun t731 => ((term_Power.f bt729.1 t731).bind fun bt732 => (if bt729.2 = 0 then (if bt732.2 = 0 then (some (bt732.1.toList == ([101, 2, 110, 0, 0, 0, 0, 0, 0, 0, 1, 110, 0, 0, 0, 0, 0, 0, 0, 2] : List UInt8))) else (some false)) else (some false))))) = some r := H
  have A2 := Aside0.mk A20
  clear A20
  replace H := Option.bind_eq_some_iff.mp H
  obtain ⟨⟨t729, t730⟩, A30, H⟩ := H
  replace H : ((term_Name.f 1).bind fun t731 => ((term_Power.f t729 t731).bind fun bt732 => (if t730 = 0 then (if bt732.2 = 0 then (some (bt732.1.toList == ([101, 2, 110, 0, 0, 0, 0, 0, 0, 0, 1, 110, 0, 0, 0, 0, 0, 0, 0, 2] : List UInt8))) else (some false)) else (some false)))) = some r := H
  have A3 := Aside0.mk A30
  clear A30
  replace H := Option.bind_eq_some_iff.mp H
  obtain ⟨t731, A40, H⟩ := H
  replace H : ((term_Power.f t729 t731).bind fun bt732 => (if t730 = 0 then (if bt732.2 = 0 then (some (bt732.1.toList == ([101, 2, 110, 0, 0, 0, 0, 0, 0, 0, 1, 110, 0, 0, 0, 0, 0, 0, 0, 2] : List UInt8))) else (some false)) else (some false))) = some r := H
  have A4 := Aside0.mk A40
  clear A40
  replace H := Option.bind_eq_some_iff.mp H
  obtain ⟨⟨t732, t733⟩, A50, H⟩ := H
  replace H : (if t730 = 0 then (if t733 = 0 then (some (t732.toList == ([101, 2, 110, 0, 0, 0, 0, 0, 0, 0, 1, 110, 0, 0, 0, 0, 0, 0, 0, 2] : List UInt8))) else (some false)) else (some false)) = some r := H
  have A5 := Aside0.mk A50
  clear A50
  by_cases c6 : t730 = 0
  · rw [if_pos c6] at H
    have c6b0 : (t730 == 0) = true := beq_iff_eq.mpr c6
    have c6b1 : (t730 != 0) = false := bne_eq_false_iff_eq.mpr c6
    clear c6
    by_cases c7 : t733 = 0
    · rw [if_pos c7] at H
      have c7b0 : (t733 == 0) = true := beq_iff_eq.mpr c7
      have c7b1 : (t733 != 0) = false := bne_eq_false_iff_eq.mpr c7
      clear c7
      obtain rfl := Option.some.inj H
      go_enter Try.func78, Try.ntmps78
      go_wp2_with (first | ((with_reducible refine gate_callee (f := 86) rfl ?_); refine goesL_ (some 6) rfl rfl Try.func86 (by kernel_rfl) rfl #[] rfl (by (try simp only [List.map_toArray, List.map_cons, List.map_nil]); first | done | rfl | (simp only [List.length_drop, List.length_take]; rfl)) ?_; (with_reducible refine (term_Gen.calls  t727 _ A1.out).mono ?_); rintro e w' ⟨rfl, ⟨nd, rfl⟩⟩; refine ⟨_, rfl, ?_⟩) | ((with_reducible refine gate_callee (f := 65) rfl ?_); refine goesL_ (some 7) rfl rfl Try.func65 (by kernel_rfl) rfl #[.int .u64 2] rfl (by (try simp only [List.map_toArray, List.map_cons, List.map_nil]); first | done | rfl | (simp only [List.length_drop, List.length_take]; rfl)) ?_; (with_reducible refine (term_Name.calls 2 t728 _ A2.out).mono ?_); rintro e w8 ⟨rfl, hb⟩; refine ⟨_, rfl, ?_⟩; have n0_ := Aside0.mk (below_step (by repeat (first | (with_reducible first | exact HB.out | apply below_alloc | apply pw_below_drewN | apply below_drew1) | exact HB.out)) hb); clear HB; have HB := n0_; clear n0_; (try clear hb); (try clear hb2); (try clear hk); (try clear hi)) | ((with_reducible refine gate_callee (f := 88) rfl ?_); refine goesL_ (some 8) rfl rfl Try.func88 (by kernel_rfl) rfl #[.string t727, .string t728] rfl (by (try simp only [List.map_toArray, List.map_cons, List.map_nil]); first | done | rfl | (simp only [List.length_drop, List.length_take]; rfl)) ?_; (with_reducible refine (term_Power.calls t727 t728 t729 t730 _ A3.out).mono ?_); rintro e w9 ⟨rfl, hb⟩; refine ⟨_, rfl, ?_⟩; have n0_ := Aside0.mk (below_step (by repeat (first | (with_reducible first | exact HB.out | apply below_alloc | apply pw_below_drewN | apply below_drew1) | exact HB.out)) hb); clear HB; have HB := n0_; clear n0_; (try clear hb); (try clear hb2); (try clear hk); (try clear hi)) | ((with_reducible refine gate_callee (f := 65) rfl ?_); refine goesL_ (some 13) rfl rfl Try.func65 (by kernel_rfl) rfl #[.int .u64 1] rfl (by (try simp only [List.map_toArray, List.map_cons, List.map_nil]); first | done | rfl | (simp only [List.length_drop, List.length_take]; rfl)) ?_; (with_reducible refine (term_Name.calls 1 t731 _ A4.out).mono ?_); rintro e w10 ⟨rfl, hb⟩; refine ⟨_, rfl, ?_⟩; have n0_ := Aside0.mk (below_step (by repeat (first | (with_reducible first | exact HB.out | apply below_alloc | apply pw_below_drewN | apply below_drew1) | exact HB.out)) hb); clear HB; have HB := n0_; clear n0_; (try clear hb); (try clear hb2); (try clear hk); (try clear hi)) | ((with_reducible refine gate_callee (f := 88) rfl ?_); refine goesL_ (some 14) rfl rfl Try.func88 (by kernel_rfl) rfl #[.string t729, .string t731] rfl (by (try simp only [List.map_toArray, List.map_cons, List.map_nil]); first | done | rfl | (simp only [List.length_drop, List.length_take]; rfl)) ?_; (with_reducible refine (term_Power.calls t729 t731 t732 t733 _ A5.out).mono ?_); rintro e w11 ⟨rfl, hb⟩; refine ⟨_, rfl, ?_⟩; have n0_ := Aside0.mk (below_step (by repeat (first | (with_reducible first | exact HB.out | apply below_alloc | apply pw_below_drewN | apply below_drew1) | exact HB.out)) hb); clear HB; have HB := n0_; clear n0_; (try clear hb); (try clear hb2); (try clear hk); (try clear hi)))
      go_ret
      exact ⟨by first | rfl | (simp [errW_none, errW_some] <;> rfl) | (simp [*, errW_none, errW_some] <;> rfl), by repeat (first | (with_reducible first | exact HB.out | apply below_alloc | apply pw_below_drewN | apply below_drew1) | exact HB.out)⟩
    · rw [if_neg c7] at H
      have c7b0 : (t733 == 0) = false := beq_eq_false_iff_ne.mpr c7
      have c7b1 : (t733 != 0) = true := bne_iff_ne.mpr c7
      obtain rfl := Option.some.inj H
      go_enter Try.func78, Try.ntmps78
      go_wp2_with (first | ((with_reducible refine gate_callee (f := 86) rfl ?_); refine goesL_ (some 6) rfl rfl Try.func86 (by kernel_rfl) rfl #[] rfl (by (try simp only [List.map_toArray, List.map_cons, List.map_nil]); first | done | rfl | (simp only [List.length_drop, List.length_take]; rfl)) ?_; (with_reducible refine (term_Gen.calls  t727 _ A1.out).mono ?_); rintro e w' ⟨rfl, ⟨nd, rfl⟩⟩; refine ⟨_, rfl, ?_⟩) | ((with_reducible refine gate_callee (f := 65) rfl ?_); refine goesL_ (some 7) rfl rfl Try.func65 (by kernel_rfl) rfl #[.int .u64 2] rfl (by (try simp only [List.map_toArray, List.map_cons, List.map_nil]); first | done | rfl | (simp only [List.length_drop, List.length_take]; rfl)) ?_; (with_reducible refine (term_Name.calls 2 t728 _ A2.out).mono ?_); rintro e w12 ⟨rfl, hb⟩; refine ⟨_, rfl, ?_⟩; have n0_ := Aside0.mk (below_step (by repeat (first | (with_reducible first | exact HB.out | apply below_alloc | apply pw_below_drewN | apply below_drew1) | exact HB.out)) hb); clear HB; have HB := n0_; clear n0_; (try clear hb); (try clear hb2); (try clear hk); (try clear hi)) | ((with_reducible refine gate_callee (f := 88) rfl ?_); refine goesL_ (some 8) rfl rfl Try.func88 (by kernel_rfl) rfl #[.string t727, .string t728] rfl (by (try simp only [List.map_toArray, List.map_cons, List.map_nil]); first | done | rfl | (simp only [List.length_drop, List.length_take]; rfl)) ?_; (with_reducible refine (term_Power.calls t727 t728 t729 t730 _ A3.out).mono ?_); rintro e w13 ⟨rfl, hb⟩; refine ⟨_, rfl, ?_⟩; have n0_ := Aside0.mk (below_step (by repeat (first | (with_reducible first | exact HB.out | apply below_alloc | apply pw_below_drewN | apply below_drew1) | exact HB.out)) hb); clear HB; have HB := n0_; clear n0_; (try clear hb); (try clear hb2); (try clear hk); (try clear hi)) | ((with_reducible refine gate_callee (f := 65) rfl ?_); refine goesL_ (some 13) rfl rfl Try.func65 (by kernel_rfl) rfl #[.int .u64 1] rfl (by (try simp only [List.map_toArray, List.map_cons, List.map_nil]); first | done | rfl | (simp only [List.length_drop, List.length_take]; rfl)) ?_; (with_reducible refine (term_Name.calls 1 t731 _ A4.out).mono ?_); rintro e w14 ⟨rfl, hb⟩; refine ⟨_, rfl, ?_⟩; have n0_ := Aside0.mk (below_step (by repeat (first | (with_reducible first | exact HB.out | apply below_alloc | apply pw_below_drewN | apply below_drew1) | exact HB.out)) hb); clear HB; have HB := n0_; clear n0_; (try clear hb); (try clear hb2); (try clear hk); (try clear hi)) | ((with_reducible refine gate_callee (f := 88) rfl ?_); refine goesL_ (some 14) rfl rfl Try.func88 (by kernel_rfl) rfl #[.string t729, .string t731] rfl (by (try simp only [List.map_toArray, List.map_cons, List.map_nil]); first | done | rfl | (simp only [List.length_drop, List.length_take]; rfl)) ?_; (with_reducible refine (term_Power.calls t729 t731 t732 t733 _ A5.out).mono ?_); rintro e w15 ⟨rfl, hb⟩; refine ⟨_, rfl, ?_⟩; have n0_ := Aside0.mk (below_step (by repeat (first | (with_reducible first | exact HB.out | apply below_alloc | apply pw_below_drewN | apply below_drew1) | exact HB.out)) hb); clear HB; have HB := n0_; clear n0_; (try clear hb); (try clear hb2); (try clear hk); (try clear hi)))
      go_ret
      exact ⟨by first | rfl | (simp [errW_none, errW_some] <;> rfl) | (simp [*, errW_none, errW_some] <;> rfl), by repeat (first | (with_reducible first | exact HB.out | apply below_alloc | apply pw_below_drewN | apply below_drew1) | exact HB.out)⟩
  · rw [if_neg c6] at H
    have c6b0 : (t730 == 0) = false := beq_eq_false_iff_ne.mpr c6
    have c6b1 : (t730 != 0) = true := bne_iff_ne.mpr c6
    obtain rfl := Option.some.inj H
    go_enter Try.func78, Try.ntmps78
    go_wp2_with (first | ((with_reducible refine gate_callee (f := 86) rfl ?_); refine goesL_ (some 6) rfl rfl Try.func86 (by kernel_rfl) rfl #[] rfl (by (try simp only [List.map_toArray, List.map_cons, List.map_nil]); first | done | rfl | (simp only [List.length_drop, List.length_take]; rfl)) ?_; (with_reducible refine (term_Gen.calls  t727 _ A1.out).mono ?_); rintro e w' ⟨rfl, ⟨nd, rfl⟩⟩; refine ⟨_, rfl, ?_⟩) | ((with_reducible refine gate_callee (f := 65) rfl ?_); refine goesL_ (some 7) rfl rfl Try.func65 (by kernel_rfl) rfl #[.int .u64 2] rfl (by (try simp only [List.map_toArray, List.map_cons, List.map_nil]); first | done | rfl | (simp only [List.length_drop, List.length_take]; rfl)) ?_; (with_reducible refine (term_Name.calls 2 t728 _ A2.out).mono ?_); rintro e w16 ⟨rfl, hb⟩; refine ⟨_, rfl, ?_⟩; have n0_ := Aside0.mk (below_step (by repeat (first | (with_reducible first | exact HB.out | apply below_alloc | apply pw_below_drewN | apply below_drew1) | exact HB.out)) hb); clear HB; have HB := n0_; clear n0_; (try clear hb); (try clear hb2); (try clear hk); (try clear hi)) | ((with_reducible refine gate_callee (f := 88) rfl ?_); refine goesL_ (some 8) rfl rfl Try.func88 (by kernel_rfl) rfl #[.string t727, .string t728] rfl (by (try simp only [List.map_toArray, List.map_cons, List.map_nil]); first | done | rfl | (simp only [List.length_drop, List.length_take]; rfl)) ?_; (with_reducible refine (term_Power.calls t727 t728 t729 t730 _ A3.out).mono ?_); rintro e w17 ⟨rfl, hb⟩; refine ⟨_, rfl, ?_⟩; have n0_ := Aside0.mk (below_step (by repeat (first | (with_reducible first | exact HB.out | apply below_alloc | apply pw_below_drewN | apply below_drew1) | exact HB.out)) hb); clear HB; have HB := n0_; clear n0_; (try clear hb); (try clear hb2); (try clear hk); (try clear hi)) | ((with_reducible refine gate_callee (f := 65) rfl ?_); refine goesL_ (some 13) rfl rfl Try.func65 (by kernel_rfl) rfl #[.int .u64 1] rfl (by (try simp only [List.map_toArray, List.map_cons, List.map_nil]); first | done | rfl | (simp only [List.length_drop, List.length_take]; rfl)) ?_; (with_reducible refine (term_Name.calls 1 t731 _ A4.out).mono ?_); rintro e w18 ⟨rfl, hb⟩; refine ⟨_, rfl, ?_⟩; have n0_ := Aside0.mk (below_step (by repeat (first | (with_reducible first | exact HB.out | apply below_alloc | apply pw_below_drewN | apply below_drew1) | exact HB.out)) hb); clear HB; have HB := n0_; clear n0_; (try clear hb); (try clear hb2); (try clear hk); (try clear hi)) | ((with_reducible refine gate_callee (f := 88) rfl ?_); refine goesL_ (some 14) rfl rfl Try.func88 (by kernel_rfl) rfl #[.string t729, .string t731] rfl (by (try simp only [List.map_toArray, List.map_cons, List.map_nil]); first | done | rfl | (simp only [List.length_drop, List.length_take]; rfl)) ?_; (with_reducible refine (term_Power.calls t729 t731 t732 t733 _ A5.out).mono ?_); rintro e w19 ⟨rfl, hb⟩; refine ⟨_, rfl, ?_⟩; have n0_ := Aside0.mk (below_step (by repeat (first | (with_reducible first | exact HB.out | apply below_alloc | apply pw_below_drewN | apply below_drew1) | exact HB.out)) hb); clear HB; have HB := n0_; clear n0_; (try clear hb); (try clear hb2); (try clear hk); (try clear hi)))
    go_ret
    exact ⟨by first | rfl | (simp [errW_none, errW_some] <;> rfl) | (simp [*, errW_none, errW_some] <;> rfl), by repeat (first | (with_reducible first | exact HB.out | apply below_alloc | apply pw_below_drewN | apply below_drew1) | exact HB.out)⟩

open Go.Proofs.Ytpfpmjdifnoeoaa.Pure
def gemotlaw1_shown.f : Option Bool := some true
theorem gemotlaw1_shown.eq : gemotlaw1_shown_p.f = some true := by
  have hn : ∀ x ∈ [nameF 2], Tm x ∧ depF x ≤ 399 := mem1 ⟨(name_leaf 2).tm.1, by rw [(name_leaf 2).tm.2]; decide⟩
  have h1 : powF ⟨#[103]⟩ (nameF 2) = (elmOf [nameF 2], 0) := by
    rw [pow_eq gen_elem.1 ((name_leaf 2).right (by rw [name_size]; omega)), gen_elem.2, if_neg (by decide), List.nil_append, whole_right]
    exact node_right (elmOf_node (by simp) (by decide) hn) (by rw [elmOf_size (by simp), cat1]; show 2 + 9 ≤ _; omega)
  have h2 := elem_of_node (l := [nameF 2]) (by simp) (by decide) hn (by rw [elmOf_size (by simp), cat1]; show 2 + 9 ≤ _; omega)
  have hs : sortB [nameF 2] = [nameF 2] := sortB_of_sorted (List.pairwise_singleton _ _)
  rw [hs] at h2
  have hn2 : ∀ x ∈ [nameF 2, nameF 1], Tm x ∧ depF x ≤ 399 := mem2 ⟨(name_leaf 2).tm.1, by rw [(name_leaf 2).tm.2]; decide⟩ ⟨(name_leaf 1).tm.1, by rw [(name_leaf 1).tm.2]; decide⟩
  have h3 : powF (elmOf [nameF 2]) (nameF 1) = (elmOf [nameF 2, nameF 1], 0) := by
    rw [pow_eq h2.1 ((name_leaf 1).right (by rw [name_size]; omega)), h2.2, if_neg (by decide), whole_right]
    · rfl
    · exact node_right (elmOf_node (by simp) (by decide) hn2) (by rw [elmOf_size (by simp), show [nameF 2] ++ [nameF 1] = [nameF 2, nameF 1] from rfl, cat2, ByteArray.size_append]; show 2 + (9 + 9) ≤ _; omega)
  have hs2 : sortB [nameF 2, nameF 1] = [nameF 1, nameF 2] := by
    have : bl (nameF 1) ≤ bl (nameF 2) := by decide
    rw [sortB_of_perm (List.Perm.swap (nameF 1) (nameF 2) [])]
    exact sortB_of_sorted (List.pairwise_cons.mpr ⟨fun y hy => by rw [List.mem_singleton.mp hy]; exact this, List.pairwise_singleton _ _⟩)
  have h4 : (elmOf [nameF 2, nameF 1]).toList = [101, 2, 110, 0, 0, 0, 0, 0, 0, 0, 1, 110, 0, 0, 0, 0, 0, 0, 0, 2] := by
    unfold elmOf
    rw [if_neg (by simp), hs2, cat2, ByteArray.toList_eq, ByteArray.data_append, ByteArray.data_append]
    rfl
  unfold gemotlaw1_shown_p.f term_Gen.f term_Name.f term_Power.f
  simp only [Option.bind_some]
  rw [if_pos ⟨by decide, by rw [name_size]; omega⟩, h1]
  simp only [Option.bind_some]
  rw [if_pos ⟨by rw [elmOf_size (by simp), cat1]; show 2 + 9 < _; omega, by rw [name_size]; omega⟩, h3]
  simp only [Option.bind_some, if_true]
  rw [h4]
  rfl
theorem gemotlaw1_shown.calls (r : Bool) (w : World) (h : gemotlaw1_shown.f = some r) :
    Calls Try.prog 78 #[] w fun e w' => e = .returned (.bool r) ∧ Below w.heap.size w w' :=
  gemotlaw1_shown_p.calls r w (gemotlaw1_shown.eq.trans h)

end Go.Proofs.Ytpfpmjdifnoeoaa.F
namespace Go.Proofs.Ytpfpmjdifnoeoaa.F
open Go.RowKit Go.Proofs.YtpfpmjdifnoeoaaW.PrintWords Go.Proofs.YtpfpmjdifnoeoaaW.PrintLast Go.Proofs.YtpfpmjdifnoeoaaW.PrintMore
attribute [local go_sem] max2_int min2_int max_two min_two max_three min_three max_four min_four
set_option linter.unusedVariables false
set_option linter.unusedSimpArgs false

/-! ### gemotlaw1_TermCuts: function 17 -/
def gemotlaw1_TermCuts.j0 : Nat → List (S169) → Int → Int → ByteArray → Bool → Bool → Option (Bool)
  | 0, _, _, _, _, _, _ => none
  | k + 1, x0, x1, x2, x3, x9, x26 => if x26 = true then (some x9) else ((gemotlaw1_made.f x0).bind fun t981 => ((gemotlaw1_pick.f x1 (t981.length : Int)).bind fun t984 => (if 0 ≤ t984 then (if t984 < (t981.length : Int) then ((gemotlaw1_pick.f x2 ((rdOf ByteArray.empty t981 t984).size : Int)).bind fun t986 => (if 0 ≤ t986 then (if t986 ≤ ((rdOf ByteArray.empty t981 t984).size : Int) then ((term_Take.f ((rdOf ByteArray.empty t981 t984).extract 0 (t986 : Int).toNat)).bind fun bt987 => (if (rdOf ByteArray.empty t981 t984).size + x3.size ≤ 9223372036854775807 then ((term_Take.f ((rdOf ByteArray.empty t981 t984) ++ x3)).bind fun bt990 => (if bt987.1.toList = ([] : List UInt8) then (if bt987.2.1.toList = ([] : List UInt8) then (if bt987.2.2 = 2 then (if bt990.1.toList = (rdOf ByteArray.empty t981 t984).toList then (if bt990.2.1.toList = x3.toList then (if bt990.2.2 = 0 then ((term_Right.f ((rdOf ByteArray.empty t981 t984).extract 0 (t986 : Int).toNat)).bind fun t993 => (some (!t993))) else (none)) else (none)) else (none)) else (none)) else (none)) else (none))) else (none))) else (none)) else (none))) else (none)) else (none))))
def gemotlaw1_TermCuts.f (k : Nat) (l0 : List (S169)) (a1 : Int) (a2 : Int) (a3 : ByteArray) : Option (Bool) := (gemotlaw1_shown.f).bind fun t980 => (if t980 = true then (gemotlaw1_TermCuts.j0 k l0 a1 a2 a3 t980 (decide ((a3.size : Int) > 300))) else (gemotlaw1_TermCuts.j0 k l0 a1 a2 a3 t980 true))
theorem gemotlaw1_TermCuts.mono_l : ∀ k, (∀ y0 y1 y2 y3 y4 y5, LeO (gemotlaw1_TermCuts.j0 k y0 y1 y2 y3 y4 y5) (gemotlaw1_TermCuts.j0 (k + 1) y0 y1 y2 y3 y4 y5))
  | 0 => fun _ _ _ _ _ _ r h => by simp [gemotlaw1_TermCuts.j0] at h
  | k + 1 => by
    have ih0 := gemotlaw1_TermCuts.mono_l k
    · intro y0 y1 y2 y3 y4 y5
      unfold gemotlaw1_TermCuts.j0
      repeat' first
      | (with_reducible exact ih0 _ _ _ _ _ _)
      | (with_reducible exact LeO.refl _)
      | (with_reducible exact LeO.none _)
      | (with_reducible refine LeO.ite ?_ ?_)
      | (with_reducible refine LeO.bind ?_ (fun _ => ?_))
      | exact ih0 _ _ _ _ _ _
      | exact LeO.none _
      | refine LeO.ite ?_ ?_
      | refine LeO.bind ?_ (fun _ => ?_)
theorem gemotlaw1_TermCuts.mono : ∀ a0 a1 a2 a3 k, LeO (gemotlaw1_TermCuts.f k a0 a1 a2 a3) (gemotlaw1_TermCuts.f (k + 1) a0 a1 a2 a3) := by
  intro a0 a1 a2 a3 k
  have ih0 := gemotlaw1_TermCuts.mono_l k
  unfold gemotlaw1_TermCuts.f
  repeat' first
      | (with_reducible exact ih0 _ _ _ _ _ _)
      | (with_reducible exact LeO.refl _)
      | (with_reducible exact LeO.none _)
      | (with_reducible refine LeO.ite ?_ ?_)
      | (with_reducible refine LeO.bind ?_ (fun _ => ?_))
      | exact ih0 _ _ _ _ _ _
      | exact LeO.none _
      | refine LeO.ite ?_ ?_
      | refine LeO.bind ?_ (fun _ => ?_)
set_option maxHeartbeats 8000000 in
set_option maxRecDepth 100000 in
theorem gemotlaw1_TermCuts.calls (k : Nat) (A0 : Option Addr) (c0 : Nat) (l0 : List (S169)) (a1 : Int) (a2 : Int) (a3 : ByteArray) (r : Bool) (w : World) (hr0 : Kd.C k169 w A0 l0.length l0) (hc0 : l0.length ≤ c0) (h : gemotlaw1_TermCuts.f k l0 a1 a2 a3 = some r) :
    Calls Try.prog 17 #[.slice A0 l0.length c0, .int .i64 a1, .int .i64 a2, .string a3] w fun e w' => e = .returned (.bool r) ∧ Below w.heap.size w w' := by
  have HR0 := Aside0.mk hr0
  have HC0 := Aside0.mk hc0
  clear hr0 hc0
  have HB := Aside0.mk (Below.refl w.heap.size w)
  have H : ((gemotlaw1_shown.f).bind fun t980 => (if t980 = true then (gemotlaw1_TermCuts.j0 k l0 a1 a2 a3 t980 (decide ((a3.size : Int) > 300))) else (gemotlaw1_TermCuts.j0 k l0 a1 a2 a3 t980 true))) = some r := h
  clear h
  replace H := Option.bind_eq_some_iff.mp H
  obtain ⟨t980, A50, H⟩ := H
  replace H : (if t980 = true then (gemotlaw1_TermCuts.j0 k l0 a1 a2 a3 t980 (decide ((a3.size : Int) > 300))) else (gemotlaw1_TermCuts.j0 k l0 a1 a2 a3 t980 true)) = some r := H
  have A5 := Aside0.mk A50
  clear A50
  have HC6 := Aside0.mk H
  clear H
  go_enter Try.func17, Try.ntmps17
  go_upto_region 2 with (first | ((with_reducible refine gate_callee (f := 78) rfl ?_); refine goesL_ (some 19) rfl rfl Try.func78 (by kernel_rfl) rfl #[] rfl (by (try simp only [List.map_toArray, List.map_cons, List.map_nil]); first | done | rfl | (simp only [List.length_drop, List.length_take]; rfl)) ?_; (with_reducible refine (gemotlaw1_shown.calls  t980 _ A5.out).mono ?_); rintro e w7 ⟨rfl, hb⟩; refine ⟨_, rfl, ?_⟩; have n0_ := Aside0.mk (below_step (by repeat (first | (with_reducible first | exact HB.out | apply below_alloc | apply pw_below_drewN | apply below_drew1) | exact HB.out)) hb); clear HB; have HB := n0_; clear n0_; (try clear hb); (try clear hb2); (try clear hk); (try clear hi)))
  (try simp only [Act.put, List.setIfInBounds_toArray, List.set_cons_zero, List.set_cons_succ])
  go_cut [26] (fun v26 wc => ∃ (kq : Nat) (x26_5 : Bool), v26 = .bool x26_5 ∧ Aside0 (gemotlaw1_TermCuts.j0 kq l0 a1 a2 a3 t980 x26_5 = some r) ∧ Aside0 (kq ≤ k) ∧ Aside0 (Below w.heap.size w wc))
  case first =>
    have H := HC6.out
    clear HC6
    by_cases c8 : t980 = true
    · subst c8
      have H1 : (gemotlaw1_TermCuts.j0 k l0 a1 a2 a3 true (decide ((a3.size : Int) > 300))) = some r := by rw [if_pos rfl] at H; exact H
      clear H
      have H := H1
      clear H1
      have H' := Aside0.mk H
      clear H
      go_wp2
      go_meet
      case rel => exact ⟨_, (decide ((a3.size : Int) > 300)), (by first | rfl | (simp; done) | (simp [*]; done)), H', ⟨by first | omega | exact Nat.le_refl _⟩, ⟨by repeat (first | (with_reducible first | exact HB.out | apply below_alloc | apply pw_below_drewN | apply below_drew1) | exact HB.out)⟩⟩
    · replace c8 := Bool.eq_false_iff.mpr c8
      subst c8
      have H1 : (gemotlaw1_TermCuts.j0 k l0 a1 a2 a3 false true) = some r := by rw [if_neg (show ¬ (false = true) by decide)] at H; exact H
      clear H
      have H := H1
      clear H1
      have H' := Aside0.mk H
      clear H
      go_wp2
      go_meet
      case rel => exact ⟨_, (true), (by first | rfl | (simp; done) | (simp [*]; done)), H', ⟨by first | omega | exact Nat.le_refl _⟩, ⟨by repeat (first | (with_reducible first | exact HB.out | apply below_alloc | apply pw_below_drewN | apply below_drew1) | exact HB.out)⟩⟩
  case rest =>
    clear HC6
    try clear c1
    try clear p2
    try clear c7
    try clear c8
    obtain ⟨kq, x26_5, rfl, HA, HJ5, HB⟩ := hcut
    cases kq with
    | zero => exact absurd HA.out (by simp [gemotlaw1_TermCuts.j0])
    | succ kj5 =>
      have H := HA.out
      clear HA
      simp only [gemotlaw1_TermCuts.j0] at H
      by_cases c9 : x26_5 = true
      · subst c9
        have H1 : (some t980) = some r := by rw [if_pos rfl] at H; exact H
        clear H
        have H := H1
        clear H1
        obtain rfl := Option.some.inj H
        go_wp2
        go_ret
        exact ⟨by first | rfl | (simp [errW_none, errW_some] <;> rfl) | (simp [*, errW_none, errW_some] <;> rfl), by repeat (first | (with_reducible first | exact HB.out | apply below_alloc | apply pw_below_drewN | apply below_drew1) | exact HB.out)⟩
      · replace c9 := Bool.eq_false_iff.mpr c9
        subst c9
        have H1 : ((gemotlaw1_made.f l0).bind fun t981 => ((gemotlaw1_pick.f a1 (t981.length : Int)).bind fun t984 => (if 0 ≤ t984 then (if t984 < (t981.length : Int) then ((gemotlaw1_pick.f a2 ((rdOf ByteArray.empty t981 t984).size : Int)).bind fun t986 => (if 0 ≤ t986 then (if t986 ≤ ((rdOf ByteArray.empty t981 t984).size : Int) then ((term_Take.f ((rdOf ByteArray.empty t981 t984).extract 0 (t986 : Int).toNat)).bind fun bt987 => (if (rdOf ByteArray.empty t981 t984).size + a3.size ≤ 9223372036854775807 then ((term_Take.f ((rdOf ByteArray.empty t981 t984) ++ a3)).bind fun bt990 => (if bt987.1.toList = ([] : List UInt8) then (if bt987.2.1.toList = ([] : List UInt8) then (if bt987.2.2 = 2 then (if bt990.1.toList = (rdOf ByteArray.empty t981 t984).toList then (if bt990.2.1.toList = a3.toList then (if bt990.2.2 = 0 then ((term_Right.f ((rdOf ByteArray.empty t981 t984).extract 0 (t986 : Int).toNat)).bind fun t993 => (some (!t993))) else (none)) else (none)) else (none)) else (none)) else (none)) else (none))) else (none))) else (none)) else (none))) else (none)) else (none)))) = some r := by rw [if_neg (show ¬ (false = true) by decide)] at H; exact H
        clear H
        have H := H1
        clear H1
        replace H := Option.bind_eq_some_iff.mp H
        obtain ⟨t981, A100, H⟩ := H
        replace H : ((gemotlaw1_pick.f a1 (t981.length : Int)).bind fun t984 => (if 0 ≤ t984 then (if t984 < (t981.length : Int) then ((gemotlaw1_pick.f a2 ((rdOf ByteArray.empty t981 t984).size : Int)).bind fun t986 => (if 0 ≤ t986 then (if t986 ≤ ((rdOf ByteArray.empty t981 t984).size : Int) then ((term_Take.f ((rdOf ByteArray.empty t981 t984).extract 0 (t986 : Int).toNat)).bind fun bt987 => (if (rdOf ByteArray.empty t981 t984).size + a3.size ≤ 9223372036854775807 then ((term_Take.f ((rdOf ByteArray.empty t981 t984) ++ a3)).bind fun bt990 => (if bt987.1.toList = ([] : List UInt8) then (if bt987.2.1.toList = ([] : List UInt8) then (if bt987.2.2 = 2 then (if bt990.1.toList = (rdOf ByteArray.empty t981 t984).toList then (if bt990.2.1.toList = a3.toList then (if bt990.2.2 = 0 then ((term_Right.f ((rdOf ByteArray.empty t981 t984).extract 0 (t986 : Int).toNat)).bind fun t993 => (some (!t993))) else (none)) else (none)) else (none)) else (none)) else (none)) else (none))) else (none))) else (none)) else (none))) else (none)) else (none))) = some r := H
        have A10 := Aside0.mk A100
        clear A100
        replace H := Option.bind_eq_some_iff.mp H
        obtain ⟨t984, A110, H⟩ := H
        replace H : (if 0 ≤ t984 then (if t984 < (t981.length : Int) then ((gemotlaw1_pick.f a2 ((rdOf ByteArray.empty t981 t984).size : Int)).bind fun t986 => (if 0 ≤ t986 then (if t986 ≤ ((rdOf ByteArray.empty t981 t984).size : Int) then ((term_Take.f ((rdOf ByteArray.empty t981 t984).extract 0 (t986 : Int).toNat)).bind fun bt987 => (if (rdOf ByteArray.empty t981 t984).size + a3.size ≤ 9223372036854775807 then ((term_Take.f ((rdOf ByteArray.empty t981 t984) ++ a3)).bind fun bt990 => (if bt987.1.toList = ([] : List UInt8) then (if bt987.2.1.toList = ([] : List UInt8) then (if bt987.2.2 = 2 then (if bt990.1.toList = (rdOf ByteArray.empty t981 t984).toList then (if bt990.2.1.toList = a3.toList then (if bt990.2.2 = 0 then ((term_Right.f ((rdOf ByteArray.empty t981 t984).extract 0 (t986 : Int).toNat)).bind fun t993 => (some (!t993))) else (none)) else (none)) else (none)) else (none)) else (none)) else (none))) else (none))) else (none)) else (none))) else (none)) else (none)) = some r := H
        have A11 := Aside0.mk A110
        clear A110
        by_cases c12 : 0 ≤ t984
        · rw [if_pos c12] at H
          have c12b0 : decide (0 ≤ t984) = true := decide_eq_true c12
          clear c12
          by_cases c13 : t984 < (t981.length : Int)
          · rw [if_pos c13] at H
            have c13b0 : decide (t984 < (t981.length : Int)) = true := decide_eq_true c13
            clear c13
            replace H := Option.bind_eq_some_iff.mp H
            obtain ⟨t986, A140, H⟩ := H
            replace H : (if 0 ≤ t986 then (if t986 ≤ ((rdOf ByteArray.empty t981 t984).size : Int) then ((term_Take.f ((rdOf ByteArray.empty t981 t984).extract 0 (t986 : Int).toNat)).bind fun bt987 => (if (rdOf ByteArray.empty t981 t984).size + a3.size ≤ 9223372036854775807 then ((term_Take.f ((rdOf ByteArray.empty t981 t984) ++ a3)).bind fun bt990 => (if bt987.1.toList = ([] : List UInt8) then (if bt987.2.1.toList = ([] : List UInt8) then (if bt987.2.2 = 2 then (if bt990.1.toList = (rdOf ByteArray.empty t981 t984).toList then (if bt990.2.1.toList = a3.toList then (if bt990.2.2 = 0 then ((term_Right.f ((rdOf ByteArray.empty t981 t984).extract 0 (t986 : Int).toNat)).bind fun t993 => (some (!t993))) else (none)) else (none)) else (none)) else (none)) else (none)) else (none))) else (none))) else (none)) else (none)) = some r := H
            have A14 := Aside0.mk A140
            clear A140
            by_cases c15 : 0 ≤ t986
            · rw [if_pos c15] at H
              have c15b0 := eq_true c15
              have c15b1 : decide (0 ≤ t986) = true := decide_eq_true c15
              clear c15
              by_cases c16 : t986 ≤ ((rdOf ByteArray.empty t981 t984).size : Int)
              · rw [if_pos c16] at H
                have c16b0 := eq_true c16
                have c16b1 : decide (t986 ≤ ((rdOf ByteArray.empty t981 t984).size : Int)) = true := decide_eq_true c16
                clear c16
                replace H := Option.bind_eq_some_iff.mp H
                obtain ⟨⟨t987, t988, t989⟩, A170, H⟩ := H
                replace H : (if (rdOf ByteArray.empty t981 t984).size + a3.size ≤ 9223372036854775807 then ((term_Take.f ((rdOf ByteArray.empty t981 t984) ++ a3)).bind fun bt990 => (if t987.toList = ([] : List UInt8) then (if t988.toList = ([] : List UInt8) then (if t989 = 2 then (if bt990.1.toList = (rdOf ByteArray.empty t981 t984).toList then (if bt990.2.1.toList = a3.toList then (if bt990.2.2 = 0 then ((term_Right.f ((rdOf ByteArray.empty t981 t984).extract 0 (t986 : Int).toNat)).bind fun t993 => (some (!t993))) else (none)) else (none)) else (none)) else (none)) else (none)) else (none))) else (none)) = some r := H
                have A17 := Aside0.mk A170
                clear A170
                by_cases c18 : (rdOf ByteArray.empty t981 t984).size + a3.size ≤ 9223372036854775807
                · rw [if_pos c18] at H
                  have c18b0 := eq_true c18
                  have c18b1 : decide ((rdOf ByteArray.empty t981 t984).size + a3.size ≤ 9223372036854775807) = true := decide_eq_true c18
                  try have c18b2 : (9223372036854775807 < (rdOf ByteArray.empty t981 t984).size + a3.size) = False := eq_false (Nat.not_lt.2 c18)
                  replace H := Option.bind_eq_some_iff.mp H
                  obtain ⟨⟨t990, t991, t992⟩, A190, H⟩ := H
                  replace H : (if t987.toList = ([] : List UInt8) then (if t988.toList = ([] : List UInt8) then (if t989 = 2 then (if t990.toList = (rdOf ByteArray.empty t981 t984).toList then (if t991.toList = a3.toList then (if t992 = 0 then ((term_Right.f ((rdOf ByteArray.empty t981 t984).extract 0 (t986 : Int).toNat)).bind fun t993 => (some (!t993))) else (none)) else (none)) else (none)) else (none)) else (none)) else (none)) = some r := H
                  have A19 := Aside0.mk A190
                  clear A190
                  by_cases c20 : t987.toList = ([] : List UInt8)
                  · rw [if_pos c20] at H
                    have c20b0 : (t987.toList == ([] : List UInt8)) = true := beq_iff_eq.mpr c20
                    have c20b1 : (t987.toList != ([] : List UInt8)) = false := bne_eq_false_iff_eq.mpr c20
                    clear c20
                    by_cases c21 : t988.toList = ([] : List UInt8)
                    · rw [if_pos c21] at H
                      have c21b0 : (t988.toList == ([] : List UInt8)) = true := beq_iff_eq.mpr c21
                      have c21b1 : (t988.toList != ([] : List UInt8)) = false := bne_eq_false_iff_eq.mpr c21
                      clear c21
                      by_cases c22 : t989 = 2
                      · rw [if_pos c22] at H
                        have c22b0 : (t989 == 2) = true := beq_iff_eq.mpr c22
                        have c22b1 : (t989 != 2) = false := bne_eq_false_iff_eq.mpr c22
                        clear c22
                        by_cases c23 : t990.toList = (rdOf ByteArray.empty t981 t984).toList
                        · rw [if_pos c23] at H
                          have c23b0 : (t990.toList == (rdOf ByteArray.empty t981 t984).toList) = true := beq_iff_eq.mpr c23
                          have c23b1 : (t990.toList != (rdOf ByteArray.empty t981 t984).toList) = false := bne_eq_false_iff_eq.mpr c23
                          clear c23
                          by_cases c24 : t991.toList = a3.toList
                          · rw [if_pos c24] at H
                            have c24b0 : (t991.toList == a3.toList) = true := beq_iff_eq.mpr c24
                            have c24b1 : (t991.toList != a3.toList) = false := bne_eq_false_iff_eq.mpr c24
                            clear c24
                            by_cases c25 : t992 = 0
                            · rw [if_pos c25] at H
                              have c25b0 : (t992 == 0) = true := beq_iff_eq.mpr c25
                              have c25b1 : (t992 != 0) = false := bne_eq_false_iff_eq.mpr c25
                              clear c25
                              have c26b0 := eq_true (of_decide_eq_true (by first | (with_reducible assumption) | assumption) : 0 ≤ t986)
                              have c27b0 := eq_true (of_decide_eq_true (by first | (with_reducible assumption) | assumption) : t986 ≤ ((rdOf ByteArray.empty t981 t984).size : Int))
                              replace H := Option.bind_eq_some_iff.mp H
                              obtain ⟨t993, A280, H⟩ := H
                              replace H : (some (!t993)) = some r := H
                              have A28 := Aside0.mk A280
                              clear A280
                              obtain rfl := Option.some.inj H
                              go_wp2_with (first | ((with_reducible refine gate_callee (f := 97) rfl ?_); refine goesL_ (some 29) rfl rfl Try.func97 (by kernel_rfl) rfl #[.slice A0 l0.length c0] rfl (by (try simp only [List.map_toArray, List.map_cons, List.map_nil]); first | done | rfl | (simp only [List.length_drop, List.length_take]; rfl)) ?_; (with_reducible refine (gemotlaw1_made.calls _ _ l0 t981 _ ?side1 ?side2 A10.out).mono ?_); (case side1 => repeat (first | exact (Kd.C_below HR0.out HB.out) | (with_reducible refine Kd.C_alloc ?_ _) | (with_reducible refine Kd.C_drewN ?_ _) | (with_reducible refine Kd.C_drew ?_))); (case side2 => exact HC0.out); rintro e w29 ⟨v982, rfl, ho0, hb⟩; refine ⟨_, rfl, ?_⟩; have n0_ := Aside0.mk (Kd.R_lower ho0 (below_size (by repeat (first | (with_reducible first | exact HB.out | apply below_alloc | apply pw_below_drewN | apply below_drew1) | exact HB.out)))); have n1_ := Aside0.mk (below_step (by repeat (first | (with_reducible first | exact HB.out | apply below_alloc | apply pw_below_drewN | apply below_drew1) | exact HB.out)) hb); clear HB; have HO983 := n0_; have HB := n1_; clear n0_ n1_; (try clear hb); (try clear hb2); (try clear hk); (try clear hi); (try clear ho0); obtain ⟨Ao30, co30, eo30⟩ := Kd.R_slice HO983.out; subst eo30) | ((with_reducible refine gate_callee (f := 98) rfl ?_); refine goesL_ (some 34) rfl rfl Try.func98 (by kernel_rfl) rfl #[.int .i64 a1, .int .i64 (t981.length : Int)] rfl (by (try simp only [List.map_toArray, List.map_cons, List.map_nil]); first | done | rfl | (simp only [List.length_drop, List.length_take]; rfl)) ?_; (with_reducible refine (gemotlaw1_pick.calls a1 (t981.length : Int) t984 _ A11.out).mono ?_); rintro e w' ⟨rfl, ⟨nd, rfl⟩⟩; refine ⟨_, rfl, ?_⟩; have p985 : 0 ≤ (t984 : Int) := of_decide_eq_true (by first | (with_reducible assumption) | assumption); have q985 : t984 < (t981.length : Int) := of_decide_eq_true (by first | (with_reducible assumption) | assumption); obtain ⟨ad985, e985, hx985_0⟩ := Kd.at_string (Kd.R_reads' HO983.out).2.2 t984 p985 q985; cases e985; replace p985 := eq_true p985; replace q985 := eq_true q985) | ((with_reducible refine gate_callee (f := 98) rfl ?_); refine goesL_ (some 40) rfl rfl Try.func98 (by kernel_rfl) rfl #[.int .i64 a2, .int .i64 ((rdOf ByteArray.empty t981 t984).size : Int)] rfl (by (try simp only [List.map_toArray, List.map_cons, List.map_nil]); first | done | rfl | (simp only [List.length_drop, List.length_take]; rfl)) ?_; (with_reducible refine (gemotlaw1_pick.calls a2 ((rdOf ByteArray.empty t981 t984).size : Int) t986 _ A14.out).mono ?_); rintro e w' ⟨rfl, ⟨nd, rfl⟩⟩; refine ⟨_, rfl, ?_⟩) | ((with_reducible refine gate_callee (f := 99) rfl ?_); refine goesL_ (some 45) rfl rfl Try.func99 (by kernel_rfl) rfl #[.string ((rdOf ByteArray.empty t981 t984).extract 0 (t986 : Int).toNat)] rfl (by (try simp only [List.map_toArray, List.map_cons, List.map_nil]); first | done | rfl | (simp only [List.length_drop, List.length_take]; rfl)) ?_; (with_reducible refine (term_Take.calls ((rdOf ByteArray.empty t981 t984).extract 0 (t986 : Int).toNat) t987 t988 t989 _ A17.out).mono ?_); rintro e w31 ⟨rfl, hb⟩; refine ⟨_, rfl, ?_⟩; have n0_ := Aside0.mk (Kd.R_below (by (with_reducible repeat (first | apply Kd.R_alloc | apply Kd.R_drewN | apply Kd.R_drew)); exact HO983.out) hb); have n1_ := Aside0.mk (below_step (by repeat (first | (with_reducible first | exact HB.out | apply below_alloc | apply pw_below_drewN | apply below_drew1) | exact HB.out)) hb); clear HO983; clear HB; have HO983 := n0_; have HB := n1_; clear n0_ n1_; (try clear hb); (try clear hb2); (try clear hk); (try clear hi)) | ((with_reducible refine gate_callee (f := 99) rfl ?_); refine goesL_ (some 53) rfl rfl Try.func99 (by kernel_rfl) rfl #[.string ((rdOf ByteArray.empty t981 t984) ++ a3)] rfl (by (try simp only [List.map_toArray, List.map_cons, List.map_nil]); first | done | rfl | (simp only [List.length_drop, List.length_take]; rfl)) ?_; (with_reducible refine (term_Take.calls ((rdOf ByteArray.empty t981 t984) ++ a3) t990 t991 t992 _ A19.out).mono ?_); rintro e w32 ⟨rfl, hb⟩; refine ⟨_, rfl, ?_⟩; have n0_ := Aside0.mk (Kd.R_below (by (with_reducible repeat (first | apply Kd.R_alloc | apply Kd.R_drewN | apply Kd.R_drew)); exact HO983.out) hb); have n1_ := Aside0.mk (below_step (by repeat (first | (with_reducible first | exact HB.out | apply below_alloc | apply pw_below_drewN | apply below_drew1) | exact HB.out)) hb); clear HO983; clear HB; have HO983 := n0_; have HB := n1_; clear n0_ n1_; (try clear hb); (try clear hb2); (try clear hk); (try clear hi)) | (go_at_call 66; (with_reducible refine (term_Right.calls ((rdOf ByteArray.empty t981 t984).extract 0 (t986 : Int).toNat) t993 _ A28.out).mono ?_); rintro e w33 ⟨rfl, hb⟩; have n0_ := Aside0.mk (Kd.R_below (by (with_reducible repeat (first | apply Kd.R_alloc | apply Kd.R_drewN | apply Kd.R_drew)); exact HO983.out) hb); have n1_ := Aside0.mk (below_step (by repeat (first | (with_reducible first | exact HB.out | apply below_alloc | apply pw_below_drewN | apply below_drew1) | exact HB.out)) hb); clear HO983; clear HB; have HO983 := n0_; have HB := n1_; clear n0_ n1_; (try clear hb); (try clear hb2); (try clear hk); (try clear hi)))
                              go_ret
                              exact ⟨by first | rfl | (simp [errW_none, errW_some] <;> rfl) | (simp [*, errW_none, errW_some] <;> rfl), by repeat (first | (with_reducible first | exact HB.out | apply below_alloc | apply pw_below_drewN | apply below_drew1) | exact HB.out)⟩
                            · rw [if_neg c25] at H
                              exact absurd H (by simp)
                          · rw [if_neg c24] at H
                            exact absurd H (by simp)
                        · rw [if_neg c23] at H
                          exact absurd H (by simp)
                      · rw [if_neg c22] at H
                        exact absurd H (by simp)
                    · rw [if_neg c21] at H
                      exact absurd H (by simp)
                  · rw [if_neg c20] at H
                    exact absurd H (by simp)
                · rw [if_neg c18] at H
                  exact absurd H (by simp)
              · rw [if_neg c16] at H
                exact absurd H (by simp)
            · rw [if_neg c15] at H
              exact absurd H (by simp)
          · rw [if_neg c13] at H
            exact absurd H (by simp)
        · rw [if_neg c12] at H
          exact absurd H (by simp)

end Go.Proofs.Ytpfpmjdifnoeoaa.F
namespace Go.Proofs.Ytpfpmjdifnoeoaa.F
open Go.RowKit Go.Proofs.YtpfpmjdifnoeoaaW.PrintWords Go.Proofs.YtpfpmjdifnoeoaaW.PrintLast Go.Proofs.YtpfpmjdifnoeoaaW.PrintMore
attribute [local go_sem] max2_int min2_int max_two min_two max_three min_three max_four min_four
set_option linter.unusedVariables false
set_option linter.unusedSimpArgs false

/-! ### term_Depth: function 87 -/
/-! #### term_Depth_p: function 87 -/
def term_Depth_p.f (a0 : ByteArray) : Option (Int) := (term_Right.f a0).bind fun t749 => (if t749 = true then ((term_scan.f a0).bind fun bt750 => (some bt750.2.1)) else (some 0))
set_option maxHeartbeats 8000000 in
set_option maxRecDepth 100000 in
theorem term_Depth_p.calls (a0 : ByteArray) (r : Int) (w : World) (h : term_Depth_p.f a0 = some r) :
    Calls Try.prog 87 #[.string a0] w fun e w' => e = .returned (.int .i64 r) ∧ Below w.heap.size w w' := by
  have HB := Aside0.mk (Below.refl w.heap.size w)
  have H : ((term_Right.f a0).bind fun t749 => (if t749 = true then ((term_scan.f a0).bind fun bt750 => (some bt750.2.1)) else (some 0))) = some r := h
  clear h
  replace H := Option.bind_eq_some_iff.mp H
  obtain ⟨t749, A20, H⟩ := H
  replace H : (if t749 = true then ((term_scan.f a0).bind fun bt750 => (some bt750.2.1)) else (some 0)) = some r := H
  have A2 := Aside0.mk A20
  clear A20
  by_cases c3 : t749 = true
  · subst c3
    have H1 : ((term_scan.f a0).bind fun bt750 => (some bt750.2.1)) = some r := by rw [if_pos rfl] at H; exact H
    clear H
    have H := H1
    clear H1
    replace H := Option.bind_eq_some_iff.mp H
    obtain ⟨⟨t750, t751, t752⟩, A40, H⟩ := H
    replace H : (some t751) = some r := H
    have A4 := Aside0.mk A40
    clear A40
    obtain rfl := Option.some.inj H
    go_enter Try.func87, Try.ntmps87
    go_wp2_with (first | ((with_reducible refine gate_callee (f := 66) rfl ?_); refine goesL_ (some 7) rfl rfl Try.func66 (by kernel_rfl) rfl #[.string a0] rfl (by (try simp only [List.map_toArray, List.map_cons, List.map_nil]); first | done | rfl | (simp only [List.length_drop, List.length_take]; rfl)) ?_; (with_reducible refine (term_Right.calls a0 true _ A2.out).mono ?_); rintro e w5 ⟨rfl, hb⟩; refine ⟨_, rfl, ?_⟩; have n0_ := Aside0.mk (below_step (by repeat (first | (with_reducible first | exact HB.out | apply below_alloc | apply pw_below_drewN | apply below_drew1) | exact HB.out)) hb); clear HB; have HB := n0_; clear n0_; (try clear hb); (try clear hb2); (try clear hk); (try clear hi)) | ((with_reducible refine gate_callee (f := 131) rfl ?_); refine goesL_ (some 11) rfl rfl Try.func131 (by kernel_rfl) rfl #[.string a0] rfl (by (try simp only [List.map_toArray, List.map_cons, List.map_nil]); first | done | rfl | (simp only [List.length_drop, List.length_take]; rfl)) ?_; (with_reducible refine (term_scan.calls a0 t750 t751 t752 _ A4.out).mono ?_); rintro e w6 ⟨rfl, hb⟩; refine ⟨_, rfl, ?_⟩; have n0_ := Aside0.mk (below_step (by repeat (first | (with_reducible first | exact HB.out | apply below_alloc | apply pw_below_drewN | apply below_drew1) | exact HB.out)) hb); clear HB; have HB := n0_; clear n0_; (try clear hb); (try clear hb2); (try clear hk); (try clear hi)))
    go_ret
    exact ⟨by first | rfl | (simp [errW_none, errW_some] <;> rfl) | (simp [*, errW_none, errW_some] <;> rfl), by repeat (first | (with_reducible first | exact HB.out | apply below_alloc | apply pw_below_drewN | apply below_drew1) | exact HB.out)⟩
  · replace c3 := Bool.eq_false_iff.mpr c3
    subst c3
    have H1 : (some 0) = some r := by rw [if_neg (show ¬ (false = true) by decide)] at H; exact H
    clear H
    have H := H1
    clear H1
    obtain rfl := Option.some.inj H
    go_enter Try.func87, Try.ntmps87
    go_wp2_with (first | ((with_reducible refine gate_callee (f := 66) rfl ?_); refine goesL_ (some 7) rfl rfl Try.func66 (by kernel_rfl) rfl #[.string a0] rfl (by (try simp only [List.map_toArray, List.map_cons, List.map_nil]); first | done | rfl | (simp only [List.length_drop, List.length_take]; rfl)) ?_; (with_reducible refine (term_Right.calls a0 false _ A2.out).mono ?_); rintro e w7 ⟨rfl, hb⟩; refine ⟨_, rfl, ?_⟩; have n0_ := Aside0.mk (below_step (by repeat (first | (with_reducible first | exact HB.out | apply below_alloc | apply pw_below_drewN | apply below_drew1) | exact HB.out)) hb); clear HB; have HB := n0_; clear n0_; (try clear hb); (try clear hb2); (try clear hk); (try clear hi)))
    go_ret
    exact ⟨by first | rfl | (simp [errW_none, errW_some] <;> rfl) | (simp [*, errW_none, errW_some] <;> rfl), by repeat (first | (with_reducible first | exact HB.out | apply below_alloc | apply pw_below_drewN | apply below_drew1) | exact HB.out)⟩

def depthF (t : ByteArray) : Int := if rightB t = true then (scanF t).2.1 else 0
def term_Depth.f (t : ByteArray) : Option Int := if t.size < 9223372036854775000 then some (depthF t) else none
theorem term_Depth.eq (t : ByteArray) (hs : t.size < 9223372036854775000) : term_Depth_p.f t = term_Depth.f t := by
  unfold term_Depth_p.f term_Right.f term_scan.f term_Depth.f depthF
  rw [if_pos hs, if_pos hs, if_pos hs]
  simp only [Option.bind_some]
  split <;> rfl
theorem term_Depth.calls (a0 : ByteArray) (r : Int) (w : World) (h : term_Depth.f a0 = some r) :
    Calls Try.prog 87 #[.string a0] w fun e w' => e = .returned (.int .i64 r) ∧ Below w.heap.size w w' := by
  have hs : a0.size < 9223372036854775000 := by
    unfold term_Depth.f at h
    split at h
    · assumption
    · cases h
  exact term_Depth_p.calls a0 r w ((term_Depth.eq a0 hs).trans h)

end Go.Proofs.Ytpfpmjdifnoeoaa.F
namespace Go.Proofs.Ytpfpmjdifnoeoaa.Pure
set_option linter.unusedVariables false
set_option linter.unusedSimpArgs false
open Go.RowKit Go.Proofs.Ytpfpmjdifnoeoaa.F Go.Proofs.YtpfpmjdifnoeoaaW.PrintWords Go.Proofs.YtpfpmjdifnoeoaaW.PrintLast Go.Proofs.YtpfpmjdifnoeoaaW.PrintMore

theorem rg64 {a : Int} (h : (Lit.int .i64 a).wf = true) : -9223372036854775808 ≤ a ∧ a ≤ 9223372036854775807 := by
  simp only [Lit.wf, IntKind.min, IntKind.max, IntKind.signed, IntKind.bits, Bool.and_eq_true, decide_eq_true_eq, if_true, Bool.false_eq_true, if_false] at h
  omega
theorem rgu64 {a : Int} (h : (Lit.int .u64 a).wf = true) : 0 ≤ a ∧ a < 18446744073709551616 := by
  simp only [Lit.wf, IntKind.min, IntKind.max, IntKind.signed, IntKind.bits, Bool.and_eq_true, decide_eq_true_eq, if_true, Bool.false_eq_true, if_false] at h
  omega
theorem tl_eq {a b : ByteArray} : a.toList = b.toList ↔ a = b :=
  ⟨fun h => by rw [ByteArray.toList_eq, ByteArray.toList_eq] at h; exact ByteArray.ext (Array.ext' h), fun h => by rw [h]⟩
theorem tl_beq {a b c d : ByteArray} (h : a = b ↔ c = d) : (a.toList == b.toList) = (c.toList == d.toList) := by
  rw [Bool.eq_iff_iff, beq_iff_eq, beq_iff_eq, tl_eq, tl_eq]; exact h
theorem tl_beq_int {a b : ByteArray} {x y : Int} (h : a = b ↔ x = y) : (a.toList == b.toList) = (x == y) := by
  rw [Bool.eq_iff_iff, beq_iff_eq, beq_iff_eq, tl_eq]; exact h
theorem ne_bt {a b : ByteArray} (h : bt a 0 ≠ bt b 0) : ¬ a.toList = b.toList := fun q => h (by rw [tl_eq.mp q])
theorem tl_nil {a : ByteArray} : a.toList = ([] : List UInt8) ↔ a = ⟨#[]⟩ := by
  have : (⟨#[]⟩ : ByteArray).toList = [] := by rw [ByteArray.toList_eq]
  constructor
  · intro h; exact tl_eq.mp (h.trans this.symm)
  · intro h; rw [h, this]
theorem depth_right {t : ByteArray} (h : rightB t = true) : depthF t = depF t := by
  have ht := ((right_iff t).mp h).1
  unfold depthF scanF
  rw [if_pos h, if_pos ht.1]; rfl
theorem depth_not {t : ByteArray} (h : rightB t = false) : depthF t = 0 := by
  unfold depthF
  rw [if_neg (by rw [h]; simp)]
theorem leaf_dep {t : ByteArray} (h : Leaf t) (hs : t.size ≤ 20000) : depthF t = 1 := by rw [depth_right (h.right hs), h.tm.2]
theorem Part.dep1 {m : Int} {t : ByteArray} (h : Part m t) : 1 ≤ depF t := h.tm.dep.1
/-! ### Eight bytes say a number -/
theorem cnt_byte {a b : Int} (h : UInt8.ofNat (a % 256).toNat = UInt8.ofNat (b % 256).toNat) : a % 256 = b % 256 := by
  have := congrArg UInt8.toNat h
  rw [UInt8.toNat_ofNat_of_lt' (by show (a % 256).toNat < 256; omega), UInt8.toNat_ofNat_of_lt' (by show (b % 256).toNat < 256; omega)] at this
  omega
theorem cnt_inj {c a b : Int} (ha : 0 ≤ a ∧ a < 18446744073709551616) (hb : 0 ≤ b ∧ b < 18446744073709551616) (h : countF c a = countF c b) : a = b := by
  have h1 := congrArg (fun x => x.data.toList) h
  simp only [countF, strOfNums, eightL, List.map_cons, List.map_nil, List.toList_toArray, List.cons.injEq, and_true, true_and] at h1
  obtain ⟨h7, h6, h5, h4, h3, h2, h1, h0⟩ := h1
  replace h7 := cnt_byte h7
  replace h6 := cnt_byte h6
  replace h5 := cnt_byte h5
  replace h4 := cnt_byte h4
  replace h3 := cnt_byte h3
  replace h2 := cnt_byte h2
  replace h1 := cnt_byte h1
  replace h0 := cnt_byte h0
  have s : ∀ (x : Int) (j : Nat), j ≤ 64 → shr .u64 x (j : Int) = x / ((2 ^ j : Nat) : Int) := by
    intro x j hj
    unfold shr
    rw [Nat.min_eq_left (by show ((j : Int)).toNat ≤ 64; omega), Int.toNat_natCast]
    congr 1
  have t : ∀ (x : Int) (j : Nat), j ≤ 56 → shr .u64 x ((j + 8 : Nat) : Int) = shr .u64 x (j : Int) / 256 := by
    intro x j hj
    rw [s x _ (by omega), s x _ (by omega), Int.ediv_ediv_of_nonneg (Int.natCast_nonneg _), Nat.pow_add]
    simp
  have step : ∀ j : Nat, j ≤ 56 → shr .u64 a (j : Int) % 256 = shr .u64 b (j : Int) % 256 → shr .u64 a ((j + 8 : Nat) : Int) = shr .u64 b ((j + 8 : Nat) : Int) → shr .u64 a (j : Int) = shr .u64 b (j : Int) := by
    intro j hj e1 e2
    rw [t a j hj, t b j hj] at e2
    omega
  have top : shr .u64 a ((64 : Nat) : Int) = shr .u64 b ((64 : Nat) : Int) := by
    rw [s a 64 (by omega), s b 64 (by omega)]
    have : ((2 ^ 64 : Nat) : Int) = 18446744073709551616 := by decide
    rw [this]
    omega
  have r := step 0 (by omega) h0 (step 8 (by omega) h1 (step 16 (by omega) h2 (step 24 (by omega) h3 (step 32 (by omega) h4 (step 40 (by omega) h5 (step 48 (by omega) h6 (step 56 (by omega) h7 top)))))))
  rw [s a 0 (by omega), s b 0 (by omega)] at r
  simpa using r
theorem text_inj {s t : ByteArray} (hs : s.size ≤ 100) (ht : t.size ≤ 100) (h : (textF s).1 = (textF t).1) : s = t := by
  rw [(text_ok hs).1, (text_ok ht).1] at h
  have h2 := congrArg bl h
  rw [bl_app, bl_app] at h2
  exact bl_inj (List.append_inj h2 rfl).2
end Go.Proofs.Ytpfpmjdifnoeoaa.Pure
namespace Go.Proofs.Ytpfpmjdifnoeoaa.Pure
set_option linter.unusedVariables false
set_option linter.unusedSimpArgs false
open Go.RowKit Go.Proofs.Ytpfpmjdifnoeoaa.F Go.Proofs.YtpfpmjdifnoeoaaW.PrintWords Go.Proofs.YtpfpmjdifnoeoaaW.PrintLast Go.Proofs.YtpfpmjdifnoeoaaW.PrintMore

theorem made1 (l : List S169) (h : ∀ y ∈ l, (Lit.int .i64 y.f0).wf = true ∧ (Lit.int .i64 y.f1).wf = true ∧ (Lit.int .i64 y.f2).wf = true ∧ (Lit.int .i64 y.f3).wf = true) : ∃ out, gemotlaw1_made.f l = some out ∧ MadeOk out ∧ out.length ≤ 42 := by
  refine ⟨gemotlaw1_made.tmade l, ?_, madeT_ok _⟩
  unfold gemotlaw1_made.f
  exact if_pos fun x hx => ⟨rg64 (h x hx).1, rg64 (h x hx).2.1, rg64 (h x hx).2.2.1, rg64 (h x hx).2.2.2⟩
theorem pick1 {c n : Int} (h : (Lit.int .i64 c).wf = true) (h0 : 0 < n) (h1 : n ≤ 100000) : gemotlaw1_pick.f c n = some (pickF c n) := by
  have := rg64 h
  unfold gemotlaw1_pick.f
  rw [if_pos ⟨this.1, this.2, h0, by omega⟩]
  rfl
theorem TermCuts : ∀ (l0 : List (S169)) (a1 : Int) (a2 : Int) (a3 : ByteArray), (l0.length ≤ 9223372036854775807 ∧ ∀ y ∈ l0, (Lit.int .i64 y.f0).wf = true ∧ (Lit.int .i64 y.f1).wf = true ∧ (Lit.int .i64 y.f2).wf = true ∧ (Lit.int .i64 y.f3).wf = true) → ((Lit.int .i64 a1).wf = true) → ((Lit.int .i64 a2).wf = true) → (a3.size ≤ 9223372036854775807) → ∃ k, gemotlaw1_TermCuts.f k l0 a1 a2 a3 = some true := by
  intro l0 a1 a2 a3 hl h1 h2 _
  obtain ⟨out, ho, hm, hlen⟩ := made1 l0 hl.2
  refine ⟨2, ?_⟩
  unfold gemotlaw1_TermCuts.f gemotlaw1_shown.f
  rw [Option.bind_some, if_pos rfl]
  by_cases c3 : (a3.size : Int) > 300
  · rw [decide_eq_true c3]; rfl
  rw [decide_eq_false c3, gemotlaw1_TermCuts.j0, if_neg (by decide), ho, Option.bind_some]
  have h20 := hm.two
  have hpos : (0 : Int) < (out.length : Int) := by omega
  have r1 := pickF_range a1 hpos
  have ha := hm.at_ hlen a1
  rw [pick1 h1 hpos (by omega), Option.bind_some, if_pos r1.1, if_pos r1.2]
  rw [show rdOf ByteArray.empty out (pickF a1 out.length) = atF out (pickF a1 out.length) from rfl]
  generalize atF out (pickF a1 out.length) = t at ha ⊢
  have htp := ha.1.tm.pos
  have hts := ha.2
  have hpos2 : (0 : Int) < (t.size : Int) := by omega
  have r2 := pickF_range a2 hpos2
  rw [pick1 h2 hpos2 (by omega), Option.bind_some, if_pos r2.1, if_pos (by omega)]
  generalize pickF a2 t.size = n at r2 ⊢
  have hcut := tm_cut ha.1.tm (n := n.toNat) (by omega)
  have hz : (t.extract 0 n.toNat).size ≤ t.size := by rw [ByteArray.size_extract]; omega
  have f1 : term_Take.f (t.extract 0 n.toNat) = some (⟨#[]⟩, ⟨#[]⟩, 2) := by unfold term_Take.f; rw [if_pos (by omega), hcut.1]
  have f2 : term_Take.f (t ++ a3) = some (t, a3, 0) := by unfold term_Take.f; rw [if_pos (by rw [ByteArray.size_append]; omega), take_app ha.1.tm ha.1.size]
  have f3 : term_Right.f (t.extract 0 n.toNat) = some false := by unfold term_Right.f; rw [if_pos (by omega), hcut.2]
  rw [f1, Option.bind_some, if_pos (by omega), f2, Option.bind_some, if_pos (tl_nil.mpr rfl), if_pos (tl_nil.mpr rfl), if_pos rfl, if_pos rfl, if_pos rfl, if_pos rfl, f3, Option.bind_some]
  rfl
end Go.Proofs.Ytpfpmjdifnoeoaa.Pure
namespace Go.Proofs.Ytpfpmjdifnoeoaa.termCuts
open Go.ChangeShapes Go.WideShapes Go.ChangeAt Go.RowKit Go.Proofs.Ytpfpmjdifnoeoaa.F Go.Proofs.YtpfpmjdifnoeoaaW.PrintWords Go.Proofs.YtpfpmjdifnoeoaaW.PrintLast Go.Proofs.YtpfpmjdifnoeoaaW.PrintMore
open Go.ChangeMaps (open_string shut_string)
set_option linter.unusedVariables false
set_option linter.unusedSimpArgs false
theorem own : ownKnob Try.prog.godebug = none := by kernel_rfl
theorem laidOut : laidOutB Try.prog = true := by kernel_rfl
def wf169 (x : S169) : Prop := ((Lit.int .i64 x.f0).wf = true) ∧ ((Lit.int .i64 x.f1).wf = true) ∧ ((Lit.int .i64 x.f2).wf = true) ∧ ((Lit.int .i64 x.f3).wf = true)
theorem opens_T169 : Opens Try.prog 169 k169 wf169 := by
  intro H enc w spare held fuel cs x h
  obtain ⟨xs, n, _, _, hl, hlen, hg⟩ := DataW.trod_struct Try.underlying169 h
  have hl' : cs.length = 4 := hl.trans (by kernel_rfl)
  obtain ⟨a0, h0, w0⟩ := opens_field hlen hg 0 _ rfl (opens_int Try.underlying3) 0 1 rfl (by kernel_rfl)
  obtain ⟨a1, h1, w1⟩ := opens_field hlen hg 1 _ rfl (opens_int Try.underlying3) 1 1 rfl (by kernel_rfl)
  obtain ⟨a2, h2, w2⟩ := opens_field hlen hg 2 _ rfl (opens_int Try.underlying3) 2 1 rfl (by kernel_rfl)
  obtain ⟨a3, h3, w3⟩ := opens_field hlen hg 3 _ rfl (opens_int Try.underlying3) 3 1 rfl (by kernel_rfl)
  have e : cs = (cs.drop 0).take 1 ++ ((cs.drop 1).take 1 ++ ((cs.drop 2).take 1 ++ ((cs.drop 3).take 1))) := ((cut2 cs 0 1 3 hl').trans (congrArg (fun z => (cs.drop 0).take 1 ++ z) ((cut2 cs 1 1 2 hl').trans (congrArg (fun z => (cs.drop 1).take 1 ++ z) ((cut2 cs 2 1 1 hl').trans (congrArg (fun z => (cs.drop 2).take 1 ++ z) (cut1 cs 3 1 hl')))))))
  exact ⟨⟨a0, a1, a2, a3⟩, ⟨_, _, e, h0, ⟨_, _, rfl, h1, ⟨_, _, rfl, h2, h3⟩⟩⟩, w0, w1, w2, w3⟩
set_option maxRecDepth 100000 in
theorem lifted (os : Os) (started : os.Started) (H : Type) (enc : TypeId × Value → H) :
    ReturnsInHanded {} Try.checked os 17 .any (Rows.termCutsSpec.pre6 enc Try.prog Try.f17 Rows.termCutsRow.domain false) (Rows.termCutsSpec.post enc Try.prog Try.f17 false true false false) := by
  refine returnsInHanded_of_change_sized (C := Try.checked) own started (by kernel_rfl) Try.func17
    (ChangeSpec.witness6 (enc := enc) (C := Try.checked) false ⟨#[], #[.slice none 0 0, .int .i64 0, .int .i64 0, .string ByteArray.empty], []⟩ 8 (by kernel_rfl) (by kernel_rfl) (by kernel_rfl) (by kernel_rfl)) ?_
  intro W base args ds gs before hval0 hW hcnd hsz0 _
  have hval : ∀ (j : Nat) t v, Try.f17.params[j]? = some t → args[j]? = some v → Value.okWide Try.prog W .any base t v := hval0
  have hW' := hW
  obtain ⟨p, q, hA0, hV, rfl, hfz, hnd⟩ := hW
  have hA : DataW.TrodAll enc Try.prog W 0 (fun _ => true) true Try.f17.params.toList args.toList ds p := hA0
  rw [Try.params17] at hA hval
  obtain ⟨v0, vs0, d0, ds0, p0, q0, hargs, rfl, rfl, h0, r0⟩ := trodAll_cons hA
  obtain ⟨v1, vs1, d1, ds1, p1, q1, rfl, rfl, rfl, h1, r1⟩ := trodAll_cons r0
  obtain ⟨v2, vs2, d2, ds2, p2, q2, rfl, rfl, rfl, h2, r2⟩ := trodAll_cons r1
  obtain ⟨v3, vs3, d3, ds3, p3, q3, rfl, rfl, rfl, h3, r3⟩ := trodAll_cons r2
  obtain ⟨rfl, rfl, rfl⟩ := trodAll_nil r3
  obtain rfl : args = #[v0, v1, v2, v3] := by cases args; simp_all
  obtain ⟨rfl, rfl⟩ := trodVars_none hV
  have k0 := h0
  have lt0 : ∀ x ∈ p0, x.block < W.heap.size := by obtain ⟨m, hm⟩ := k0; exact DataW.trod_lt m _ _ _ hm
  obtain ⟨a0, len0, cap0, rfl⟩ := okWide_slice Try.underlying107 (hval 0 107 v0 rfl rfl)
  obtain ⟨fuel0, hf0⟩ := h0
  obtain ⟨l0, ⟨A0, c0, e0, hc0, hr0⟩, w0⟩ := (opens_slice Try.underlying107 (by kernel_rfl) opens_T169) enc W _ _ _ _ _ hf0
  simp only [Value.cells, List.cons.injEq, Value.slice.injEq, and_true] at e0
  obtain ⟨rfl, rfl, rfl⟩ := e0
  have k1 := h1
  have lt1 : ∀ x ∈ p1, x.block < W.heap.size := by obtain ⟨m, hm⟩ := k1; exact DataW.trod_lt m _ _ _ hm
  obtain ⟨a1, rfl, _, _, w1⟩ := open_int Try.underlying3 (hval 1 3 v1 rfl rfl) h1
  have k2 := h2
  have lt2 : ∀ x ∈ p2, x.block < W.heap.size := by obtain ⟨m, hm⟩ := k2; exact DataW.trod_lt m _ _ _ hm
  obtain ⟨a2, rfl, _, _, w2⟩ := open_int Try.underlying3 (hval 2 3 v2 rfl rfl) h2
  have k3 := h3
  have lt3 : ∀ x ∈ p3, x.block < W.heap.size := by obtain ⟨m, hm⟩ := k3; exact DataW.trod_lt m _ _ _ hm
  obtain ⟨a3, rfl, _, _, w3⟩ := open_string Try.underlying9 (hval 3 9 v3 rfl rfl) h3
  obtain ⟨k, hp⟩ := Pure.TermCuts l0 a1 a2 a3 w0 w1 w2 w3
  refine (gemotlaw1_TermCuts.calls k _ _ l0 a1 a2 a3 true W hr0 hc0 hp).mono fun e W' he => ?_
  obtain ⟨he, hb⟩ := he
  subst he
  have bel : Below W.heap.size W W' := hb
  exact ⟨_, rfl, _, _, _, [], _, [], hW', trodAll_mk1 (shut_bool Try.underlying4 _), (trodAll_cons_mk (Below.trod laidOut (by kernel_rfl) (of_decide_eq_true (by kernel_rfl)) k0 bel lt0) (trodAll_cons_mk (Below.trod laidOut (by kernel_rfl) (of_decide_eq_true (by kernel_rfl)) k1 bel lt1) (trodAll_cons_mk (Below.trod laidOut (by kernel_rfl) (of_decide_eq_true (by kernel_rfl)) k2 bel lt2) (trodAll_cons_mk (Below.trod laidOut (by kernel_rfl) (of_decide_eq_true (by kernel_rfl)) k3 bel lt3) trodAll_mk0)))), rfl, bel.frame _, fun h => by cases h⟩
theorem j0 : (Rows.termCutsRow.wf (OpenSpec.ofChange Rows.termCutsSpec)) = true := by kernel_rfl
theorem j1 : (laidOutB Try.pinned.checked.prog) = true := rowfact_laidOut
theorem j2 : (mapsRowed Try.pinned.checked.prog) = true := rowfact_mapsRowed
theorem j3 : (Try.f17.params.all (Try.pinned.checked.prog.readableRec ·)) = true := by kernel_rfl
theorem j4 : (namedTie Try.pinned.checked.prog Rows.termCutsRow.named Rows.termCutsSpec.vars) = true := by kernel_rfl
theorem j5 : ((Rows.termCutsRow.stops == [])) = true := by kernel_rfl
theorem j6 : ((Try.pinned.checked.prog.stops == [])) = true := by kernel_rfl
theorem j7 : ((Rows.termCutsRow.knobs == [])) = true := by kernel_rfl
theorem j8 : ((Try.pinned.checked.prog.stopKnobs == [])) = true := by kernel_rfl
theorem j9 : ((Rows.termCutsRow.inPlace == Try.pinned.checked.prog.inPlace 17)) = true := by kernel_rfl
theorem j10 : ((Rows.termCutsRow.unfollowed == Try.pinned.checked.prog.unfollowed 17)) = true := by kernel_rfl
theorem j11 : ((Rows.termCutsRow.recurses == Try.pinned.checked.prog.recurses 17)) = true := by kernel_rfl
theorem j12 : ((Rows.termCutsRow.named == Try.pinned.checked.prog.varsNamed 17)) = true := by kernel_rfl
theorem j13 : ((Rows.termCutsRow.maps == (Try.f17.params.toList ++ Rows.termCutsSpec.plain.varTypes Try.pinned.checked.prog).any (Try.pinned.checked.prog.mapsRec ·))) = true := by kernel_rfl
theorem j14 : ((Rows.termCutsRow.ifaces == (Try.f17.params.toList ++ Rows.termCutsSpec.plain.varTypes Try.pinned.checked.prog).any (Try.pinned.checked.prog.ifacesRec ·))) = true := by kernel_rfl
theorem j15 : ((Rows.termCutsRow.mapsOut == Try.pinned.checked.prog.mapsAmong Try.f17.resultTypes.toList)) = true := by kernel_rfl
theorem j16 : ((Rows.termCutsRow.loops == (Try.f17.params.toList ++ Rows.termCutsSpec.plain.varTypes Try.pinned.checked.prog).any (Try.pinned.checked.prog.loopsFrom ·))) = true := by kernel_rfl
theorem j17 : ((Rows.termCutsRow.wideKeys == (Try.f17.params.toList ++ Rows.termCutsSpec.plain.varTypes Try.pinned.checked.prog ++ Try.f17.resultTypes.toList).any (Try.pinned.checked.prog.wideKeysFrom ·))) = true := by kernel_rfl
theorem j18 : (Rows.termCutsSpec.vars.all (Try.pinned.checked.prog.varReadable ·)) = true := by kernel_rfl
theorem j19 : (Try.f17.resultTypes.all (fun t => Try.pinned.checked.prog.readableRec t && decide (t < Try.pinned.checked.prog.types.size))) = true := by kernel_rfl
theorem j20 : ((Rows.termCutsRow.ifacesOut == Try.f17.resultTypes.toList.any (Try.pinned.checked.prog.ifacesRec ·))) = true := by kernel_rfl
theorem j21 : ((Rows.termCutsRow.loopsOut == Try.f17.resultTypes.toList.any (Try.pinned.checked.prog.loopsFrom ·))) = true := by kernel_rfl
theorem j22 : ((Rows.termCutsRow.plainKeys == Try.pinned.checked.prog.plainKeys)) = true := by kernel_rfl
theorem j23 : (Rows.termCutsRow.shortTexts.isNone) = true := by kernel_rfl
theorem j24 : (Try.pinned.checked.prog.stopsHeard) = true := rowfact_stopsHeard
theorem j25 : (Try.pinned.checked.prog.mayEnter) = true := rowfact_mayEnter
theorem j26 : ((Rows.termCutsRow.lifted == Try.pinned.checked.prog.liftsFinal)) = true := by rw [rowfact_lifts]; kernel_rfl
theorem j27 : ((Try.pinned.checked.prog.make == some Rows.termCutsRow.make)) = true := by rw [rowfact_make]; kernel_rfl
theorem j28 : ((Rows.termCutsRow.kinds == (if Rows.termCutsRow.domain.isEmpty then [] else Try.f17.params.toList.map fun t => match Try.pinned.checked.prog.underlying t with | some (.int k) => some k | _ => none))) = true := by kernel_rfl
theorem j29 : ((Rows.termCutsRow.pinned == Rows.termCutsRow.pinnedBy)) = true := by kernel_rfl
theorem j30 : ((Rows.termCutsRow.veiled == (Try.f17.params.toList ++ Rows.termCutsSpec.plain.varTypes Try.pinned.checked.prog ++ Try.f17.resultTypes.toList).any (Try.pinned.checked.prog.veiledRec ·))) = true := by kernel_rfl
theorem j31 : (Rows.termCutsRow.veiledFits Try.pinned.checked.prog Try.f17.params.toList (Try.f17.params.toList ++ Rows.termCutsSpec.plain.varTypes Try.pinned.checked.prog ++ Try.f17.resultTypes.toList)) = true := by kernel_rfl
set_option maxRecDepth 100000 in
theorem closed : joinedFacts Try.pinned.checked.prog 17 Try.f17 Rows.termCutsSpec Rows.termCutsRow = true := gen_closed _ _ _ _ _ j0 j1 j2 j3 j4 j5 j6 j7 j8 j9 j10 j11 j12 j13 j14 j15 j16 j17 j18 j19 j20 j21 j22 j23 j24 j25 j26 j27 j28 j29 j30 j31
theorem over : Rows.termCutsRow.holds Try.pinned (OpenSpec.ofChange Rows.termCutsSpec) :=
  OpenClaim.holds_of_wide 17 Try.f17 rfl rfl rfl rfl rfl rfl rfl ⟨rfl, rfl, rfl, rfl, rfl⟩ rfl rfl rfl rfl rfl (by kernel_rfl) Try.func17 closed
    (of_decide_eq_true (by kernel_rfl)) (by unfold Func.isWrapper; first | (rw [if_pos (by decide +kernel)]; kernel_rfl) | (rw [if_neg (by decide +kernel)]; exact ⟨rfl, rfl⟩))
    (fun os started H enc _ => lifted os started H enc)
end Go.Proofs.Ytpfpmjdifnoeoaa.termCuts
namespace Go.Proofs.Ytpfpmjdifnoeoaa
/-- The given statement, proved. -/
theorem termCuts_holds : Rows.TermCutsSaid := termCuts.over
#print axioms termCuts_holds
end Go.Proofs.Ytpfpmjdifnoeoaa
