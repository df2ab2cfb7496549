/- The law gemot/gemotlaw1.TermTurns: for every input it returns true, and the input reads behind the call as it read before; no condition. -/
import Derived.Test.YtpfpmjdifnoeoaaF0
import Derived.Test.YtpfpmjdifnoeoaaF65
import Derived.Test.YtpfpmjdifnoeoaaF86
import Derived.Test.YtpfpmjdifnoeoaaF88
import Derived.Test.YtpfpmjdifnoeoaaLMade
import Derived.Test.YtpfpmjdifnoeoaaF131
import Derived.Test.YtpfpmjdifnoeoaaF66
import Derived.Test.YtpfpmjdifnoeoaaF97
import Derived.Test.YtpfpmjdifnoeoaaF98
import Derived.Test.YtpfpmjdifnoeoaaF99
import Derived.Test.YtpfpmjdifnoeoaaRows
import Derived.Test.YtpfpmjdifnoeoaaRowOpen
import Derived.Test.YtpfpmjdifnoeoaaRowFacts
import Derived.WalkKit
import Derived.ProofKit
import Derived.OpenShut
import Derived.ShutString
import Derived.ChangeOld
import Derived.Below
import Derived.SizedLaws
import Derived.Carry
import Derived.WideShapes
namespace Go.Proofs.Ytpfpmjdifnoeoaa.F
open Go.RowKit Go.Proofs.YtpfpmjdifnoeoaaW.PrintWords Go.Proofs.YtpfpmjdifnoeoaaW.PrintLast Go.Proofs.YtpfpmjdifnoeoaaW.PrintMore
attribute [local go_sem] max2_int min2_int max_two min_two max_three min_three max_four min_four
set_option linter.unusedVariables false
set_option linter.unusedSimpArgs false

/-! ### gemotlaw1_shown: function 78 -/
/-! #### gemotlaw1_shown_p: function 78 -/
def gemotlaw1_shown_p.f  : Option (Bool) := (term_Gen.f).bind fun t786 => ((term_Name.f 2).bind fun t787 => ((term_Power.f t786 t787).bind fun bt788 => ((term_Name.f 1).bind fun t790 => ((term_Power.f bt788.1 t790).bind fun bt791 => (if bt788.2 = 0 then (if bt791.2 = 0 then (some (bt791.1.toList == ([101, 2, 110, 0, 0, 0, 0, 0, 0, 0, 1, 110, 0, 0, 0, 0, 0, 0, 0, 2] : List UInt8))) else (some false)) else (some false))))))
set_option maxHeartbeats 8000000 in
set_option maxRecDepth 100000 in
theorem gemotlaw1_shown_p.calls  (r : Bool) (w : World) (h : gemotlaw1_shown_p.f  = some r) :
    Calls Try.prog 78 #[] w fun e w' => e = .returned (.bool r) ∧ Below w.heap.size w w' := by
  have HB := Aside0.mk (Below.refl w.heap.size w)
  have H : ((term_Gen.f).bind fun t786 => ((term_Name.f 2).bind fun t787 => ((term_Power.f t786 t787).bind fun bt788 => ((term_Name.f 1).bind fun t790 => ((term_Power.f bt788.1 t790).bind fun bt791 => (if bt788.2 = 0 then (if bt791.2 = 0 then (some (bt791.1.toList == ([101, 2, 110, 0, 0, 0, 0, 0, 0, 0, 1, 110, 0, 0, 0, 0, 0, 0, 0, 2] : List UInt8))) else (some false)) else (some false))))))) = some r := h
  clear h
  replace H := Option.bind_eq_some_iff.mp H
  obtain ⟨t786, A10, H⟩ := H
  replace H : ((term_Name.f 2).bind fun t787 => ((term_Power.f t786 t787).bind fun bt788 => ((term_Name.f 1).bind fun t790 => ((term_Power.f bt788.1 t790).bind fun bt791 => (if bt788.2 = 0 then (if bt791.2 = 0 then (some (bt791.1.toList == ([101, 2, 110, 0, 0, 0, 0, 0, 0, 0, 1, 110, 0, 0, 0, 0, 0, 0, 0, 2] : List UInt8))) else (some false)) else (some false)))))) = some r := H
  have A1 := Aside0.mk A10
  clear A10
  replace H := Option.bind_eq_some_iff.mp H
  obtain ⟨t787, A20, H⟩ := H
  replace H : ((term_Power.f t786 t787).bind fun bt788 => ((term_Name.f 1).bind fun t790 => ((term_Power.f bt788.1 t790).bind fun bt791 => (if bt788.2 = 0 then (if bt791.2 = 0 then (some (bt791.1.toList == ([101, 2, 110, 0, 0, 0, 0, 0, 0, 0, 1, 110, 0, 0, 0, 0, 0, 0, 0, 2] : List UInt8))) else (some false)) else (some false))))) = some r := H
  have A2 := Aside0.mk A20
  clear A20
  replace H := Option.bind_eq_some_iff.mp H
  obtain ⟨⟨t788, t789⟩, A30, H⟩ := H
  replace H : ((term_Name.f 1).bind fun t790 => ((term_Power.f t788 t790).bind fun bt791 => (if t789 = 0 then (if bt791.2 = 0 then (some (bt791.1.toList == ([101, 2, 110, 0, 0, 0, 0, 0, 0, 0, 1, 110, 0, 0, 0, 0, 0, 0, 0, 2] : List UInt8))) else (some false)) else (some false)))) = some r := H
  have A3 := Aside0.mk A30
  clear A30
  replace H := Option.bind_eq_some_iff.mp H
  obtain ⟨t790, A40, H⟩ := H
  replace H : ((term_Power.f t788 t790).bind fun bt791 => (if t789 = 0 then (if bt791.2 = 0 then (some (bt791.1.toList == ([101, 2, 110, 0, 0, 0, 0, 0, 0, 0, 1, 110, 0, 0, 0, 0, 0, 0, 0, 2] : List UInt8))) else (some false)) else (some false))) = some r := H
  have A4 := Aside0.mk A40
  clear A40
  replace H := Option.bind_eq_some_iff.mp H
  obtain ⟨⟨t791, t792⟩, A50, H⟩ := H
  replace H : (if t789 = 0 then (if t792 = 0 then (some (t791.toList == ([101, 2, 110, 0, 0, 0, 0, 0, 0, 0, 1, 110, 0, 0, 0, 0, 0, 0, 0, 2] : List UInt8))) else (some false)) else (some false)) = some r := H
  have A5 := Aside0.mk A50
  clear A50
  by_cases c6 : t789 = 0
  · rw [if_pos c6] at H
    have c6b0 : (t789 == 0) = true := beq_iff_eq.mpr c6
    have c6b1 : (t789 != 0) = false := bne_eq_false_iff_eq.mpr c6
    clear c6
    by_cases c7 : t792 = 0
    · rw [if_pos c7] at H
      have c7b0 : (t792 == 0) = true := beq_iff_eq.mpr c7
      have c7b1 : (t792 != 0) = false := bne_eq_false_iff_eq.mpr c7
      clear c7
      obtain rfl := Option.some.inj H
      go_enter Try.func78, Try.ntmps78
      go_wp2_with (first | ((with_reducible refine gate_callee (f := 86) rfl ?_); refine goesL_ (some 6) rfl rfl Try.func86 (by kernel_rfl) rfl #[] rfl (by (try simp only [List.map_toArray, List.map_cons, List.map_nil]); first | done | rfl | (simp only [List.length_drop, List.length_take]; rfl)) ?_; (with_reducible refine (term_Gen.calls  t786 _ A1.out).mono ?_); rintro e w' ⟨rfl, ⟨nd, rfl⟩⟩; refine ⟨_, rfl, ?_⟩) | ((with_reducible refine gate_callee (f := 65) rfl ?_); refine goesL_ (some 7) rfl rfl Try.func65 (by kernel_rfl) rfl #[.int .u64 2] rfl (by (try simp only [List.map_toArray, List.map_cons, List.map_nil]); first | done | rfl | (simp only [List.length_drop, List.length_take]; rfl)) ?_; (with_reducible refine (term_Name.calls 2 t787 _ A2.out).mono ?_); rintro e w8 ⟨rfl, hb⟩; refine ⟨_, rfl, ?_⟩; have n0_ := Aside0.mk (below_step (by repeat (first | (with_reducible first | exact HB.out | apply below_alloc | apply pw_below_drewN | apply below_drew1) | exact HB.out)) hb); clear HB; have HB := n0_; clear n0_; (try clear hb); (try clear hb2); (try clear hk); (try clear hi)) | ((with_reducible refine gate_callee (f := 88) rfl ?_); refine goesL_ (some 8) rfl rfl Try.func88 (by kernel_rfl) rfl #[.string t786, .string t787] rfl (by (try simp only [List.map_toArray, List.map_cons, List.map_nil]); first | done | rfl | (simp only [List.length_drop, List.length_take]; rfl)) ?_; (with_reducible refine (term_Power.calls t786 t787 t788 t789 _ A3.out).mono ?_); rintro e w9 ⟨rfl, hb⟩; refine ⟨_, rfl, ?_⟩; have n0_ := Aside0.mk (below_step (by repeat (first | (with_reducible first | exact HB.out | apply below_alloc | apply pw_below_drewN | apply below_drew1) | exact HB.out)) hb); clear HB; have HB := n0_; clear n0_; (try clear hb); (try clear hb2); (try clear hk); (try clear hi)) | ((with_reducible refine gate_callee (f := 65) rfl ?_); refine goesL_ (some 13) rfl rfl Try.func65 (by kernel_rfl) rfl #[.int .u64 1] rfl (by (try simp only [List.map_toArray, List.map_cons, List.map_nil]); first | done | rfl | (simp only [List.length_drop, List.length_take]; rfl)) ?_; (with_reducible refine (term_Name.calls 1 t790 _ A4.out).mono ?_); rintro e w10 ⟨rfl, hb⟩; refine ⟨_, rfl, ?_⟩; have n0_ := Aside0.mk (below_step (by repeat (first | (with_reducible first | exact HB.out | apply below_alloc | apply pw_below_drewN | apply below_drew1) | exact HB.out)) hb); clear HB; have HB := n0_; clear n0_; (try clear hb); (try clear hb2); (try clear hk); (try clear hi)) | ((with_reducible refine gate_callee (f := 88) rfl ?_); refine goesL_ (some 14) rfl rfl Try.func88 (by kernel_rfl) rfl #[.string t788, .string t790] rfl (by (try simp only [List.map_toArray, List.map_cons, List.map_nil]); first | done | rfl | (simp only [List.length_drop, List.length_take]; rfl)) ?_; (with_reducible refine (term_Power.calls t788 t790 t791 t792 _ A5.out).mono ?_); rintro e w11 ⟨rfl, hb⟩; refine ⟨_, rfl, ?_⟩; have n0_ := Aside0.mk (below_step (by repeat (first | (with_reducible first | exact HB.out | apply below_alloc | apply pw_below_drewN | apply below_drew1) | exact HB.out)) hb); clear HB; have HB := n0_; clear n0_; (try clear hb); (try clear hb2); (try clear hk); (try clear hi)))
      go_ret
      exact ⟨by first | rfl | (simp [errW_none, errW_some] <;> rfl) | (simp [*, errW_none, errW_some] <;> rfl), by repeat (first | (with_reducible first | exact HB.out | apply below_alloc | apply pw_below_drewN | apply below_drew1) | exact HB.out)⟩
    · rw [if_neg c7] at H
      have c7b0 : (t792 == 0) = false := beq_eq_false_iff_ne.mpr c7
      have c7b1 : (t792 != 0) = true := bne_iff_ne.mpr c7
      obtain rfl := Option.some.inj H
      go_enter Try.func78, Try.ntmps78
      go_wp2_with (first | ((with_reducible refine gate_callee (f := 86) rfl ?_); refine goesL_ (some 6) rfl rfl Try.func86 (by kernel_rfl) rfl #[] rfl (by (try simp only [List.map_toArray, List.map_cons, List.map_nil]); first | done | rfl | (simp only [List.length_drop, List.length_take]; rfl)) ?_; (with_reducible refine (term_Gen.calls  t786 _ A1.out).mono ?_); rintro e w' ⟨rfl, ⟨nd, rfl⟩⟩; refine ⟨_, rfl, ?_⟩) | ((with_reducible refine gate_callee (f := 65) rfl ?_); refine goesL_ (some 7) rfl rfl Try.func65 (by kernel_rfl) rfl #[.int .u64 2] rfl (by (try simp only [List.map_toArray, List.map_cons, List.map_nil]); first | done | rfl | (simp only [List.length_drop, List.length_take]; rfl)) ?_; (with_reducible refine (term_Name.calls 2 t787 _ A2.out).mono ?_); rintro e w12 ⟨rfl, hb⟩; refine ⟨_, rfl, ?_⟩; have n0_ := Aside0.mk (below_step (by repeat (first | (with_reducible first | exact HB.out | apply below_alloc | apply pw_below_drewN | apply below_drew1) | exact HB.out)) hb); clear HB; have HB := n0_; clear n0_; (try clear hb); (try clear hb2); (try clear hk); (try clear hi)) | ((with_reducible refine gate_callee (f := 88) rfl ?_); refine goesL_ (some 8) rfl rfl Try.func88 (by kernel_rfl) rfl #[.string t786, .string t787] rfl (by (try simp only [List.map_toArray, List.map_cons, List.map_nil]); first | done | rfl | (simp only [List.length_drop, List.length_take]; rfl)) ?_; (with_reducible refine (term_Power.calls t786 t787 t788 t789 _ A3.out).mono ?_); rintro e w13 ⟨rfl, hb⟩; refine ⟨_, rfl, ?_⟩; have n0_ := Aside0.mk (below_step (by repeat (first | (with_reducible first | exact HB.out | apply below_alloc | apply pw_below_drewN | apply below_drew1) | exact HB.out)) hb); clear HB; have HB := n0_; clear n0_; (try clear hb); (try clear hb2); (try clear hk); (try clear hi)) | ((with_reducible refine gate_callee (f := 65) rfl ?_); refine goesL_ (some 13) rfl rfl Try.func65 (by kernel_rfl) rfl #[.int .u64 1] rfl (by (try simp only [List.map_toArray, List.map_cons, List.map_nil]); first | done | rfl | (simp only [List.length_drop, List.length_take]; rfl)) ?_; (with_reducible refine (term_Name.calls 1 t790 _ A4.out).mono ?_); rintro e w14 ⟨rfl, hb⟩; refine ⟨_, rfl, ?_⟩; have n0_ := Aside0.mk (below_step (by repeat (first | (with_reducible first | exact HB.out | apply below_alloc | apply pw_below_drewN | apply below_drew1) | exact HB.out)) hb); clear HB; have HB := n0_; clear n0_; (try clear hb); (try clear hb2); (try clear hk); (try clear hi)) | ((with_reducible refine gate_callee (f := 88) rfl ?_); refine goesL_ (some 14) rfl rfl Try.func88 (by kernel_rfl) rfl #[.string t788, .string t790] rfl (by (try simp only [List.map_toArray, List.map_cons, List.map_nil]); first | done | rfl | (simp only [List.length_drop, List.length_take]; rfl)) ?_; (with_reducible refine (term_Power.calls t788 t790 t791 t792 _ A5.out).mono ?_); rintro e w15 ⟨rfl, hb⟩; refine ⟨_, rfl, ?_⟩; have n0_ := Aside0.mk (below_step (by repeat (first | (with_reducible first | exact HB.out | apply below_alloc | apply pw_below_drewN | apply below_drew1) | exact HB.out)) hb); clear HB; have HB := n0_; clear n0_; (try clear hb); (try clear hb2); (try clear hk); (try clear hi)))
      go_ret
      exact ⟨by first | rfl | (simp [errW_none, errW_some] <;> rfl) | (simp [*, errW_none, errW_some] <;> rfl), by repeat (first | (with_reducible first | exact HB.out | apply below_alloc | apply pw_below_drewN | apply below_drew1) | exact HB.out)⟩
  · rw [if_neg c6] at H
    have c6b0 : (t789 == 0) = false := beq_eq_false_iff_ne.mpr c6
    have c6b1 : (t789 != 0) = true := bne_iff_ne.mpr c6
    obtain rfl := Option.some.inj H
    go_enter Try.func78, Try.ntmps78
    go_wp2_with (first | ((with_reducible refine gate_callee (f := 86) rfl ?_); refine goesL_ (some 6) rfl rfl Try.func86 (by kernel_rfl) rfl #[] rfl (by (try simp only [List.map_toArray, List.map_cons, List.map_nil]); first | done | rfl | (simp only [List.length_drop, List.length_take]; rfl)) ?_; (with_reducible refine (term_Gen.calls  t786 _ A1.out).mono ?_); rintro e w' ⟨rfl, ⟨nd, rfl⟩⟩; refine ⟨_, rfl, ?_⟩) | ((with_reducible refine gate_callee (f := 65) rfl ?_); refine goesL_ (some 7) rfl rfl Try.func65 (by kernel_rfl) rfl #[.int .u64 2] rfl (by (try simp only [List.map_toArray, List.map_cons, List.map_nil]); first | done | rfl | (simp only [List.length_drop, List.length_take]; rfl)) ?_; (with_reducible refine (term_Name.calls 2 t787 _ A2.out).mono ?_); rintro e w16 ⟨rfl, hb⟩; refine ⟨_, rfl, ?_⟩; have n0_ := Aside0.mk (below_step (by repeat (first | (with_reducible first | exact HB.out | apply below_alloc | apply pw_below_drewN | apply below_drew1) | exact HB.out)) hb); clear HB; have HB := n0_; clear n0_; (try clear hb); (try clear hb2); (try clear hk); (try clear hi)) | ((with_reducible refine gate_callee (f := 88) rfl ?_); refine goesL_ (some 8) rfl rfl Try.func88 (by kernel_rfl) rfl #[.string t786, .string t787] rfl (by (try simp only [List.map_toArray, List.map_cons, List.map_nil]); first | done | rfl | (simp only [List.length_drop, List.length_take]; rfl)) ?_; (with_reducible refine (term_Power.calls t786 t787 t788 t789 _ A3.out).mono ?_); rintro e w17 ⟨rfl, hb⟩; refine ⟨_, rfl, ?_⟩; have n0_ := Aside0.mk (below_step (by repeat (first | (with_reducible first | exact HB.out | apply below_alloc | apply pw_below_drewN | apply below_drew1) | exact HB.out)) hb); clear HB; have HB := n0_; clear n0_; (try clear hb); (try clear hb2); (try clear hk); (try clear hi)) | ((with_reducible refine gate_callee (f := 65) rfl ?_); refine goesL_ (some 13) rfl rfl Try.func65 (by kernel_rfl) rfl #[.int .u64 1] rfl (by (try simp only [List.map_toArray, List.map_cons, List.map_nil]); first | done | rfl | (simp only [List.length_drop, List.length_take]; rfl)) ?_; (with_reducible refine (term_Name.calls 1 t790 _ A4.out).mono ?_); rintro e w18 ⟨rfl, hb⟩; refine ⟨_, rfl, ?_⟩; have n0_ := Aside0.mk (below_step (by repeat (first | (with_reducible first | exact HB.out | apply below_alloc | apply pw_below_drewN | apply below_drew1) | exact HB.out)) hb); clear HB; have HB := n0_; clear n0_; (try clear hb); (try clear hb2); (try clear hk); (try clear hi)) | ((with_reducible refine gate_callee (f := 88) rfl ?_); refine goesL_ (some 14) rfl rfl Try.func88 (by kernel_rfl) rfl #[.string t788, .string t790] rfl (by (try simp only [List.map_toArray, List.map_cons, List.map_nil]); first | done | rfl | (simp only [List.length_drop, List.length_take]; rfl)) ?_; (with_reducible refine (term_Power.calls t788 t790 t791 t792 _ A5.out).mono ?_); rintro e w19 ⟨rfl, hb⟩; refine ⟨_, rfl, ?_⟩; have n0_ := Aside0.mk (below_step (by repeat (first | (with_reducible first | exact HB.out | apply below_alloc | apply pw_below_drewN | apply below_drew1) | exact HB.out)) hb); clear HB; have HB := n0_; clear n0_; (try clear hb); (try clear hb2); (try clear hk); (try clear hi)))
    go_ret
    exact ⟨by first | rfl | (simp [errW_none, errW_some] <;> rfl) | (simp [*, errW_none, errW_some] <;> rfl), by repeat (first | (with_reducible first | exact HB.out | apply below_alloc | apply pw_below_drewN | apply below_drew1) | exact HB.out)⟩

open Go.Proofs.Ytpfpmjdifnoeoaa.Pure
def gemotlaw1_shown.f : Option Bool := some true
theorem gemotlaw1_shown.eq : gemotlaw1_shown_p.f = some true := by
  have hn : ∀ x ∈ [nameF 2], Tm x ∧ depF x ≤ 399 := mem1 ⟨(name_leaf 2).tm.1, by rw [(name_leaf 2).tm.2]; decide⟩
  have h1 : powF ⟨#[103]⟩ (nameF 2) = (elmOf [nameF 2], 0) := by
    rw [pow_eq gen_elem.1 ((name_leaf 2).right (by rw [name_size]; omega)), gen_elem.2, if_neg (by decide), List.nil_append, whole_right]
    exact node_right (elmOf_node (by simp) (by decide) hn) (by rw [elmOf_size (by simp), cat1]; show 2 + 9 ≤ _; omega)
  have h2 := elem_of_node (l := [nameF 2]) (by simp) (by decide) hn (by rw [elmOf_size (by simp), cat1]; show 2 + 9 ≤ _; omega)
  have hs : sortB [nameF 2] = [nameF 2] := sortB_of_sorted (List.pairwise_singleton _ _)
  rw [hs] at h2
  have hn2 : ∀ x ∈ [nameF 2, nameF 1], Tm x ∧ depF x ≤ 399 := mem2 ⟨(name_leaf 2).tm.1, by rw [(name_leaf 2).tm.2]; decide⟩ ⟨(name_leaf 1).tm.1, by rw [(name_leaf 1).tm.2]; decide⟩
  have h3 : powF (elmOf [nameF 2]) (nameF 1) = (elmOf [nameF 2, nameF 1], 0) := by
    rw [pow_eq h2.1 ((name_leaf 1).right (by rw [name_size]; omega)), h2.2, if_neg (by decide), whole_right]
    · rfl
    · exact node_right (elmOf_node (by simp) (by decide) hn2) (by rw [elmOf_size (by simp), show [nameF 2] ++ [nameF 1] = [nameF 2, nameF 1] from rfl, cat2, ByteArray.size_append]; show 2 + (9 + 9) ≤ _; omega)
  have hs2 : sortB [nameF 2, nameF 1] = [nameF 1, nameF 2] := by
    have : bl (nameF 1) ≤ bl (nameF 2) := by decide
    rw [sortB_of_perm (List.Perm.swap (nameF 1) (nameF 2) [])]
    exact sortB_of_sorted (List.pairwise_cons.mpr ⟨fun y hy => by rw [List.mem_singleton.mp hy]; exact this, List.pairwise_singleton _ _⟩)
  have h4 : (elmOf [nameF 2, nameF 1]).toList = [101, 2, 110, 0, 0, 0, 0, 0, 0, 0, 1, 110, 0, 0, 0, 0, 0, 0, 0, 2] := by
    unfold elmOf
    rw [if_neg (by simp), hs2, cat2, ByteArray.toList_eq, ByteArray.data_append, ByteArray.data_append]
    rfl
  unfold gemotlaw1_shown_p.f term_Gen.f term_Name.f term_Power.f
  simp only [Option.bind_some]
  rw [if_pos ⟨by decide, by rw [name_size]; omega⟩, h1]
  simp only [Option.bind_some]
  rw [if_pos ⟨by rw [elmOf_size (by simp), cat1]; show 2 + 9 < _; omega, by rw [name_size]; omega⟩, h3]
  simp only [Option.bind_some, if_true]
  rw [h4]
  rfl
theorem gemotlaw1_shown.calls (r : Bool) (w : World) (h : gemotlaw1_shown.f = some r) :
    Calls Try.prog 78 #[] w fun e w' => e = .returned (.bool r) ∧ Below w.heap.size w w' :=
  gemotlaw1_shown_p.calls r w (gemotlaw1_shown.eq.trans h)

end Go.Proofs.Ytpfpmjdifnoeoaa.F
namespace Go.Proofs.Ytpfpmjdifnoeoaa.F
open Go.RowKit Go.Proofs.YtpfpmjdifnoeoaaW.PrintWords Go.Proofs.YtpfpmjdifnoeoaaW.PrintLast Go.Proofs.YtpfpmjdifnoeoaaW.PrintMore
attribute [local go_sem] max2_int min2_int max_two min_two max_three min_three max_four min_four
set_option linter.unusedVariables false
set_option linter.unusedSimpArgs false

/-! ### term_Depth: function 87 -/
/-! #### term_Depth_p: function 87 -/
def term_Depth_p.f (a0 : ByteArray) : Option (Int) := (term_Right.f a0).bind fun t808 => (if t808 = true then ((term_scan.f a0).bind fun bt809 => (some bt809.2.1)) else (some 0))
set_option maxHeartbeats 8000000 in
set_option maxRecDepth 100000 in
theorem term_Depth_p.calls (a0 : ByteArray) (r : Int) (w : World) (h : term_Depth_p.f a0 = some r) :
    Calls Try.prog 87 #[.string a0] w fun e w' => e = .returned (.int .i64 r) ∧ Below w.heap.size w w' := by
  have HB := Aside0.mk (Below.refl w.heap.size w)
  have H : ((term_Right.f a0).bind fun t808 => (if t808 = true then ((term_scan.f a0).bind fun bt809 => (some bt809.2.1)) else (some 0))) = some r := h
  clear h
  replace H := Option.bind_eq_some_iff.mp H
  obtain ⟨t808, A20, H⟩ := H
  replace H : (if t808 = true then ((term_scan.f a0).bind fun bt809 => (some bt809.2.1)) else (some 0)) = some r := H
  have A2 := Aside0.mk A20
  clear A20
  by_cases c3 : t808 = true
  · subst c3
    have H1 : ((term_scan.f a0).bind fun bt809 => (some bt809.2.1)) = some r := by rw [if_pos rfl] at H; exact H
    clear H
    have H := H1
    clear H1
    replace H := Option.bind_eq_some_iff.mp H
    obtain ⟨⟨t809, t810, t811⟩, A40, H⟩ := H
    replace H : (some t810) = some r := H
    have A4 := Aside0.mk A40
    clear A40
    obtain rfl := Option.some.inj H
    go_enter Try.func87, Try.ntmps87
    go_wp2_with (first | ((with_reducible refine gate_callee (f := 66) rfl ?_); refine goesL_ (some 7) rfl rfl Try.func66 (by kernel_rfl) rfl #[.string a0] rfl (by (try simp only [List.map_toArray, List.map_cons, List.map_nil]); first | done | rfl | (simp only [List.length_drop, List.length_take]; rfl)) ?_; (with_reducible refine (term_Right.calls a0 true _ A2.out).mono ?_); rintro e w5 ⟨rfl, hb⟩; refine ⟨_, rfl, ?_⟩; have n0_ := Aside0.mk (below_step (by repeat (first | (with_reducible first | exact HB.out | apply below_alloc | apply pw_below_drewN | apply below_drew1) | exact HB.out)) hb); clear HB; have HB := n0_; clear n0_; (try clear hb); (try clear hb2); (try clear hk); (try clear hi)) | ((with_reducible refine gate_callee (f := 131) rfl ?_); refine goesL_ (some 11) rfl rfl Try.func131 (by kernel_rfl) rfl #[.string a0] rfl (by (try simp only [List.map_toArray, List.map_cons, List.map_nil]); first | done | rfl | (simp only [List.length_drop, List.length_take]; rfl)) ?_; (with_reducible refine (term_scan.calls a0 t809 t810 t811 _ A4.out).mono ?_); rintro e w6 ⟨rfl, hb⟩; refine ⟨_, rfl, ?_⟩; have n0_ := Aside0.mk (below_step (by repeat (first | (with_reducible first | exact HB.out | apply below_alloc | apply pw_below_drewN | apply below_drew1) | exact HB.out)) hb); clear HB; have HB := n0_; clear n0_; (try clear hb); (try clear hb2); (try clear hk); (try clear hi)))
    go_ret
    exact ⟨by first | rfl | (simp [errW_none, errW_some] <;> rfl) | (simp [*, errW_none, errW_some] <;> rfl), by repeat (first | (with_reducible first | exact HB.out | apply below_alloc | apply pw_below_drewN | apply below_drew1) | exact HB.out)⟩
  · replace c3 := Bool.eq_false_iff.mpr c3
    subst c3
    have H1 : (some 0) = some r := by rw [if_neg (show ¬ (false = true) by decide)] at H; exact H
    clear H
    have H := H1
    clear H1
    obtain rfl := Option.some.inj H
    go_enter Try.func87, Try.ntmps87
    go_wp2_with (first | ((with_reducible refine gate_callee (f := 66) rfl ?_); refine goesL_ (some 7) rfl rfl Try.func66 (by kernel_rfl) rfl #[.string a0] rfl (by (try simp only [List.map_toArray, List.map_cons, List.map_nil]); first | done | rfl | (simp only [List.length_drop, List.length_take]; rfl)) ?_; (with_reducible refine (term_Right.calls a0 false _ A2.out).mono ?_); rintro e w7 ⟨rfl, hb⟩; refine ⟨_, rfl, ?_⟩; have n0_ := Aside0.mk (below_step (by repeat (first | (with_reducible first | exact HB.out | apply below_alloc | apply pw_below_drewN | apply below_drew1) | exact HB.out)) hb); clear HB; have HB := n0_; clear n0_; (try clear hb); (try clear hb2); (try clear hk); (try clear hi)))
    go_ret
    exact ⟨by first | rfl | (simp [errW_none, errW_some] <;> rfl) | (simp [*, errW_none, errW_some] <;> rfl), by repeat (first | (with_reducible first | exact HB.out | apply below_alloc | apply pw_below_drewN | apply below_drew1) | exact HB.out)⟩

def depthF (t : ByteArray) : Int := if rightB t = true then (scanF t).2.1 else 0
def term_Depth.f (t : ByteArray) : Option Int := if t.size < 9223372036854775000 then some (depthF t) else none
theorem term_Depth.eq (t : ByteArray) (hs : t.size < 9223372036854775000) : term_Depth_p.f t = term_Depth.f t := by
  unfold term_Depth_p.f term_Right.f term_scan.f term_Depth.f depthF
  rw [if_pos hs, if_pos hs, if_pos hs]
  simp only [Option.bind_some]
  split <;> rfl
theorem term_Depth.calls (a0 : ByteArray) (r : Int) (w : World) (h : term_Depth.f a0 = some r) :
    Calls Try.prog 87 #[.string a0] w fun e w' => e = .returned (.int .i64 r) ∧ Below w.heap.size w w' := by
  have hs : a0.size < 9223372036854775000 := by
    unfold term_Depth.f at h
    split at h
    · assumption
    · cases h
  exact term_Depth_p.calls a0 r w ((term_Depth.eq a0 hs).trans h)

end Go.Proofs.Ytpfpmjdifnoeoaa.F
namespace Go.Proofs.Ytpfpmjdifnoeoaa.F
open Go.RowKit Go.Proofs.YtpfpmjdifnoeoaaW.PrintWords Go.Proofs.YtpfpmjdifnoeoaaW.PrintLast Go.Proofs.YtpfpmjdifnoeoaaW.PrintMore
attribute [local go_sem] max2_int min2_int max_two min_two max_three min_three max_four min_four
set_option linter.unusedVariables false
set_option linter.unusedSimpArgs false

/-! ### gemotlaw1_TermTurns: function 21 -/
mutual
def gemotlaw1_TermTurns.j0 : Nat → Int → Bool → List ByteArray → Bool → Option (Bool)
  | 0, _, _, _, _ => none
  | k + 1, x1, x5, x6, x27 => if x27 = true then (some x5) else ((term_Gen.f).bind fun t1107 => ((term_Gen.f).bind fun t1108 => ((term_Gen.f).bind fun t1109 => (gemotlaw1_TermTurns.l0 k x1 x6 (x6.length : Int) t1107 t1108 t1109 0))))
def gemotlaw1_TermTurns.l0 : Nat → Int → List ByteArray → Int → ByteArray → ByteArray → ByteArray → Int → Option (Bool)
  | 0, _, _, _, _, _, _, _ => none
  | k + 1, x1, x6, x7, x8, x9, x10, x11 => if x11 < x7 then (if 0 ≤ x11 then (if x11 < (x6.length : Int) then ((term_Power.f x8 (rdOf ByteArray.empty x6 x11)).bind fun bt1112 => ((gemotlaw1_pick.f x1 x7).bind fun t1114 => (if x7 = 0 then (none) else (if 0 ≤ (Int.tmod (wrap64 (x11 + t1114)) x7) then (if (Int.tmod (wrap64 (x11 + t1114)) x7) < (x6.length : Int) then ((term_Power.f x9 (rdOf ByteArray.empty x6 (Int.tmod (wrap64 (x11 + t1114)) x7))).bind fun bt1116 => (if 0 ≤ (wrap64 ((wrap64 (x7 - 1)) - x11)) then (if (wrap64 ((wrap64 (x7 - 1)) - x11)) < (x6.length : Int) then ((term_Power.f x10 (rdOf ByteArray.empty x6 (wrap64 ((wrap64 (x7 - 1)) - x11)))).bind fun bt1119 => (if bt1112.2 = 0 then (if bt1116.2 = 0 then (gemotlaw1_TermTurns.j2 k x1 x6 x7 x8 x11 bt1112.1 bt1112.2 bt1116.1 bt1116.2 bt1119.1 bt1119.2 (bt1119.2 != 0)) else (gemotlaw1_TermTurns.j2 k x1 x6 x7 x8 x11 bt1112.1 bt1112.2 bt1116.1 bt1116.2 bt1119.1 bt1119.2 true)) else (gemotlaw1_TermTurns.j2 k x1 x6 x7 x8 x11 bt1112.1 bt1112.2 bt1116.1 bt1116.2 bt1119.1 bt1119.2 true))) else (none)) else (none))) else (none)) else (none))))) else (none)) else (none)) else (if x8.toList = x9.toList then (if x8.toList = x10.toList then ((term_Depth.f x8).bind fun t1110 => (some (decide (t1110 ≥ 2)))) else (none)) else (none))
def gemotlaw1_TermTurns.j2 : Nat → Int → List ByteArray → Int → ByteArray → Int → ByteArray → Int → ByteArray → Int → ByteArray → Int → Bool → Option (Bool)
  | 0, _, _, _, _, _, _, _, _, _, _, _, _ => none
  | k + 1, x1, x6, x7, x8, x11, x12, x13, x14, x15, x16, x17, x84 => if x84 = true then (if x13 = 3 then (some true) else (if x15 = 3 then (some true) else (if x17 = 3 then (some true) else (if x13 = 4 then (some true) else (if x15 = 4 then (some true) else (some (x17 == 4))))))) else (if x12.toList = x8.toList then (none) else (if 0 ≤ x11 then (if x11 < (x6.length : Int) then (if (x12.size : Int) = (wrap64 ((x8.size : Int) + ((rdOf ByteArray.empty x6 x11).size : Int))) then (gemotlaw1_TermTurns.l0 k x1 x6 x7 x12 x14 x16 (wrap64 (x11 + 1))) else (if x11 > 0 then (none) else (gemotlaw1_TermTurns.l0 k x1 x6 x7 x12 x14 x16 (wrap64 (x11 + 1))))) else (none)) else (none)))
end
def gemotlaw1_TermTurns.f (k : Nat) (l0 : List (S169)) (a1 : Int) : Option (Bool) := (gemotlaw1_shown.f).bind fun t1103 => ((gemotlaw1_made.f l0).bind fun t1104 => (if t1103 = true then (gemotlaw1_TermTurns.j0 k a1 t1103 t1104 (decide ((t1104.length : Int) > 12))) else (gemotlaw1_TermTurns.j0 k a1 t1103 t1104 true)))
theorem gemotlaw1_TermTurns.mono_l : ∀ k, (∀ y0 y1 y2 y3, LeO (gemotlaw1_TermTurns.j0 k y0 y1 y2 y3) (gemotlaw1_TermTurns.j0 (k + 1) y0 y1 y2 y3)) ∧ (∀ y0 y1 y2 y3 y4 y5 y6, LeO (gemotlaw1_TermTurns.l0 k y0 y1 y2 y3 y4 y5 y6) (gemotlaw1_TermTurns.l0 (k + 1) y0 y1 y2 y3 y4 y5 y6)) ∧ (∀ y0 y1 y2 y3 y4 y5 y6 y7 y8 y9 y10 y11, LeO (gemotlaw1_TermTurns.j2 k y0 y1 y2 y3 y4 y5 y6 y7 y8 y9 y10 y11) (gemotlaw1_TermTurns.j2 (k + 1) y0 y1 y2 y3 y4 y5 y6 y7 y8 y9 y10 y11))
  | 0 => ⟨fun _ _ _ _ r h => by simp [gemotlaw1_TermTurns.j0] at h, fun _ _ _ _ _ _ _ r h => by simp [gemotlaw1_TermTurns.l0] at h, fun _ _ _ _ _ _ _ _ _ _ _ _ r h => by simp [gemotlaw1_TermTurns.j2] at h⟩
  | k + 1 => by
    obtain ⟨ih0, ih1, ih2⟩ := gemotlaw1_TermTurns.mono_l k
    refine ⟨?_, ?_, ?_⟩
    · intro y0 y1 y2 y3
      unfold gemotlaw1_TermTurns.j0
      repeat' first
      | (with_reducible exact ih0 _ _ _ _)
      | (with_reducible exact ih1 _ _ _ _ _ _ _)
      | (with_reducible exact ih2 _ _ _ _ _ _ _ _ _ _ _ _)
      | (with_reducible exact LeO.refl _)
      | (with_reducible exact LeO.none _)
      | (with_reducible refine LeO.ite ?_ ?_)
      | (with_reducible refine LeO.bind ?_ (fun _ => ?_))
      | exact ih0 _ _ _ _
      | exact ih1 _ _ _ _ _ _ _
      | exact ih2 _ _ _ _ _ _ _ _ _ _ _ _
      | exact LeO.none _
      | refine LeO.ite ?_ ?_
      | refine LeO.bind ?_ (fun _ => ?_)
    · intro y0 y1 y2 y3 y4 y5 y6
      unfold gemotlaw1_TermTurns.l0
      repeat' first
      | (with_reducible exact ih0 _ _ _ _)
      | (with_reducible exact ih1 _ _ _ _ _ _ _)
      | (with_reducible exact ih2 _ _ _ _ _ _ _ _ _ _ _ _)
      | (with_reducible exact LeO.refl _)
      | (with_reducible exact LeO.none _)
      | (with_reducible refine LeO.ite ?_ ?_)
      | (with_reducible refine LeO.bind ?_ (fun _ => ?_))
      | exact ih0 _ _ _ _
      | exact ih1 _ _ _ _ _ _ _
      | exact ih2 _ _ _ _ _ _ _ _ _ _ _ _
      | exact LeO.none _
      | refine LeO.ite ?_ ?_
      | refine LeO.bind ?_ (fun _ => ?_)
    · intro y0 y1 y2 y3 y4 y5 y6 y7 y8 y9 y10 y11
      unfold gemotlaw1_TermTurns.j2
      repeat' first
      | (with_reducible exact ih0 _ _ _ _)
      | (with_reducible exact ih1 _ _ _ _ _ _ _)
      | (with_reducible exact ih2 _ _ _ _ _ _ _ _ _ _ _ _)
      | (with_reducible exact LeO.refl _)
      | (with_reducible exact LeO.none _)
      | (with_reducible refine LeO.ite ?_ ?_)
      | (with_reducible refine LeO.bind ?_ (fun _ => ?_))
      | exact ih0 _ _ _ _
      | exact ih1 _ _ _ _ _ _ _
      | exact ih2 _ _ _ _ _ _ _ _ _ _ _ _
      | exact LeO.none _
      | refine LeO.ite ?_ ?_
      | refine LeO.bind ?_ (fun _ => ?_)
theorem gemotlaw1_TermTurns.mono : ∀ a0 a1 k, LeO (gemotlaw1_TermTurns.f k a0 a1) (gemotlaw1_TermTurns.f (k + 1) a0 a1) := by
  intro a0 a1 k
  obtain ⟨ih0, ih1, ih2⟩ := gemotlaw1_TermTurns.mono_l k
  unfold gemotlaw1_TermTurns.f
  repeat' first
      | (with_reducible exact ih0 _ _ _ _)
      | (with_reducible exact ih1 _ _ _ _ _ _ _)
      | (with_reducible exact ih2 _ _ _ _ _ _ _ _ _ _ _ _)
      | (with_reducible exact LeO.refl _)
      | (with_reducible exact LeO.none _)
      | (with_reducible refine LeO.ite ?_ ?_)
      | (with_reducible refine LeO.bind ?_ (fun _ => ?_))
      | exact ih0 _ _ _ _
      | exact ih1 _ _ _ _ _ _ _
      | exact ih2 _ _ _ _ _ _ _ _ _ _ _ _
      | exact LeO.none _
      | refine LeO.ite ?_ ?_
      | refine LeO.bind ?_ (fun _ => ?_)
set_option maxHeartbeats 8000000 in
set_option maxRecDepth 100000 in
theorem gemotlaw1_TermTurns.calls (k : Nat) (A0 : Option Addr) (c0 : Nat) (l0 : List (S169)) (a1 : Int) (r : Bool) (w : World) (hr0 : Kd.C k169 w A0 l0.length l0) (hc0 : l0.length ≤ c0) (h : gemotlaw1_TermTurns.f k l0 a1 = some r) :
    Calls Try.prog 21 #[.slice A0 l0.length c0, .int .i64 a1] w fun e w' => e = .returned (.bool r) ∧ Below w.heap.size w w' := by
  have HR0 := Aside0.mk hr0
  have HC0 := Aside0.mk hc0
  clear hr0 hc0
  have HB := Aside0.mk (Below.refl w.heap.size w)
  have H : ((gemotlaw1_shown.f).bind fun t1103 => ((gemotlaw1_made.f l0).bind fun t1104 => (if t1103 = true then (gemotlaw1_TermTurns.j0 k a1 t1103 t1104 (decide ((t1104.length : Int) > 12))) else (gemotlaw1_TermTurns.j0 k a1 t1103 t1104 true)))) = some r := h
  clear h
  replace H := Option.bind_eq_some_iff.mp H
  obtain ⟨t1103, A30, H⟩ := H
  replace H : ((gemotlaw1_made.f l0).bind fun t1104 => (if t1103 = true then (gemotlaw1_TermTurns.j0 k a1 t1103 t1104 (decide ((t1104.length : Int) > 12))) else (gemotlaw1_TermTurns.j0 k a1 t1103 t1104 true))) = some r := H
  have A3 := Aside0.mk A30
  clear A30
  replace H := Option.bind_eq_some_iff.mp H
  obtain ⟨t1104, A40, H⟩ := H
  replace H : (if t1103 = true then (gemotlaw1_TermTurns.j0 k a1 t1103 t1104 (decide ((t1104.length : Int) > 12))) else (gemotlaw1_TermTurns.j0 k a1 t1103 t1104 true)) = some r := H
  have A4 := Aside0.mk A40
  clear A40
  have HC5 := Aside0.mk H
  clear H
  go_enter Try.func21, Try.ntmps21
  go_upto_region 3 with (first | ((with_reducible refine gate_callee (f := 78) rfl ?_); refine goesL_ (some 18) rfl rfl Try.func78 (by kernel_rfl) rfl #[] rfl (by (try simp only [List.map_toArray, List.map_cons, List.map_nil]); first | done | rfl | (simp only [List.length_drop, List.length_take]; rfl)) ?_; (with_reducible refine (gemotlaw1_shown.calls  t1103 _ A3.out).mono ?_); rintro e w6 ⟨rfl, hb⟩; refine ⟨_, rfl, ?_⟩; have n0_ := Aside0.mk (below_step (by repeat (first | (with_reducible first | exact HB.out | apply below_alloc | apply pw_below_drewN | apply below_drew1) | exact HB.out)) hb); clear HB; have HB := n0_; clear n0_; (try clear hb); (try clear hb2); (try clear hk); (try clear hi)) | ((with_reducible refine gate_callee (f := 97) rfl ?_); refine goesL_ (some 20) rfl rfl Try.func97 (by kernel_rfl) rfl #[.slice A0 l0.length c0] rfl (by (try simp only [List.map_toArray, List.map_cons, List.map_nil]); first | done | rfl | (simp only [List.length_drop, List.length_take]; rfl)) ?_; (with_reducible refine (gemotlaw1_made.calls _ _ l0 t1104 _ ?side1 ?side2 A4.out).mono ?_); (case side1 => repeat (first | exact (Kd.C_below HR0.out HB.out) | (with_reducible refine Kd.C_alloc ?_ _) | (with_reducible refine Kd.C_drewN ?_ _) | (with_reducible refine Kd.C_drew ?_))); (case side2 => exact HC0.out); rintro e w7 ⟨v1105, rfl, ho0, hb⟩; refine ⟨_, rfl, ?_⟩; have n0_ := Aside0.mk (Kd.R_lower ho0 (below_size (by repeat (first | (with_reducible first | exact HB.out | apply below_alloc | apply pw_below_drewN | apply below_drew1) | exact HB.out)))); have n1_ := Aside0.mk (below_step (by repeat (first | (with_reducible first | exact HB.out | apply below_alloc | apply pw_below_drewN | apply below_drew1) | exact HB.out)) hb); clear HB; have HO1106 := n0_; have HB := n1_; clear n0_ n1_; (try clear hb); (try clear hb2); (try clear hk); (try clear hi); (try clear ho0)))
  (try simp only [Act.put, List.setIfInBounds_toArray, List.set_cons_zero, List.set_cons_succ])
  go_cut [27] (fun v27 wc => ∃ (kq : Nat) (x27_4 : Bool), v27 = .bool x27_4 ∧ Aside0 (gemotlaw1_TermTurns.j0 kq a1 t1103 t1104 x27_4 = some r) ∧ Aside0 (kq ≤ k) ∧ Aside0 (Kd.R Kd.string 23 wc w.heap.size (fun _ => True) v1105 t1104) ∧ Aside0 (Below w.heap.size w wc))
  case first =>
    have H := HC5.out
    clear HC5
    by_cases c8 : t1103 = true
    · subst c8
      have H1 : (gemotlaw1_TermTurns.j0 k a1 true t1104 (decide ((t1104.length : Int) > 12))) = some r := by rw [if_pos rfl] at H; exact H
      clear H
      have H := H1
      clear H1
      have H' := Aside0.mk H
      clear H
      obtain ⟨Ao9, co9, eo9⟩ := Kd.R_slice HO1106.out
      subst eo9
      go_wp2
      go_meet
      case rel => exact ⟨_, (decide ((t1104.length : Int) > 12)), (by first | rfl | (simp; done) | (simp [*]; done)), H', ⟨by first | omega | exact Nat.le_refl _⟩, ⟨by (with_reducible repeat (first | apply Kd.R_alloc | apply Kd.R_drewN | apply Kd.R_drew)); exact HO1106.out⟩, ⟨by repeat (first | (with_reducible first | exact HB.out | apply below_alloc | apply pw_below_drewN | apply below_drew1) | exact HB.out)⟩⟩
    · replace c8 := Bool.eq_false_iff.mpr c8
      subst c8
      have H1 : (gemotlaw1_TermTurns.j0 k a1 false t1104 true) = some r := by rw [if_neg (show ¬ (false = true) by decide)] at H; exact H
      clear H
      have H := H1
      clear H1
      have H' := Aside0.mk H
      clear H
      go_wp2
      go_meet
      case rel => exact ⟨_, (true), (by first | rfl | (simp; done) | (simp [*]; done)), H', ⟨by first | omega | exact Nat.le_refl _⟩, ⟨by (with_reducible repeat (first | apply Kd.R_alloc | apply Kd.R_drewN | apply Kd.R_drew)); exact HO1106.out⟩, ⟨by repeat (first | (with_reducible first | exact HB.out | apply below_alloc | apply pw_below_drewN | apply below_drew1) | exact HB.out)⟩⟩
  case rest =>
    clear HC5
    try clear c2
    try clear p2
    try clear c7
    try clear c8
    try clear c9
    obtain ⟨kq, x27_4, rfl, HA, HJ4, HO_6, HB⟩ := hcut
    cases kq with
    | zero => exact absurd HA.out (by simp [gemotlaw1_TermTurns.j0])
    | succ kj4 =>
      have H := HA.out
      clear HA
      simp only [gemotlaw1_TermTurns.j0] at H
      by_cases c10 : x27_4 = true
      · subst c10
        have H1 : (some t1103) = some r := by rw [if_pos rfl] at H; exact H
        clear H
        have H := H1
        clear H1
        obtain rfl := Option.some.inj H
        go_wp2
        go_ret
        exact ⟨by first | rfl | (simp [errW_none, errW_some] <;> rfl) | (simp [*, errW_none, errW_some] <;> rfl), by repeat (first | (with_reducible first | exact HB.out | apply below_alloc | apply pw_below_drewN | apply below_drew1) | exact HB.out)⟩
      · replace c10 := Bool.eq_false_iff.mpr c10
        subst c10
        have H1 : ((term_Gen.f).bind fun t1107 => ((term_Gen.f).bind fun t1108 => ((term_Gen.f).bind fun t1109 => (gemotlaw1_TermTurns.l0 kj4 a1 t1104 (t1104.length : Int) t1107 t1108 t1109 0)))) = some r := by rw [if_neg (show ¬ (false = true) by decide)] at H; exact H
        clear H
        have H := H1
        clear H1
        replace H := Option.bind_eq_some_iff.mp H
        obtain ⟨t1107, A110, H⟩ := H
        replace H : ((term_Gen.f).bind fun t1108 => ((term_Gen.f).bind fun t1109 => (gemotlaw1_TermTurns.l0 kj4 a1 t1104 (t1104.length : Int) t1107 t1108 t1109 0))) = some r := H
        have A11 := Aside0.mk A110
        clear A110
        replace H := Option.bind_eq_some_iff.mp H
        obtain ⟨t1108, A120, H⟩ := H
        replace H : ((term_Gen.f).bind fun t1109 => (gemotlaw1_TermTurns.l0 kj4 a1 t1104 (t1104.length : Int) t1107 t1108 t1109 0)) = some r := H
        have A12 := Aside0.mk A120
        clear A120
        replace H := Option.bind_eq_some_iff.mp H
        obtain ⟨t1109, A130, H⟩ := H
        replace H : (gemotlaw1_TermTurns.l0 kj4 a1 t1104 (t1104.length : Int) t1107 t1108 t1109 0) = some r := H
        have A13 := Aside0.mk A130
        clear A130
        have H' := Aside0.mk H
        clear H
        obtain ⟨Ao14, co14, eo14⟩ := Kd.R_slice HO_6.out
        subst eo14
        go_wp2_with (first | ((with_reducible refine gate_callee (f := 86) rfl ?_); refine goesL_ (some 31) rfl rfl Try.func86 (by kernel_rfl) rfl #[] rfl (by (try simp only [List.map_toArray, List.map_cons, List.map_nil]); first | done | rfl | (simp only [List.length_drop, List.length_take]; rfl)) ?_; (with_reducible refine (term_Gen.calls  t1107 _ A11.out).mono ?_); rintro e w' ⟨rfl, ⟨nd, rfl⟩⟩; refine ⟨_, rfl, ?_⟩) | ((with_reducible refine gate_callee (f := 86) rfl ?_); refine goesL_ (some 32) rfl rfl Try.func86 (by kernel_rfl) rfl #[] rfl (by (try simp only [List.map_toArray, List.map_cons, List.map_nil]); first | done | rfl | (simp only [List.length_drop, List.length_take]; rfl)) ?_; (with_reducible refine (term_Gen.calls  t1108 _ A12.out).mono ?_); rintro e w' ⟨rfl, ⟨nd, rfl⟩⟩; refine ⟨_, rfl, ?_⟩) | ((with_reducible refine gate_callee (f := 86) rfl ?_); refine goesL_ (some 33) rfl rfl Try.func86 (by kernel_rfl) rfl #[] rfl (by (try simp only [List.map_toArray, List.map_cons, List.map_nil]); first | done | rfl | (simp only [List.length_drop, List.length_take]; rfl)) ?_; (with_reducible refine (term_Gen.calls  t1109 _ A13.out).mono ?_); rintro e w' ⟨rfl, ⟨nd, rfl⟩⟩; refine ⟨_, rfl, ?_⟩))
        go_loopg [8, 9, 10, 11] kj4 (fun kq v8 v9 v10 v11 w' => ∃ (x8_2 : ByteArray) (x9_2 : ByteArray) (x10_2 : ByteArray) (x11_2 : Int), v8 = .string x8_2 ∧ v9 = .string x9_2 ∧ v10 = .string x10_2 ∧ v11 = .int .i64 x11_2 ∧ Aside0 (gemotlaw1_TermTurns.l0 kq a1 t1104 (t1104.length : Int) x8_2 x9_2 x10_2 x11_2 = some r) ∧ Aside0 (kq ≤ kj4) ∧ Aside0 (Kd.R Kd.string 23 w' w.heap.size (fun _ => True) (.slice Ao14 t1104.length co14) t1104) ∧ Aside0 (Below w.heap.size w w'))
        case atStart => exact ⟨(t1107), (t1108), (t1109), (0), (by first | rfl | (simp; done) | (simp [*]; done)), (by first | rfl | (simp; done) | (simp [*]; done)), (by first | rfl | (simp; done) | (simp [*]; done)), (by first | rfl | (simp; done) | (simp [*]; done)), H', ⟨Nat.le_refl _⟩, ⟨by (with_reducible repeat (first | apply Kd.R_alloc | apply Kd.R_drewN | apply Kd.R_drew)); exact HO_6.out⟩, ⟨by repeat (first | (with_reducible first | exact HB.out | apply below_alloc | apply pw_below_drewN | apply below_drew1) | exact HB.out)⟩⟩
        case round =>
          clear H'
          try clear c1
          try clear c2
          try clear p2
          try clear c7
          try clear c8
          try clear c9
          try clear c10
          try clear p2
          obtain ⟨x8_2, x9_2, x10_2, x11_2, rfl, rfl, rfl, rfl, HA, HK2, HO_6, HB⟩ := hrel
          cases gk with
          | zero => exact absurd HA.out (by simp [gemotlaw1_TermTurns.l0])
          | succ k2 =>
            have H := HA.out
            clear HA
            simp only [gemotlaw1_TermTurns.l0] at H
            by_cases c15 : x11_2 < (t1104.length : Int)
            · rw [if_pos c15] at H
              have c15b0 : decide (x11_2 < (t1104.length : Int)) = true := decide_eq_true c15
              clear c15
              by_cases c16 : 0 ≤ x11_2
              · rw [if_pos c16] at H
                have c16b0 : decide (0 ≤ x11_2) = true := decide_eq_true c16
                clear c16
                by_cases c17 : x11_2 < (t1104.length : Int)
                · rw [if_pos c17] at H
                  have c17b0 : decide (x11_2 < (t1104.length : Int)) = true := decide_eq_true c17
                  clear c17
                  replace H := Option.bind_eq_some_iff.mp H
                  obtain ⟨⟨t1112, t1113⟩, A180, H⟩ := H
                  replace H : ((gemotlaw1_pick.f a1 (t1104.length : Int)).bind fun t1114 => (if (t1104.length : Int) = 0 then (none) else (if 0 ≤ (Int.tmod (wrap64 (x11_2 + t1114)) (t1104.length : Int)) then (if (Int.tmod (wrap64 (x11_2 + t1114)) (t1104.length : Int)) < (t1104.length : Int) then ((term_Power.f x9_2 (rdOf ByteArray.empty t1104 (Int.tmod (wrap64 (x11_2 + t1114)) (t1104.length : Int)))).bind fun bt1116 => (if 0 ≤ (wrap64 ((wrap64 ((t1104.length : Int) - 1)) - x11_2)) then (if (wrap64 ((wrap64 ((t1104.length : Int) - 1)) - x11_2)) < (t1104.length : Int) then ((term_Power.f x10_2 (rdOf ByteArray.empty t1104 (wrap64 ((wrap64 ((t1104.length : Int) - 1)) - x11_2)))).bind fun bt1119 => (if t1113 = 0 then (if bt1116.2 = 0 then (gemotlaw1_TermTurns.j2 k2 a1 t1104 (t1104.length : Int) x8_2 x11_2 t1112 t1113 bt1116.1 bt1116.2 bt1119.1 bt1119.2 (bt1119.2 != 0)) else (gemotlaw1_TermTurns.j2 k2 a1 t1104 (t1104.length : Int) x8_2 x11_2 t1112 t1113 bt1116.1 bt1116.2 bt1119.1 bt1119.2 true)) else (gemotlaw1_TermTurns.j2 k2 a1 t1104 (t1104.length : Int) x8_2 x11_2 t1112 t1113 bt1116.1 bt1116.2 bt1119.1 bt1119.2 true))) else (none)) else (none))) else (none)) else (none)))) = some r := H
                  have A18 := Aside0.mk A180
                  clear A180
                  replace H := Option.bind_eq_some_iff.mp H
                  obtain ⟨t1114, A190, H⟩ := H
                  replace H : (if (t1104.length : Int) = 0 then (none) else (if 0 ≤ (Int.tmod (wrap64 (x11_2 + t1114)) (t1104.length : Int)) then (if (Int.tmod (wrap64 (x11_2 + t1114)) (t1104.length : Int)) < (t1104.length : Int) then ((term_Power.f x9_2 (rdOf ByteArray.empty t1104 (Int.tmod (wrap64 (x11_2 + t1114)) (t1104.length : Int)))).bind fun bt1116 => (if 0 ≤ (wrap64 ((wrap64 ((t1104.length : Int) - 1)) - x11_2)) then (if (wrap64 ((wrap64 ((t1104.length : Int) - 1)) - x11_2)) < (t1104.length : Int) then ((term_Power.f x10_2 (rdOf ByteArray.empty t1104 (wrap64 ((wrap64 ((t1104.length : Int) - 1)) - x11_2)))).bind fun bt1119 => (if t1113 = 0 then (if bt1116.2 = 0 then (gemotlaw1_TermTurns.j2 k2 a1 t1104 (t1104.length : Int) x8_2 x11_2 t1112 t1113 bt1116.1 bt1116.2 bt1119.1 bt1119.2 (bt1119.2 != 0)) else (gemotlaw1_TermTurns.j2 k2 a1 t1104 (t1104.length : Int) x8_2 x11_2 t1112 t1113 bt1116.1 bt1116.2 bt1119.1 bt1119.2 true)) else (gemotlaw1_TermTurns.j2 k2 a1 t1104 (t1104.length : Int) x8_2 x11_2 t1112 t1113 bt1116.1 bt1116.2 bt1119.1 bt1119.2 true))) else (none)) else (none))) else (none)) else (none))) = some r := H
                  have A19 := Aside0.mk A190
                  clear A190
                  by_cases c20 : (t1104.length : Int) = 0
                  · rw [if_pos c20] at H
                    exact absurd H (by simp)
                  · rw [if_neg c20] at H
                    have c20b0 : ((t1104.length : Int) == 0) = false := beq_eq_false_iff_ne.mpr c20
                    have c20b1 : ((t1104.length : Int) != 0) = true := bne_iff_ne.mpr c20
                    have c20b2 : ¬ (t1104 = []) := fun h_ => c20 (by rw [h_]; rfl)
                    obtain ⟨ji21, hji21⟩ : ∃ j_ : Int, (Int.tmod (wrap64 (x11_2 + t1114)) (t1104.length : Int)) = j_ := ⟨_, rfl⟩
                    replace H : (if 0 ≤ (ji21) then (if (ji21) < (t1104.length : Int) then ((term_Power.f x9_2 (rdOf ByteArray.empty t1104 (ji21))).bind fun bt1116 => (if 0 ≤ (wrap64 ((wrap64 ((t1104.length : Int) - 1)) - x11_2)) then (if (wrap64 ((wrap64 ((t1104.length : Int) - 1)) - x11_2)) < (t1104.length : Int) then ((term_Power.f x10_2 (rdOf ByteArray.empty t1104 (wrap64 ((wrap64 ((t1104.length : Int) - 1)) - x11_2)))).bind fun bt1119 => (if t1113 = 0 then (if bt1116.2 = 0 then (gemotlaw1_TermTurns.j2 k2 a1 t1104 (t1104.length : Int) x8_2 x11_2 t1112 t1113 bt1116.1 bt1116.2 bt1119.1 bt1119.2 (bt1119.2 != 0)) else (gemotlaw1_TermTurns.j2 k2 a1 t1104 (t1104.length : Int) x8_2 x11_2 t1112 t1113 bt1116.1 bt1116.2 bt1119.1 bt1119.2 true)) else (gemotlaw1_TermTurns.j2 k2 a1 t1104 (t1104.length : Int) x8_2 x11_2 t1112 t1113 bt1116.1 bt1116.2 bt1119.1 bt1119.2 true))) else (none)) else (none))) else (none)) else (none)) = some r := by first | (rw [hji21] at H; exact H) | (simp only [hji21] at H ⊢; exact H)
                    (try rw [hji21] at A18)
                    (try rw [hji21] at A19)
                    by_cases c22 : 0 ≤ (ji21)
                    · rw [if_pos c22] at H
                      have c22b0 : decide (0 ≤ (ji21)) = true := decide_eq_true c22
                      clear c22
                      by_cases c23 : (ji21) < (t1104.length : Int)
                      · rw [if_pos c23] at H
                        have c23b0 : decide ((ji21) < (t1104.length : Int)) = true := decide_eq_true c23
                        clear c23
                        replace H := Option.bind_eq_some_iff.mp H
                        obtain ⟨⟨t1116, t1117⟩, A240, H⟩ := H
                        replace H : (if 0 ≤ (wrap64 ((wrap64 ((t1104.length : Int) - 1)) - x11_2)) then (if (wrap64 ((wrap64 ((t1104.length : Int) - 1)) - x11_2)) < (t1104.length : Int) then ((term_Power.f x10_2 (rdOf ByteArray.empty t1104 (wrap64 ((wrap64 ((t1104.length : Int) - 1)) - x11_2)))).bind fun bt1119 => (if t1113 = 0 then (if t1117 = 0 then (gemotlaw1_TermTurns.j2 k2 a1 t1104 (t1104.length : Int) x8_2 x11_2 t1112 t1113 t1116 t1117 bt1119.1 bt1119.2 (bt1119.2 != 0)) else (gemotlaw1_TermTurns.j2 k2 a1 t1104 (t1104.length : Int) x8_2 x11_2 t1112 t1113 t1116 t1117 bt1119.1 bt1119.2 true)) else (gemotlaw1_TermTurns.j2 k2 a1 t1104 (t1104.length : Int) x8_2 x11_2 t1112 t1113 t1116 t1117 bt1119.1 bt1119.2 true))) else (none)) else (none)) = some r := H
                        have A24 := Aside0.mk A240
                        clear A240
                        obtain ⟨ji25, hji25⟩ : ∃ j_ : Int, (wrap64 ((wrap64 ((t1104.length : Int) - 1)) - x11_2)) = j_ := ⟨_, rfl⟩
                        replace H : (if 0 ≤ (ji25) then (if (ji25) < (t1104.length : Int) then ((term_Power.f x10_2 (rdOf ByteArray.empty t1104 (ji25))).bind fun bt1119 => (if t1113 = 0 then (if t1117 = 0 then (gemotlaw1_TermTurns.j2 k2 a1 t1104 (t1104.length : Int) x8_2 x11_2 t1112 t1113 t1116 t1117 bt1119.1 bt1119.2 (bt1119.2 != 0)) else (gemotlaw1_TermTurns.j2 k2 a1 t1104 (t1104.length : Int) x8_2 x11_2 t1112 t1113 t1116 t1117 bt1119.1 bt1119.2 true)) else (gemotlaw1_TermTurns.j2 k2 a1 t1104 (t1104.length : Int) x8_2 x11_2 t1112 t1113 t1116 t1117 bt1119.1 bt1119.2 true))) else (none)) else (none)) = some r := by first | (rw [hji25] at H; exact H) | (simp only [hji25] at H ⊢; exact H)
                        (try rw [hji25] at A18)
                        (try rw [hji25] at A19)
                        (try rw [hji25] at A24)
                        have hji25w : (IntKind.i64.wrap ((wrap64 ((t1104.length : Int) - 1)) - x11_2)) = ji25 := (i64_w _).trans hji25
                        by_cases c26 : 0 ≤ (ji25)
                        · rw [if_pos c26] at H
                          have c26b0 : decide (0 ≤ (ji25)) = true := decide_eq_true c26
                          clear c26
                          by_cases c27 : (ji25) < (t1104.length : Int)
                          · rw [if_pos c27] at H
                            have c27b0 : decide ((ji25) < (t1104.length : Int)) = true := decide_eq_true c27
                            clear c27
                            replace H := Option.bind_eq_some_iff.mp H
                            obtain ⟨⟨t1119, t1120⟩, A280, H⟩ := H
                            replace H : (if t1113 = 0 then (if t1117 = 0 then (gemotlaw1_TermTurns.j2 k2 a1 t1104 (t1104.length : Int) x8_2 x11_2 t1112 t1113 t1116 t1117 t1119 t1120 (t1120 != 0)) else (gemotlaw1_TermTurns.j2 k2 a1 t1104 (t1104.length : Int) x8_2 x11_2 t1112 t1113 t1116 t1117 t1119 t1120 true)) else (gemotlaw1_TermTurns.j2 k2 a1 t1104 (t1104.length : Int) x8_2 x11_2 t1112 t1113 t1116 t1117 t1119 t1120 true)) = some r := H
                            have A28 := Aside0.mk A280
                            clear A280
                            have HC29 := Aside0.mk H
                            clear H
                            have p1111 : 0 ≤ (x11_2 : Int) := of_decide_eq_true (by first | (with_reducible assumption) | assumption)
                            have q1111 : x11_2 < (t1104.length : Int) := of_decide_eq_true (by first | (with_reducible assumption) | assumption)
                            obtain ⟨ad1111, e1111, hx1111_0⟩ := Kd.at_string (Kd.R_reads' HO_6.out).2.2 x11_2 p1111 q1111
                            cases e1111
                            replace p1111 := eq_true p1111
                            replace q1111 := eq_true q1111
                            go_upto_region 15 with (first | ((with_reducible refine gate_callee (f := 88) rfl ?_); refine goesL_ (some 45) rfl rfl Try.func88 (by kernel_rfl) rfl #[.string x8_2, .string (rdOf ByteArray.empty t1104 x11_2)] rfl (by (try simp only [List.map_toArray, List.map_cons, List.map_nil]); first | done | rfl | (simp only [List.length_drop, List.length_take]; rfl)) ?_; (with_reducible refine (term_Power.calls x8_2 (rdOf ByteArray.empty t1104 x11_2) t1112 t1113 _ A18.out).mono ?_); rintro e w30 ⟨rfl, hb⟩; refine ⟨_, rfl, ?_⟩; have n0_ := Aside0.mk (Kd.R_below (by (with_reducible repeat (first | apply Kd.R_alloc | apply Kd.R_drewN | apply Kd.R_drew)); exact HO_6.out) hb); have n1_ := Aside0.mk (below_step (by repeat (first | (with_reducible first | exact HB.out | apply below_alloc | apply pw_below_drewN | apply below_drew1) | exact HB.out)) hb); clear HO_6; clear HB; have HO_6 := n0_; have HB := n1_; clear n0_ n1_; (try clear hb); (try clear hb2); (try clear hk); (try clear hi)) | ((with_reducible refine gate_callee (f := 98) rfl ?_); refine goesL_ (some 54) rfl rfl Try.func98 (by kernel_rfl) rfl #[.int .i64 a1, .int .i64 (t1104.length : Int)] rfl (by (try simp only [List.map_toArray, List.map_cons, List.map_nil]); first | done | rfl | (simp only [List.length_drop, List.length_take]; rfl)) ?_; (with_reducible refine (gemotlaw1_pick.calls a1 (t1104.length : Int) t1114 _ A19.out).mono ?_); rintro e w' ⟨rfl, ⟨nd, rfl⟩⟩; refine ⟨_, rfl, ?_⟩; have p1115 : 0 ≤ ((ji21) : Int) := of_decide_eq_true (by first | (with_reducible assumption) | assumption); have q1115 : (ji21) < (t1104.length : Int) := of_decide_eq_true (by first | (with_reducible assumption) | assumption); obtain ⟨ad1115, e1115, hx1115_0⟩ := Kd.at_string (Kd.R_reads' HO_6.out).2.2 (ji21) p1115 q1115; obtain rfl : ad1111 = ad1115 := (by injection e1115); replace p1115 := eq_true p1115; replace q1115 := eq_true q1115) | ((with_reducible refine gate_callee (f := 88) rfl ?_); refine goesL_ (some 60) rfl rfl Try.func88 (by kernel_rfl) rfl #[.string x9_2, .string (rdOf ByteArray.empty t1104 (ji21))] rfl (by (try simp only [List.map_toArray, List.map_cons, List.map_nil]); first | done | (simp only [hji21]; rfl) | rfl | (simp only [List.length_drop, List.length_take]; rfl)) ?_; (with_reducible refine (term_Power.calls x9_2 (rdOf ByteArray.empty t1104 (ji21)) t1116 t1117 _ A24.out).mono ?_); rintro e w31 ⟨rfl, hb⟩; refine ⟨_, rfl, ?_⟩; have n0_ := Aside0.mk (Kd.R_below (by (with_reducible repeat (first | apply Kd.R_alloc | apply Kd.R_drewN | apply Kd.R_drew)); exact HO_6.out) hb); have n1_ := Aside0.mk (below_step (by repeat (first | (with_reducible first | exact HB.out | apply below_alloc | apply pw_below_drewN | apply below_drew1) | exact HB.out)) hb); clear HO_6; clear HB; have HO_6 := n0_; have HB := n1_; clear n0_ n1_; (try clear hb); (try clear hb2); (try clear hk); (try clear hi); have p1118 : 0 ≤ ((ji25) : Int) := of_decide_eq_true (by first | (with_reducible assumption) | assumption); have q1118 : (ji25) < (t1104.length : Int) := of_decide_eq_true (by first | (with_reducible assumption) | assumption); obtain ⟨ad1118, e1118, hx1118_0⟩ := Kd.at_string (Kd.R_reads' HO_6.out).2.2 (ji25) p1118 q1118; obtain rfl : ad1111 = ad1118 := (by injection e1118); replace p1118 := eq_true p1118; replace q1118 := eq_true q1118) | ((with_reducible refine gate_callee (f := 88) rfl ?_); refine goesL_ (some 72) rfl rfl Try.func88 (by kernel_rfl) rfl #[.string x10_2, .string (rdOf ByteArray.empty t1104 (ji25))] rfl (by (try simp only [List.map_toArray, List.map_cons, List.map_nil]); first | done | (simp only [hji25]; rfl) | rfl | (simp only [List.length_drop, List.length_take]; rfl)) ?_; (with_reducible refine (term_Power.calls x10_2 (rdOf ByteArray.empty t1104 (ji25)) t1119 t1120 _ A28.out).mono ?_); rintro e w32 ⟨rfl, hb⟩; refine ⟨_, rfl, ?_⟩; have n0_ := Aside0.mk (Kd.R_below (by (with_reducible repeat (first | apply Kd.R_alloc | apply Kd.R_drewN | apply Kd.R_drew)); exact HO_6.out) hb); have n1_ := Aside0.mk (below_step (by repeat (first | (with_reducible first | exact HB.out | apply below_alloc | apply pw_below_drewN | apply below_drew1) | exact HB.out)) hb); clear HO_6; clear HB; have HO_6 := n0_; have HB := n1_; clear n0_ n1_; (try clear hb); (try clear hb2); (try clear hk); (try clear hi)))
                            (try simp only [Act.put, List.setIfInBounds_toArray, List.set_cons_zero, List.set_cons_succ])
                            go_cut [84] (fun v84 wc => ∃ (kq : Nat) (x84_28 : Bool), v84 = .bool x84_28 ∧ Aside0 (gemotlaw1_TermTurns.j2 kq a1 t1104 (t1104.length : Int) x8_2 x11_2 t1112 t1113 t1116 t1117 t1119 t1120 x84_28 = some r) ∧ Aside0 (kq ≤ k2) ∧ Aside0 (Kd.R Kd.string 23 wc w.heap.size (fun _ => True) (.slice (some ad1111) t1104.length co14) t1104) ∧ Aside0 (Below w.heap.size w wc))
                            case first =>
                              have H := HC29.out
                              clear HC29
                              by_cases c33 : t1113 = 0
                              · rw [if_pos c33] at H
                                have c33b0 : (t1113 == 0) = true := beq_iff_eq.mpr c33
                                have c33b1 : (t1113 != 0) = false := bne_eq_false_iff_eq.mpr c33
                                clear c33
                                (first | rw [c33b0] | (simp only [i64_w, i32_w]; rw [c33b0]) | skip)
                                by_cases c34 : t1117 = 0
                                · rw [if_pos c34] at H
                                  have c34b0 : (t1117 == 0) = true := beq_iff_eq.mpr c34
                                  have c34b1 : (t1117 != 0) = false := bne_eq_false_iff_eq.mpr c34
                                  clear c34
                                  have H' := Aside0.mk H
                                  clear H
                                  go_wp2
                                  go_meet
                                  case rel => exact ⟨_, ((t1120 != 0)), (by first | rfl | (simp; done) | (simp [*]; done)), H', ⟨by have := HJ4.out; have := HK2.out; first | omega | exact Nat.le_refl _⟩, ⟨by (with_reducible repeat (first | apply Kd.R_alloc | apply Kd.R_drewN | apply Kd.R_drew)); exact HO_6.out⟩, ⟨by repeat (first | (with_reducible first | exact HB.out | apply below_alloc | apply pw_below_drewN | apply below_drew1) | exact HB.out)⟩⟩
                                · rw [if_neg c34] at H
                                  have c34b0 : (t1117 == 0) = false := beq_eq_false_iff_ne.mpr c34
                                  have c34b1 : (t1117 != 0) = true := bne_iff_ne.mpr c34
                                  have H' := Aside0.mk H
                                  clear H
                                  go_wp2
                                  go_meet
                                  case rel => exact ⟨_, (true), (by first | rfl | (simp; done) | (simp [*]; done)), H', ⟨by have := HJ4.out; have := HK2.out; first | omega | exact Nat.le_refl _⟩, ⟨by (with_reducible repeat (first | apply Kd.R_alloc | apply Kd.R_drewN | apply Kd.R_drew)); exact HO_6.out⟩, ⟨by repeat (first | (with_reducible first | exact HB.out | apply below_alloc | apply pw_below_drewN | apply below_drew1) | exact HB.out)⟩⟩
                              · rw [if_neg c33] at H
                                have c33b0 : (t1113 == 0) = false := beq_eq_false_iff_ne.mpr c33
                                have c33b1 : (t1113 != 0) = true := bne_iff_ne.mpr c33
                                (first | rw [c33b0] | (simp only [i64_w, i32_w]; rw [c33b0]) | skip)
                                have H' := Aside0.mk H
                                clear H
                                go_wp2
                                go_meet
                                case rel => exact ⟨_, (true), (by first | rfl | (simp; done) | (simp [*]; done)), H', ⟨by have := HJ4.out; have := HK2.out; first | omega | exact Nat.le_refl _⟩, ⟨by (with_reducible repeat (first | apply Kd.R_alloc | apply Kd.R_drewN | apply Kd.R_drew)); exact HO_6.out⟩, ⟨by repeat (first | (with_reducible first | exact HB.out | apply below_alloc | apply pw_below_drewN | apply below_drew1) | exact HB.out)⟩⟩
                            case rest =>
                              clear HC29
                              try clear c1
                              try clear p1
                              try clear q1
                              try clear hx1
                              try clear c2
                              try clear p2
                              try clear c3
                              try clear p6
                              try clear c7
                              try clear c8
                              try clear c9
                              try clear c10
                              try clear p11
                              try clear q11
                              try clear hx11
                              try clear c15
                              try clear c15b0
                              try clear c16
                              try clear c16b0
                              try clear c17
                              try clear c17b0
                              try clear c20
                              try clear c20b0
                              try clear c20b1
                              try clear c20b2
                              try clear c21
                              try clear c22
                              try clear c22b0
                              try clear c23
                              try clear c23b0
                              try clear c26
                              try clear c26b0
                              try clear c27
                              try clear c27b0
                              try clear c33
                              try clear c33b0
                              try clear c33b1
                              try clear c34
                              try clear c34b0
                              try clear c34b1
                              try clear hx1111_0
                              try clear hx1115_0
                              try clear hx1118_0
                              try clear p1111
                              try clear p1115
                              try clear p1118
                              try clear p2
                              try clear q1111
                              try clear q1115
                              try clear q1118
                              obtain ⟨kq, x84_28, rfl, HA, HJ28, HO_6, HB⟩ := hcut
                              cases kq with
                              | zero => exact absurd HA.out (by simp [gemotlaw1_TermTurns.j2])
                              | succ kj28 =>
                                have H := HA.out
                                clear HA
                                simp only [gemotlaw1_TermTurns.j2] at H
                                by_cases c35 : x84_28 = true
                                · subst c35
                                  have H1 : (if t1113 = 3 then (some true) else (if t1117 = 3 then (some true) else (if t1120 = 3 then (some true) else (if t1113 = 4 then (some true) else (if t1117 = 4 then (some true) else (some (t1120 == 4))))))) = some r := by rw [if_pos rfl] at H; exact H
                                  clear H
                                  have H := H1
                                  clear H1
                                  by_cases c36 : t1113 = 3
                                  · rw [if_pos c36] at H
                                    have c36b0 : (t1113 == 3) = true := beq_iff_eq.mpr c36
                                    have c36b1 : (t1113 != 3) = false := bne_eq_false_iff_eq.mpr c36
                                    clear c36
                                    obtain rfl := Option.some.inj H
                                    go_wp2
                                    go_ret
                                    exact ⟨by first | rfl | (simp [errW_none, errW_some] <;> rfl) | (simp only [← hji21, ← hji25]; first | rfl | (simp [errW_none, errW_some] <;> rfl)) | (simp [*, errW_none, errW_some] <;> rfl), by repeat (first | (with_reducible first | exact HB.out | apply below_alloc | apply pw_below_drewN | apply below_drew1) | exact HB.out)⟩
                                  · rw [if_neg c36] at H
                                    have c36b0 : (t1113 == 3) = false := beq_eq_false_iff_ne.mpr c36
                                    have c36b1 : (t1113 != 3) = true := bne_iff_ne.mpr c36
                                    by_cases c37 : t1117 = 3
                                    · rw [if_pos c37] at H
                                      have c37b0 : (t1117 == 3) = true := beq_iff_eq.mpr c37
                                      have c37b1 : (t1117 != 3) = false := bne_eq_false_iff_eq.mpr c37
                                      clear c37
                                      obtain rfl := Option.some.inj H
                                      go_wp2
                                      go_ret
                                      exact ⟨by first | rfl | (simp [errW_none, errW_some] <;> rfl) | (simp only [← hji21, ← hji25]; first | rfl | (simp [errW_none, errW_some] <;> rfl)) | (simp [*, errW_none, errW_some] <;> rfl), by repeat (first | (with_reducible first | exact HB.out | apply below_alloc | apply pw_below_drewN | apply below_drew1) | exact HB.out)⟩
                                    · rw [if_neg c37] at H
                                      have c37b0 : (t1117 == 3) = false := beq_eq_false_iff_ne.mpr c37
                                      have c37b1 : (t1117 != 3) = true := bne_iff_ne.mpr c37
                                      by_cases c38 : t1120 = 3
                                      · rw [if_pos c38] at H
                                        have c38b0 : (t1120 == 3) = true := beq_iff_eq.mpr c38
                                        have c38b1 : (t1120 != 3) = false := bne_eq_false_iff_eq.mpr c38
                                        clear c38
                                        obtain rfl := Option.some.inj H
                                        go_wp2
                                        go_ret
                                        exact ⟨by first | rfl | (simp [errW_none, errW_some] <;> rfl) | (simp only [← hji21, ← hji25]; first | rfl | (simp [errW_none, errW_some] <;> rfl)) | (simp [*, errW_none, errW_some] <;> rfl), by repeat (first | (with_reducible first | exact HB.out | apply below_alloc | apply pw_below_drewN | apply below_drew1) | exact HB.out)⟩
                                      · rw [if_neg c38] at H
                                        have c38b0 : (t1120 == 3) = false := beq_eq_false_iff_ne.mpr c38
                                        have c38b1 : (t1120 != 3) = true := bne_iff_ne.mpr c38
                                        by_cases c39 : t1113 = 4
                                        · rw [if_pos c39] at H
                                          have c39b0 : (t1113 == 4) = true := beq_iff_eq.mpr c39
                                          have c39b1 : (t1113 != 4) = false := bne_eq_false_iff_eq.mpr c39
                                          clear c39
                                          obtain rfl := Option.some.inj H
                                          go_wp2
                                          go_ret
                                          exact ⟨by first | rfl | (simp [errW_none, errW_some] <;> rfl) | (simp only [← hji21, ← hji25]; first | rfl | (simp [errW_none, errW_some] <;> rfl)) | (simp [*, errW_none, errW_some] <;> rfl), by repeat (first | (with_reducible first | exact HB.out | apply below_alloc | apply pw_below_drewN | apply below_drew1) | exact HB.out)⟩
                                        · rw [if_neg c39] at H
                                          have c39b0 : (t1113 == 4) = false := beq_eq_false_iff_ne.mpr c39
                                          have c39b1 : (t1113 != 4) = true := bne_iff_ne.mpr c39
                                          by_cases c40 : t1117 = 4
                                          · rw [if_pos c40] at H
                                            have c40b0 : (t1117 == 4) = true := beq_iff_eq.mpr c40
                                            have c40b1 : (t1117 != 4) = false := bne_eq_false_iff_eq.mpr c40
                                            clear c40
                                            obtain rfl := Option.some.inj H
                                            go_wp2
                                            go_ret
                                            exact ⟨by first | rfl | (simp [errW_none, errW_some] <;> rfl) | (simp only [← hji21, ← hji25]; first | rfl | (simp [errW_none, errW_some] <;> rfl)) | (simp [*, errW_none, errW_some] <;> rfl), by repeat (first | (with_reducible first | exact HB.out | apply below_alloc | apply pw_below_drewN | apply below_drew1) | exact HB.out)⟩
                                          · rw [if_neg c40] at H
                                            have c40b0 : (t1117 == 4) = false := beq_eq_false_iff_ne.mpr c40
                                            have c40b1 : (t1117 != 4) = true := bne_iff_ne.mpr c40
                                            obtain rfl := Option.some.inj H
                                            go_wp2
                                            go_ret
                                            exact ⟨by first | rfl | (simp [errW_none, errW_some] <;> rfl) | (simp only [← hji21, ← hji25]; first | rfl | (simp [errW_none, errW_some] <;> rfl)) | (simp [*, errW_none, errW_some] <;> rfl), by repeat (first | (with_reducible first | exact HB.out | apply below_alloc | apply pw_below_drewN | apply below_drew1) | exact HB.out)⟩
                                · replace c35 := Bool.eq_false_iff.mpr c35
                                  subst c35
                                  have H1 : (if t1112.toList = x8_2.toList then (none) else (if 0 ≤ x11_2 then (if x11_2 < (t1104.length : Int) then (if (t1112.size : Int) = (wrap64 ((x8_2.size : Int) + ((rdOf ByteArray.empty t1104 x11_2).size : Int))) then (gemotlaw1_TermTurns.l0 kj28 a1 t1104 (t1104.length : Int) t1112 t1116 t1119 (wrap64 (x11_2 + 1))) else (if x11_2 > 0 then (none) else (gemotlaw1_TermTurns.l0 kj28 a1 t1104 (t1104.length : Int) t1112 t1116 t1119 (wrap64 (x11_2 + 1))))) else (none)) else (none))) = some r := by rw [if_neg (show ¬ (false = true) by decide)] at H; exact H
                                  clear H
                                  have H := H1
                                  clear H1
                                  by_cases c41 : t1112.toList = x8_2.toList
                                  · rw [if_pos c41] at H
                                    exact absurd H (by simp)
                                  · rw [if_neg c41] at H
                                    have c41b0 : (t1112.toList == x8_2.toList) = false := beq_eq_false_iff_ne.mpr c41
                                    have c41b1 : (t1112.toList != x8_2.toList) = true := bne_iff_ne.mpr c41
                                    by_cases c42 : 0 ≤ x11_2
                                    · rw [if_pos c42] at H
                                      have c42b0 : decide (0 ≤ x11_2) = true := decide_eq_true c42
                                      clear c42
                                      by_cases c43 : x11_2 < (t1104.length : Int)
                                      · rw [if_pos c43] at H
                                        have c43b0 : decide (x11_2 < (t1104.length : Int)) = true := decide_eq_true c43
                                        clear c43
                                        by_cases c44 : (t1112.size : Int) = (wrap64 ((x8_2.size : Int) + ((rdOf ByteArray.empty t1104 x11_2).size : Int)))
                                        · rw [if_pos c44] at H
                                          have c44b0 : ((t1112.size : Int) == (wrap64 ((x8_2.size : Int) + ((rdOf ByteArray.empty t1104 x11_2).size : Int)))) = true := beq_iff_eq.mpr c44
                                          have c44b1 : ((t1112.size : Int) != (wrap64 ((x8_2.size : Int) + ((rdOf ByteArray.empty t1104 x11_2).size : Int)))) = false := bne_eq_false_iff_eq.mpr c44
                                          clear c44
                                          have H' := Aside0.mk H
                                          clear H
                                          have p1121 : 0 ≤ (x11_2 : Int) := of_decide_eq_true (by first | (with_reducible assumption) | assumption)
                                          have q1121 : x11_2 < (t1104.length : Int) := of_decide_eq_true (by first | (with_reducible assumption) | assumption)
                                          obtain ⟨ad1121, e1121, hx1121_0⟩ := Kd.at_string (Kd.R_reads' HO_6.out).2.2 x11_2 p1121 q1121
                                          obtain rfl : ad1111 = ad1121 := (by injection e1121)
                                          replace p1121 := eq_true p1121
                                          replace q1121 := eq_true q1121
                                          go_wp2
                                          go_roundg kj28
                                          case measure => have := HJ4.out; have := HK2.out; have := HJ28.out; omega
                                          case rel => exact ⟨(t1112), (t1116), (t1119), (wrap64 (x11_2 + 1)), (by first | rfl | (simp; done) | (simp [*]; done)), (by first | rfl | (simp; done) | (simp [*]; done)), (by first | rfl | (simp; done) | (simp [*]; done)), (by first | rfl | (simp; done) | (simp [*]; done)), H', ⟨by have := HJ4.out; have := HK2.out; have := HJ28.out; omega⟩, ⟨by (with_reducible repeat (first | apply Kd.R_alloc | apply Kd.R_drewN | apply Kd.R_drew)); exact HO_6.out⟩, ⟨by repeat (first | (with_reducible first | exact HB.out | apply below_alloc | apply pw_below_drewN | apply below_drew1) | exact HB.out)⟩⟩
                                        · rw [if_neg c44] at H
                                          have c44b0 : ((t1112.size : Int) == (wrap64 ((x8_2.size : Int) + ((rdOf ByteArray.empty t1104 x11_2).size : Int)))) = false := beq_eq_false_iff_ne.mpr c44
                                          have c44b1 : ((t1112.size : Int) != (wrap64 ((x8_2.size : Int) + ((rdOf ByteArray.empty t1104 x11_2).size : Int)))) = true := bne_iff_ne.mpr c44
                                          by_cases c45 : x11_2 > 0
                                          · rw [if_pos c45] at H
                                            exact absurd H (by simp)
                                          · rw [if_neg c45] at H
                                            have c45b0 : decide (0 < x11_2) = false := decide_eq_false c45
                                            clear c45
                                            have H' := Aside0.mk H
                                            clear H
                                            have p1121 : 0 ≤ (x11_2 : Int) := of_decide_eq_true (by first | (with_reducible assumption) | assumption)
                                            have q1121 : x11_2 < (t1104.length : Int) := of_decide_eq_true (by first | (with_reducible assumption) | assumption)
                                            obtain ⟨ad1121, e1121, hx1121_0⟩ := Kd.at_string (Kd.R_reads' HO_6.out).2.2 x11_2 p1121 q1121
                                            obtain rfl : ad1111 = ad1121 := (by injection e1121)
                                            replace p1121 := eq_true p1121
                                            replace q1121 := eq_true q1121
                                            go_wp2
                                            go_roundg kj28
                                            case measure => have := HJ4.out; have := HK2.out; have := HJ28.out; omega
                                            case rel => exact ⟨(t1112), (t1116), (t1119), (wrap64 (x11_2 + 1)), (by first | rfl | (simp; done) | (simp [*]; done)), (by first | rfl | (simp; done) | (simp [*]; done)), (by first | rfl | (simp; done) | (simp [*]; done)), (by first | rfl | (simp; done) | (simp [*]; done)), H', ⟨by have := HJ4.out; have := HK2.out; have := HJ28.out; omega⟩, ⟨by (with_reducible repeat (first | apply Kd.R_alloc | apply Kd.R_drewN | apply Kd.R_drew)); exact HO_6.out⟩, ⟨by repeat (first | (with_reducible first | exact HB.out | apply below_alloc | apply pw_below_drewN | apply below_drew1) | exact HB.out)⟩⟩
                                      · rw [if_neg c43] at H
                                        exact absurd H (by simp)
                                    · rw [if_neg c42] at H
                                      exact absurd H (by simp)
                          · rw [if_neg c27] at H
                            exact absurd H (by simp)
                        · rw [if_neg c26] at H
                          exact absurd H (by simp)
                      · rw [if_neg c23] at H
                        exact absurd H (by simp)
                    · rw [if_neg c22] at H
                      exact absurd H (by simp)
                · rw [if_neg c17] at H
                  exact absurd H (by simp)
              · rw [if_neg c16] at H
                exact absurd H (by simp)
            · rw [if_neg c15] at H
              have c15b0 : decide (x11_2 < (t1104.length : Int)) = false := decide_eq_false c15
              clear c15
              by_cases c46 : x8_2.toList = x9_2.toList
              · rw [if_pos c46] at H
                have c46b0 : (x8_2.toList == x9_2.toList) = true := beq_iff_eq.mpr c46
                have c46b1 : (x8_2.toList != x9_2.toList) = false := bne_eq_false_iff_eq.mpr c46
                clear c46
                by_cases c47 : x8_2.toList = x10_2.toList
                · rw [if_pos c47] at H
                  have c47b0 : (x8_2.toList == x10_2.toList) = true := beq_iff_eq.mpr c47
                  have c47b1 : (x8_2.toList != x10_2.toList) = false := bne_eq_false_iff_eq.mpr c47
                  clear c47
                  replace H := Option.bind_eq_some_iff.mp H
                  obtain ⟨t1110, A480, H⟩ := H
                  replace H : (some (decide (t1110 ≥ 2))) = some r := H
                  have A48 := Aside0.mk A480
                  clear A480
                  obtain rfl := Option.some.inj H
                  go_wp2_with (first | (go_at_call 87; (with_reducible refine (term_Depth.calls x8_2 t1110 _ A48.out).mono ?_); rintro e w49 ⟨rfl, hb⟩; have n0_ := Aside0.mk (Kd.R_below (by (with_reducible repeat (first | apply Kd.R_alloc | apply Kd.R_drewN | apply Kd.R_drew)); exact HO_6.out) hb); have n1_ := Aside0.mk (below_step (by repeat (first | (with_reducible first | exact HB.out | apply below_alloc | apply pw_below_drewN | apply below_drew1) | exact HB.out)) hb); clear HO_6; clear HB; have HO_6 := n0_; have HB := n1_; clear n0_ n1_; (try clear hb); (try clear hb2); (try clear hk); (try clear hi)))
                  go_ret
                  exact ⟨by first | rfl | (simp [errW_none, errW_some] <;> rfl) | (simp [*, errW_none, errW_some] <;> rfl), by repeat (first | (with_reducible first | exact HB.out | apply below_alloc | apply pw_below_drewN | apply below_drew1) | exact HB.out)⟩
                · rw [if_neg c47] at H
                  exact absurd H (by simp)
              · rw [if_neg c46] at H
                exact absurd H (by simp)

end Go.Proofs.Ytpfpmjdifnoeoaa.F
namespace Go.Proofs.Ytpfpmjdifnoeoaa.Pure
set_option linter.unusedVariables false
set_option linter.unusedSimpArgs false
open Go.RowKit Go.Proofs.Ytpfpmjdifnoeoaa.F Go.Proofs.YtpfpmjdifnoeoaaW.PrintWords Go.Proofs.YtpfpmjdifnoeoaaW.PrintLast Go.Proofs.YtpfpmjdifnoeoaaW.PrintMore

theorem rg64 {a : Int} (h : (Lit.int .i64 a).wf = true) : -9223372036854775808 ≤ a ∧ a ≤ 9223372036854775807 := by
  simp only [Lit.wf, IntKind.min, IntKind.max, IntKind.signed, IntKind.bits, Bool.and_eq_true, decide_eq_true_eq, if_true, Bool.false_eq_true, if_false] at h
  omega
theorem rgu64 {a : Int} (h : (Lit.int .u64 a).wf = true) : 0 ≤ a ∧ a < 18446744073709551616 := by
  simp only [Lit.wf, IntKind.min, IntKind.max, IntKind.signed, IntKind.bits, Bool.and_eq_true, decide_eq_true_eq, if_true, Bool.false_eq_true, if_false] at h
  omega
theorem tl_eq {a b : ByteArray} : a.toList = b.toList ↔ a = b :=
  ⟨fun h => by rw [ByteArray.toList_eq, ByteArray.toList_eq] at h; exact ByteArray.ext (Array.ext' h), fun h => by rw [h]⟩
theorem tl_beq {a b c d : ByteArray} (h : a = b ↔ c = d) : (a.toList == b.toList) = (c.toList == d.toList) := by
  rw [Bool.eq_iff_iff, beq_iff_eq, beq_iff_eq, tl_eq, tl_eq]; exact h
theorem tl_beq_int {a b : ByteArray} {x y : Int} (h : a = b ↔ x = y) : (a.toList == b.toList) = (x == y) := by
  rw [Bool.eq_iff_iff, beq_iff_eq, beq_iff_eq, tl_eq]; exact h
theorem ne_bt {a b : ByteArray} (h : bt a 0 ≠ bt b 0) : ¬ a.toList = b.toList := fun q => h (by rw [tl_eq.mp q])
theorem tl_nil {a : ByteArray} : a.toList = ([] : List UInt8) ↔ a = ⟨#[]⟩ := by
  have : (⟨#[]⟩ : ByteArray).toList = [] := by rw [ByteArray.toList_eq]
  constructor
  · intro h; exact tl_eq.mp (h.trans this.symm)
  · intro h; rw [h, this]
theorem depth_right {t : ByteArray} (h : rightB t = true) : depthF t = depF t := by
  have ht := ((right_iff t).mp h).1
  unfold depthF scanF
  rw [if_pos h, if_pos ht.1]; rfl
theorem depth_not {t : ByteArray} (h : rightB t = false) : depthF t = 0 := by
  unfold depthF
  rw [if_neg (by rw [h]; simp)]
theorem leaf_dep {t : ByteArray} (h : Leaf t) (hs : t.size ≤ 20000) : depthF t = 1 := by rw [depth_right (h.right hs), h.tm.2]
theorem Part.dep1 {m : Int} {t : ByteArray} (h : Part m t) : 1 ≤ depF t := h.tm.dep.1
/-! ### Eight bytes say a number -/
theorem cnt_byte {a b : Int} (h : UInt8.ofNat (a % 256).toNat = UInt8.ofNat (b % 256).toNat) : a % 256 = b % 256 := by
  have := congrArg UInt8.toNat h
  rw [UInt8.toNat_ofNat_of_lt' (by show (a % 256).toNat < 256; omega), UInt8.toNat_ofNat_of_lt' (by show (b % 256).toNat < 256; omega)] at this
  omega
theorem cnt_inj {c a b : Int} (ha : 0 ≤ a ∧ a < 18446744073709551616) (hb : 0 ≤ b ∧ b < 18446744073709551616) (h : countF c a = countF c b) : a = b := by
  have h1 := congrArg (fun x => x.data.toList) h
  simp only [countF, strOfNums, eightL, List.map_cons, List.map_nil, List.toList_toArray, List.cons.injEq, and_true, true_and] at h1
  obtain ⟨h7, h6, h5, h4, h3, h2, h1, h0⟩ := h1
  replace h7 := cnt_byte h7
  replace h6 := cnt_byte h6
  replace h5 := cnt_byte h5
  replace h4 := cnt_byte h4
  replace h3 := cnt_byte h3
  replace h2 := cnt_byte h2
  replace h1 := cnt_byte h1
  replace h0 := cnt_byte h0
  have s : ∀ (x : Int) (j : Nat), j ≤ 64 → shr .u64 x (j : Int) = x / ((2 ^ j : Nat) : Int) := by
    intro x j hj
    unfold shr
    rw [Nat.min_eq_left (by show ((j : Int)).toNat ≤ 64; omega), Int.toNat_natCast]
    congr 1
  have t : ∀ (x : Int) (j : Nat), j ≤ 56 → shr .u64 x ((j + 8 : Nat) : Int) = shr .u64 x (j : Int) / 256 := by
    intro x j hj
    rw [s x _ (by omega), s x _ (by omega), Int.ediv_ediv_of_nonneg (Int.natCast_nonneg _), Nat.pow_add]
    simp
  have step : ∀ j : Nat, j ≤ 56 → shr .u64 a (j : Int) % 256 = shr .u64 b (j : Int) % 256 → shr .u64 a ((j + 8 : Nat) : Int) = shr .u64 b ((j + 8 : Nat) : Int) → shr .u64 a (j : Int) = shr .u64 b (j : Int) := by
    intro j hj e1 e2
    rw [t a j hj, t b j hj] at e2
    omega
  have top : shr .u64 a ((64 : Nat) : Int) = shr .u64 b ((64 : Nat) : Int) := by
    rw [s a 64 (by omega), s b 64 (by omega)]
    have : ((2 ^ 64 : Nat) : Int) = 18446744073709551616 := by decide
    rw [this]
    omega
  have r := step 0 (by omega) h0 (step 8 (by omega) h1 (step 16 (by omega) h2 (step 24 (by omega) h3 (step 32 (by omega) h4 (step 40 (by omega) h5 (step 48 (by omega) h6 (step 56 (by omega) h7 top)))))))
  rw [s a 0 (by omega), s b 0 (by omega)] at r
  simpa using r
theorem text_inj {s t : ByteArray} (hs : s.size ≤ 100) (ht : t.size ≤ 100) (h : (textF s).1 = (textF t).1) : s = t := by
  rw [(text_ok hs).1, (text_ok ht).1] at h
  have h2 := congrArg bl h
  rw [bl_app, bl_app] at h2
  exact bl_inj (List.append_inj h2 rfl).2
end Go.Proofs.Ytpfpmjdifnoeoaa.Pure
namespace Go.Proofs.Ytpfpmjdifnoeoaa.Pure
set_option linter.unusedVariables false
set_option linter.unusedSimpArgs false
open Go.RowKit Go.Proofs.Ytpfpmjdifnoeoaa.F Go.Proofs.YtpfpmjdifnoeoaaW.PrintWords Go.Proofs.YtpfpmjdifnoeoaaW.PrintLast Go.Proofs.YtpfpmjdifnoeoaaW.PrintMore

theorem made1 (l : List S169) (h : ∀ y ∈ l, (Lit.int .i64 y.f0).wf = true ∧ (Lit.int .i64 y.f1).wf = true ∧ (Lit.int .i64 y.f2).wf = true ∧ (Lit.int .i64 y.f3).wf = true) : ∃ out, gemotlaw1_made.f l = some out ∧ MadeOk out ∧ out.length ≤ 42 := by
  refine ⟨gemotlaw1_made.tmade l, ?_, madeT_ok _⟩
  unfold gemotlaw1_made.f
  exact if_pos fun x hx => ⟨rg64 (h x hx).1, rg64 (h x hx).2.1, rg64 (h x hx).2.2.1, rg64 (h x hx).2.2.2⟩
theorem pick1 {c n : Int} (h : (Lit.int .i64 c).wf = true) (h0 : 0 < n) (h1 : n ≤ 100000) : gemotlaw1_pick.f c n = some (pickF c n) := by
  have := rg64 h
  unfold gemotlaw1_pick.f
  rw [if_pos ⟨this.1, this.2, h0, by omega⟩]
  rfl
theorem rd_mem {l : List ByteArray} {i : Nat} (h : i < l.length) : rdOf ByteArray.empty l (i : Int) = l[i] := by simp [rdOf, List.getD_eq_getElem?_getD, h]
theorem take_ne {l : List ByteArray} {i : Nat} (h : i ≠ 0) (hl : 2 ≤ l.length) : l.take i ≠ [] := by
  intro q
  have := congrArg List.length q
  rw [List.length_take, List.length_nil] at this
  omega
theorem elm_perm {l m : List ByteArray} (h : l.Perm m) : elmOf l = elmOf m := by
  unfold elmOf
  by_cases c : l = []
  · have : m = [] := by rw [c] at h; exact List.nil_perm.mp h
    rw [if_pos c, if_pos this]
  · have : m ≠ [] := fun q => c (by rw [q] at h; exact List.perm_nil.mp h)
    rw [if_neg c, if_neg this, h.length_eq, sortB_of_perm h]
/-- x is the generator, raised by what stands in l. -/
structure Acc (l : List ByteArray) (x : ByteArray) : Prop where
  eq : x = elmOf l
  elem : elemB x = true
  exps : (expsF x).Perm l
  parts : ∀ y ∈ l, Part 42 y
  len : l.length ≤ 12
theorem acc_nil : Acc [] ⟨#[103]⟩ := ⟨rfl, gen_elem.1, by rw [gen_elem.2], by simp, by simp⟩
theorem Acc.size {l : List ByteArray} {x : ByteArray} (h : Acc l x) : x.size ≤ 20000 := by
  have := h.elem
  unfold elemB at this
  rw [Bool.and_eq_true] at this
  exact (right_pos this.1).2
theorem Acc.step {l : List ByteArray} {x y : ByteArray} (h : Acc l x) (hy : Part 42 y) (hl : l.length < 12) :
    ((powF x y).2 = 0 → Acc (l ++ [y]) (powF x y).1) ∧ ((powF x y).2 = 0 ∨ (powF x y).2 = 3 ∨ (powF x y).2 = 4) := by
  have hlen := h.exps.length_eq
  have hp : powF x y = wholeF (elmOf (l ++ [y])) := by
    rw [pow_eq h.elem hy.right, if_neg (by omega), elm_perm (h.exps.append_right [y])]
  rw [hp]
  have hparts : ∀ z ∈ l ++ [y], Part 42 z := by
    intro z hz
    rcases List.mem_append.mp hz with q | q
    · exact h.parts z q
    · rw [List.mem_singleton.mp q]; exact hy
  constructor
  · intro h0
    have hw := whole_ok h0
    have := elem_of_node (l := l ++ [y]) (by simp) (by rw [List.length_append]; simp; omega) (fun z hz => ⟨(hparts z hz).tm, by have := (hparts z hz).dep; omega⟩) hw.2.2
    rw [hw.1]
    exact ⟨rfl, this.1, by rw [this.2]; exact sortB_perm _, hparts, by rw [List.length_append]; simp; omega⟩
  · rcases whole_codes (elmOf (l ++ [y])) with q | q | q
    · exact .inl q
    · rw [q]; exact .inr (.inl rfl)
    · rw [q]; exact .inr (.inr rfl)
theorem turns_bad (k : Nat) (x1 : Int) (x6 : List ByteArray) (x7 : Int) (x8 : ByteArray) (x11 : Int) (a b c : ByteArray × Int) (ha : a.2 = 0 ∨ a.2 = 3 ∨ a.2 = 4) (hb : b.2 = 0 ∨ b.2 = 3 ∨ b.2 = 4) (hc : c.2 = 0 ∨ c.2 = 3 ∨ c.2 = 4) (hn : ¬ (a.2 = 0 ∧ b.2 = 0 ∧ c.2 = 0)) :
    gemotlaw1_TermTurns.j2 (k + 1) x1 x6 x7 x8 x11 a.1 a.2 b.1 b.2 c.1 c.2 true = some true := by
  rw [gemotlaw1_TermTurns.j2, if_pos rfl]
  by_cases q1 : a.2 = 3
  · rw [if_pos q1]
  rw [if_neg q1]
  by_cases q2 : b.2 = 3
  · rw [if_pos q2]
  rw [if_neg q2]
  by_cases q3 : c.2 = 3
  · rw [if_pos q3]
  rw [if_neg q3]
  by_cases q4 : a.2 = 4
  · rw [if_pos q4]
  rw [if_neg q4]
  by_cases q5 : b.2 = 4
  · rw [if_pos q5]
  rw [if_neg q5, show (c.2 == 4) = true from beq_iff_eq.mpr (by omega)]
theorem turns (l m r : List ByteArray) (x1 : Int) (p : Nat) (h12 : l.length ≤ 12) (hl : 2 ≤ l.length) (hparts : ∀ y ∈ l, Part 42 y) (hz : ∀ y ∈ l, y.size ≤ 600) (hm : m.Perm l) (hr : r.Perm l) (hp : gemotlaw1_pick.f x1 (l.length : Int) = some (p : Int)) (hpl : p < l.length)
    (hmi : ∀ (i : Nat) (h : i < l.length) (h' : i < m.length), m[i] = l[(i + p) % l.length]'(Nat.mod_lt _ (by omega))) (hri : ∀ (i : Nat) (h : i < l.length) (h' : i < r.length), r[i] = l[l.length - 1 - i]'(by omega)) :
    ∀ (d i : Nat), i + d = l.length → ∀ a b c, Acc (l.take i) a → Acc (m.take i) b → Acc (r.take i) c → ∀ k, 2 * d + 3 ≤ k → gemotlaw1_TermTurns.l0 k x1 l (l.length : Int) a b c i = some true
  | 0, i, hi, a, b, c, ha, hb, hc, k, hk => by
    obtain ⟨k, rfl⟩ : ∃ m, k = m + 1 := ⟨k - 1, by omega⟩
    have hml := hm.length_eq
    have hrl := hr.length_eq
    rw [List.take_of_length_le (by omega)] at ha hb hc
    have e1 : a = b := by rw [ha.eq, hb.eq]; exact elm_perm hm.symm
    have e2 : a = c := by rw [ha.eq, hc.eq]; exact elm_perm hr.symm
    have hs := ha.size
    have hrt : rightB a = true := by have := ha.elem; unfold elemB at this; rw [Bool.and_eq_true] at this; exact this.1
    have f1 : term_Depth.f a = some (depF a) := by unfold term_Depth.f; rw [if_pos (by omega), depth_right hrt]
    have hd : 2 ≤ depF a := by
      have hne : l ≠ [] := fun q => by rw [q] at hl; simp at hl
      have n := elmOf_node hne (by omega) (fun x hx => ⟨(hparts x hx).tm, by have := (hparts x hx).dep; omega⟩)
      rw [← ha.eq] at n
      rw [n.tm.2]
      have h0 : 0 < l.length := by omega
      have h1 := (le_deepest (dep := 0) (ts := sortB l)).2 l[0] ((sortB_perm l).mem_iff.mpr (List.getElem_mem h0))
      have h2 := (hparts l[0] (List.getElem_mem h0)).dep1
      omega
    rw [gemotlaw1_TermTurns.l0, if_neg (by omega), if_pos (by rw [e1]), if_pos (by rw [e2]), f1, Option.bind_some, decide_eq_true (by omega)]
  | d + 1, i, hi, a, b, c, ha, hb, hc, k, hk => by
    obtain ⟨k, rfl⟩ : ∃ m, k = m + 2 := ⟨k - 2, by omega⟩
    have hml := hm.length_eq
    have hrl := hr.length_eq
    have hil : i < l.length := by omega
    have him : i < m.length := by omega
    have hir : i < r.length := by omega
    have hmod : (i + p) % l.length < l.length := Nat.mod_lt _ (by omega)
    have hjr : l.length - 1 - i < l.length := by omega
    have w1 : wrap64 ((i : Int) + (p : Int)) = ((i + p : Nat) : Int) := by unfold wrap64; omega
    have t1 : Int.tmod ((i + p : Nat) : Int) (l.length : Int) = (((i + p) % l.length : Nat) : Int) := by rw [Int.tmod_eq_emod_of_nonneg (by omega)]; exact (Int.natCast_emod _ _).symm
    have w2 : wrap64 (wrap64 ((l.length : Int) - 1) - (i : Int)) = ((l.length - 1 - i : Nat) : Int) := by
      have : wrap64 ((l.length : Int) - 1) = (l.length : Int) - 1 := by unfold wrap64; omega
      rw [this]; unfold wrap64; omega
    have la : (l.take i).length < 12 := by rw [List.length_take]; omega
    have lb : (m.take i).length < 12 := by rw [List.length_take]; omega
    have lc : (r.take i).length < 12 := by rw [List.length_take]; omega
    have pa := hparts _ (List.getElem_mem hil)
    have pb := hparts _ (List.getElem_mem hmod)
    have pc := hparts _ (List.getElem_mem hjr)
    have sa := ha.step pa la
    have sb := hb.step pb lb
    have sc := hc.step pc lc
    have za := ha.size
    have zb := hb.size
    have zc := hc.size
    have z1 := hz _ (List.getElem_mem hil)
    have z2 := hz _ (List.getElem_mem hmod)
    have z3 := hz _ (List.getElem_mem hjr)
    have f1 : term_Power.f a l[i] = some (powF a l[i]) := by unfold term_Power.f; exact if_pos ⟨by omega, by omega⟩
    have f2 : term_Power.f b l[(i + p) % l.length] = some (powF b l[(i + p) % l.length]) := by unfold term_Power.f; exact if_pos ⟨by omega, by omega⟩
    have f3 : term_Power.f c l[l.length - 1 - i] = some (powF c l[l.length - 1 - i]) := by unfold term_Power.f; exact if_pos ⟨by omega, by omega⟩
    rw [gemotlaw1_TermTurns.l0, if_pos (by omega), if_pos (by omega), if_pos (by omega), rd_mem hil, f1, Option.bind_some, hp, Option.bind_some, if_neg (by omega), w1, t1, if_pos (by omega), if_pos (by omega), rd_mem hmod, f2, Option.bind_some, w2, if_pos (by omega), if_pos (by omega), rd_mem hjr, f3, Option.bind_some]
    by_cases q1 : (powF a l[i]).2 = 0
    · rw [if_pos q1]
      by_cases q2 : (powF b l[(i + p) % l.length]).2 = 0
      · rw [if_pos q2]
        by_cases q3 : (powF c l[l.length - 1 - i]).2 = 0
        · have na := sa.1 q1
          have nb := sb.1 q2
          have nc := sc.1 q3
          rw [← List.take_succ_eq_append_getElem hil] at na
          rw [← hmi i hil him, ← List.take_succ_eq_append_getElem him] at nb
          rw [← hri i hil hir, ← List.take_succ_eq_append_getElem hir] at nc
          have ih := turns l m r x1 p h12 hl hparts hz hm hr hp hpl hmi hri d (i + 1) (by omega) _ _ _ na nb nc k (by omega)
          rw [hmi i hil him, hri i hil hir] at ih
          rw [show ((powF c l[l.length - 1 - i]).2 != 0) = false from bne_eq_false_iff_eq.mpr q3, gemotlaw1_TermTurns.j2, if_neg (by decide)]
          have hsz : (powF a l[i]).1.size = 2 + ((cat (l.take i)).size + l[i].size) := by
            rw [na.eq, elmOf_size (take_ne (by omega) (by omega)), List.take_succ_eq_append_getElem hil, cat_app, ByteArray.size_append, cat1]
          have hpos := pa.tm.pos
          have ha1 : a.size = if i = 0 then 1 else 2 + (cat (l.take i)).size := by
            rw [ha.eq]
            split
            · rename_i q; rw [q, List.take_zero]; rfl
            · exact elmOf_size (take_ne (by omega) (by omega))
          have hne : ¬ (powF a l[i]).1.toList = a.toList := by
            intro q
            have := congrArg ByteArray.size (tl_eq.mp q)
            rw [hsz, ha1] at this
            split at this <;> omega
          have wi : wrap64 ((i : Int) + 1) = ((i + 1 : Nat) : Int) := by unfold wrap64; omega
          have hi0 : (0 : Int) ≤ (i : Int) := Int.natCast_nonneg _
          have hi1 : (i : Int) < (l.length : Int) := Int.ofNat_lt.mpr hil
          rw [if_neg hne, if_pos hi0, if_pos hi1, rd_mem hil, wi]
          by_cases q4 : ((powF a l[i]).1.size : Int) = wrap64 ((a.size : Int) + (l[i].size : Int))
          · rw [if_pos q4]; exact ih
          · rw [if_neg q4]
            by_cases q5 : i = 0
            · have hi2 : ¬ ((i : Int) > 0) := by rw [q5]; decide
              rw [if_neg hi2]; exact ih
            · rw [if_neg q5] at ha1
              exact absurd (by unfold wrap64; omega) q4
        · rw [show ((powF c l[l.length - 1 - i]).2 != 0) = true from bne_iff_ne.mpr q3]
          exact turns_bad k _ _ _ _ _ _ _ _ sa.2 sb.2 sc.2 (fun h => q3 h.2.2)
      · rw [if_neg q2]
        exact turns_bad k _ _ _ _ _ _ _ _ sa.2 sb.2 sc.2 (fun h => q2 h.2.1)
    · rw [if_neg q1]
      exact turns_bad k _ _ _ _ _ _ _ _ sa.2 sb.2 sc.2 (fun h => q1 h.1)
theorem TermTurns : ∀ (l0 : List (S169)) (a1 : Int), (l0.length ≤ 9223372036854775807 ∧ ∀ y ∈ l0, (Lit.int .i64 y.f0).wf = true ∧ (Lit.int .i64 y.f1).wf = true ∧ (Lit.int .i64 y.f2).wf = true ∧ (Lit.int .i64 y.f3).wf = true) → ((Lit.int .i64 a1).wf = true) → ∃ k, gemotlaw1_TermTurns.f k l0 a1 = some true := by
  intro l0 a1 hl h1
  obtain ⟨out, ho, hm, hlen⟩ := made1 l0 hl.2
  refine ⟨100, ?_⟩
  unfold gemotlaw1_TermTurns.f gemotlaw1_shown.f
  rw [Option.bind_some, ho, Option.bind_some, if_pos rfl]
  by_cases c : (out.length : Int) > 12
  · rw [decide_eq_true c, gemotlaw1_TermTurns.j0, if_pos rfl]
  have h20 := hm.two
  have hpos : (0 : Int) < (out.length : Int) := by omega
  have r1 := pickF_range a1 hpos
  obtain ⟨p, hp⟩ : ∃ p : Nat, pickF a1 out.length = p := ⟨(pickF a1 out.length).toNat, by omega⟩
  have hpk := pick1 h1 hpos (by omega)
  rw [hp] at hpk r1
  rw [decide_eq_false c, gemotlaw1_TermTurns.j0, if_neg (by decide)]
  unfold term_Gen.f
  rw [Option.bind_some, Option.bind_some, Option.bind_some]
  refine turns out (out.drop p ++ out.take p) out.reverse a1 p (by omega) h20 (fun y hy => (hm.part y hy).mono (by omega)) hm.small ?_ (List.reverse_perm out) hpk (by omega) ?_ ?_ out.length 0 (by omega) _ _ _ acc_nil acc_nil acc_nil 99 (by omega)
  · have := List.perm_append_comm (l₁ := out.drop p) (l₂ := out.take p)
    rwa [List.take_append_drop] at this
  · intro i hi hi'
    rcases Nat.lt_or_ge i (out.length - p) with q | q
    · have e : (i + p) % out.length = p + i := by rw [Nat.mod_eq_of_lt (by omega)]; omega
      rw [List.getElem_append_left (by rw [List.length_drop]; omega), List.getElem_drop]
      simp only [e]
    · have e : (i + p) % out.length = i - (out.length - p) := by
        rw [Nat.mod_eq_sub_mod (by omega), Nat.mod_eq_of_lt (by omega)]; omega
      rw [List.getElem_append_right (by rw [List.length_drop]; omega), List.getElem_take]
      simp only [e, List.length_drop]
  · intro i hi hi'
    rw [List.getElem_reverse]
end Go.Proofs.Ytpfpmjdifnoeoaa.Pure
namespace Go.Proofs.Ytpfpmjdifnoeoaa.termTurns
open Go.ChangeShapes Go.WideShapes Go.ChangeAt Go.RowKit Go.Proofs.Ytpfpmjdifnoeoaa.F Go.Proofs.YtpfpmjdifnoeoaaW.PrintWords Go.Proofs.YtpfpmjdifnoeoaaW.PrintLast Go.Proofs.YtpfpmjdifnoeoaaW.PrintMore
open Go.ChangeMaps (open_string shut_string)
set_option linter.unusedVariables false
set_option linter.unusedSimpArgs false
theorem own : ownKnob Try.prog.godebug = none := by kernel_rfl
theorem laidOut : laidOutB Try.prog = true := by kernel_rfl
def wf169 (x : S169) : Prop := ((Lit.int .i64 x.f0).wf = true) ∧ ((Lit.int .i64 x.f1).wf = true) ∧ ((Lit.int .i64 x.f2).wf = true) ∧ ((Lit.int .i64 x.f3).wf = true)
theorem opens_T169 : Opens Try.prog 169 k169 wf169 := by
  intro H enc w spare held fuel cs x h
  obtain ⟨xs, n, _, _, hl, hlen, hg⟩ := DataW.trod_struct Try.underlying169 h
  have hl' : cs.length = 4 := hl.trans (by kernel_rfl)
  obtain ⟨a0, h0, w0⟩ := opens_field hlen hg 0 _ rfl (opens_int Try.underlying3) 0 1 rfl (by kernel_rfl)
  obtain ⟨a1, h1, w1⟩ := opens_field hlen hg 1 _ rfl (opens_int Try.underlying3) 1 1 rfl (by kernel_rfl)
  obtain ⟨a2, h2, w2⟩ := opens_field hlen hg 2 _ rfl (opens_int Try.underlying3) 2 1 rfl (by kernel_rfl)
  obtain ⟨a3, h3, w3⟩ := opens_field hlen hg 3 _ rfl (opens_int Try.underlying3) 3 1 rfl (by kernel_rfl)
  have e : cs = (cs.drop 0).take 1 ++ ((cs.drop 1).take 1 ++ ((cs.drop 2).take 1 ++ ((cs.drop 3).take 1))) := ((cut2 cs 0 1 3 hl').trans (congrArg (fun z => (cs.drop 0).take 1 ++ z) ((cut2 cs 1 1 2 hl').trans (congrArg (fun z => (cs.drop 1).take 1 ++ z) ((cut2 cs 2 1 1 hl').trans (congrArg (fun z => (cs.drop 2).take 1 ++ z) (cut1 cs 3 1 hl')))))))
  exact ⟨⟨a0, a1, a2, a3⟩, ⟨_, _, e, h0, ⟨_, _, rfl, h1, ⟨_, _, rfl, h2, h3⟩⟩⟩, w0, w1, w2, w3⟩
set_option maxRecDepth 100000 in
theorem lifted (os : Os) (started : os.Started) (H : Type) (enc : TypeId × Value → H) :
    ReturnsInHanded {} Try.checked os 21 .any (Rows.termTurnsSpec.pre6 enc Try.prog Try.f21 Rows.termTurnsRow.domain false) (Rows.termTurnsSpec.post enc Try.prog Try.f21 false true false false) := by
  refine returnsInHanded_of_change_sized (C := Try.checked) own started (by kernel_rfl) Try.func21
    (ChangeSpec.witness6 (enc := enc) (C := Try.checked) false ⟨#[], #[.slice none 0 0, .int .i64 0], []⟩ 8 (by kernel_rfl) (by kernel_rfl) (by kernel_rfl) (by kernel_rfl)) ?_
  intro W base args ds gs before hval0 hW hcnd hsz0 _
  have hval : ∀ (j : Nat) t v, Try.f21.params[j]? = some t → args[j]? = some v → Value.okWide Try.prog W .any base t v := hval0
  have hW' := hW
  obtain ⟨p, q, hA0, hV, rfl, hfz, hnd⟩ := hW
  have hA : DataW.TrodAll enc Try.prog W 0 (fun _ => true) true Try.f21.params.toList args.toList ds p := hA0
  rw [Try.params21] at hA hval
  obtain ⟨v0, vs0, d0, ds0, p0, q0, hargs, rfl, rfl, h0, r0⟩ := trodAll_cons hA
  obtain ⟨v1, vs1, d1, ds1, p1, q1, rfl, rfl, rfl, h1, r1⟩ := trodAll_cons r0
  obtain ⟨rfl, rfl, rfl⟩ := trodAll_nil r1
  obtain rfl : args = #[v0, v1] := by cases args; simp_all
  obtain ⟨rfl, rfl⟩ := trodVars_none hV
  have k0 := h0
  have lt0 : ∀ x ∈ p0, x.block < W.heap.size := by obtain ⟨m, hm⟩ := k0; exact DataW.trod_lt m _ _ _ hm
  obtain ⟨a0, len0, cap0, rfl⟩ := okWide_slice Try.underlying107 (hval 0 107 v0 rfl rfl)
  obtain ⟨fuel0, hf0⟩ := h0
  obtain ⟨l0, ⟨A0, c0, e0, hc0, hr0⟩, w0⟩ := (opens_slice Try.underlying107 (by kernel_rfl) opens_T169) enc W _ _ _ _ _ hf0
  simp only [Value.cells, List.cons.injEq, Value.slice.injEq, and_true] at e0
  obtain ⟨rfl, rfl, rfl⟩ := e0
  have k1 := h1
  have lt1 : ∀ x ∈ p1, x.block < W.heap.size := by obtain ⟨m, hm⟩ := k1; exact DataW.trod_lt m _ _ _ hm
  obtain ⟨a1, rfl, _, _, w1⟩ := open_int Try.underlying3 (hval 1 3 v1 rfl rfl) h1
  obtain ⟨k, hp⟩ := Pure.TermTurns l0 a1 w0 w1
  refine (gemotlaw1_TermTurns.calls k _ _ l0 a1 true W hr0 hc0 hp).mono fun e W' he => ?_
  obtain ⟨he, hb⟩ := he
  subst he
  have bel : Below W.heap.size W W' := hb
  exact ⟨_, rfl, _, _, _, [], _, [], hW', trodAll_mk1 (shut_bool Try.underlying4 _), (trodAll_cons_mk (Below.trod laidOut (by kernel_rfl) (of_decide_eq_true (by kernel_rfl)) k0 bel lt0) (trodAll_cons_mk (Below.trod laidOut (by kernel_rfl) (of_decide_eq_true (by kernel_rfl)) k1 bel lt1) trodAll_mk0)), rfl, bel.frame _, fun h => by cases h⟩
theorem j0 : (Rows.termTurnsRow.wf (OpenSpec.ofChange Rows.termTurnsSpec)) = true := by kernel_rfl
theorem j1 : (laidOutB Try.pinned.checked.prog) = true := rowfact_laidOut
theorem j2 : (mapsRowed Try.pinned.checked.prog) = true := rowfact_mapsRowed
theorem j3 : (Try.f21.params.all (Try.pinned.checked.prog.readableRec ·)) = true := by kernel_rfl
theorem j4 : (namedTie Try.pinned.checked.prog Rows.termTurnsRow.named Rows.termTurnsSpec.vars) = true := by kernel_rfl
theorem j5 : ((Rows.termTurnsRow.stops == [])) = true := by kernel_rfl
theorem j6 : ((Try.pinned.checked.prog.stops == [])) = true := by kernel_rfl
theorem j7 : ((Rows.termTurnsRow.knobs == [])) = true := by kernel_rfl
theorem j8 : ((Try.pinned.checked.prog.stopKnobs == [])) = true := by kernel_rfl
theorem j9 : ((Rows.termTurnsRow.inPlace == Try.pinned.checked.prog.inPlace 21)) = true := by kernel_rfl
theorem j10 : ((Rows.termTurnsRow.unfollowed == Try.pinned.checked.prog.unfollowed 21)) = true := by kernel_rfl
theorem j11 : ((Rows.termTurnsRow.recurses == Try.pinned.checked.prog.recurses 21)) = true := by kernel_rfl
theorem j12 : ((Rows.termTurnsRow.named == Try.pinned.checked.prog.varsNamed 21)) = true := by kernel_rfl
theorem j13 : ((Rows.termTurnsRow.maps == (Try.f21.params.toList ++ Rows.termTurnsSpec.plain.varTypes Try.pinned.checked.prog).any (Try.pinned.checked.prog.mapsRec ·))) = true := by kernel_rfl
theorem j14 : ((Rows.termTurnsRow.ifaces == (Try.f21.params.toList ++ Rows.termTurnsSpec.plain.varTypes Try.pinned.checked.prog).any (Try.pinned.checked.prog.ifacesRec ·))) = true := by kernel_rfl
theorem j15 : ((Rows.termTurnsRow.mapsOut == Try.pinned.checked.prog.mapsAmong Try.f21.resultTypes.toList)) = true := by kernel_rfl
theorem j16 : ((Rows.termTurnsRow.loops == (Try.f21.params.toList ++ Rows.termTurnsSpec.plain.varTypes Try.pinned.checked.prog).any (Try.pinned.checked.prog.loopsFrom ·))) = true := by kernel_rfl
theorem j17 : ((Rows.termTurnsRow.wideKeys == (Try.f21.params.toList ++ Rows.termTurnsSpec.plain.varTypes Try.pinned.checked.prog ++ Try.f21.resultTypes.toList).any (Try.pinned.checked.prog.wideKeysFrom ·))) = true := by kernel_rfl
theorem j18 : (Rows.termTurnsSpec.vars.all (Try.pinned.checked.prog.varReadable ·)) = true := by kernel_rfl
theorem j19 : (Try.f21.resultTypes.all (fun t => Try.pinned.checked.prog.readableRec t && decide (t < Try.pinned.checked.prog.types.size))) = true := by kernel_rfl
theorem j20 : ((Rows.termTurnsRow.ifacesOut == Try.f21.resultTypes.toList.any (Try.pinned.checked.prog.ifacesRec ·))) = true := by kernel_rfl
theorem j21 : ((Rows.termTurnsRow.loopsOut == Try.f21.resultTypes.toList.any (Try.pinned.checked.prog.loopsFrom ·))) = true := by kernel_rfl
theorem j22 : ((Rows.termTurnsRow.plainKeys == Try.pinned.checked.prog.plainKeys)) = true := by kernel_rfl
theorem j23 : (Rows.termTurnsRow.shortTexts.isNone) = true := by kernel_rfl
theorem j24 : (Try.pinned.checked.prog.stopsHeard) = true := rowfact_stopsHeard
theorem j25 : (Try.pinned.checked.prog.mayEnter) = true := rowfact_mayEnter
theorem j26 : ((Rows.termTurnsRow.lifted == Try.pinned.checked.prog.liftsFinal)) = true := by rw [rowfact_lifts]; kernel_rfl
theorem j27 : ((Try.pinned.checked.prog.make == some Rows.termTurnsRow.make)) = true := by rw [rowfact_make]; kernel_rfl
theorem j28 : ((Rows.termTurnsRow.kinds == (if Rows.termTurnsRow.domain.isEmpty then [] else Try.f21.params.toList.map fun t => match Try.pinned.checked.prog.underlying t with | some (.int k) => some k | _ => none))) = true := by kernel_rfl
theorem j29 : ((Rows.termTurnsRow.pinned == Rows.termTurnsRow.pinnedBy)) = true := by kernel_rfl
theorem j30 : ((Rows.termTurnsRow.veiled == (Try.f21.params.toList ++ Rows.termTurnsSpec.plain.varTypes Try.pinned.checked.prog ++ Try.f21.resultTypes.toList).any (Try.pinned.checked.prog.veiledRec ·))) = true := by kernel_rfl
theorem j31 : (Rows.termTurnsRow.veiledFits Try.pinned.checked.prog Try.f21.params.toList (Try.f21.params.toList ++ Rows.termTurnsSpec.plain.varTypes Try.pinned.checked.prog ++ Try.f21.resultTypes.toList)) = true := by kernel_rfl
set_option maxRecDepth 100000 in
theorem closed : joinedFacts Try.pinned.checked.prog 21 Try.f21 Rows.termTurnsSpec Rows.termTurnsRow = true := gen_closed _ _ _ _ _ j0 j1 j2 j3 j4 j5 j6 j7 j8 j9 j10 j11 j12 j13 j14 j15 j16 j17 j18 j19 j20 j21 j22 j23 j24 j25 j26 j27 j28 j29 j30 j31
theorem over : Rows.termTurnsRow.holds Try.pinned (OpenSpec.ofChange Rows.termTurnsSpec) :=
  OpenClaim.holds_of_wide 21 Try.f21 rfl rfl rfl rfl rfl rfl rfl ⟨rfl, rfl, rfl, rfl, rfl⟩ rfl rfl rfl rfl rfl (by kernel_rfl) Try.func21 closed
    (of_decide_eq_true (by kernel_rfl)) (by unfold Func.isWrapper; first | (rw [if_pos (by decide +kernel)]; kernel_rfl) | (rw [if_neg (by decide +kernel)]; exact ⟨rfl, rfl⟩))
    (fun os started H enc _ => lifted os started H enc)
end Go.Proofs.Ytpfpmjdifnoeoaa.termTurns
namespace Go.Proofs.Ytpfpmjdifnoeoaa
/-- The given statement, proved. -/
theorem termTurns_holds : Rows.TermTurnsSaid := termTurns.over
#print axioms termTurns_holds
end Go.Proofs.Ytpfpmjdifnoeoaa
