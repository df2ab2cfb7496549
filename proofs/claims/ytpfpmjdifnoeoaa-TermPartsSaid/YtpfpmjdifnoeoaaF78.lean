-- Laid by mk.py (a program of this session) over the seat's translation.
import Derived.Test.YtpfpmjdifnoeoaaF0
import Derived.Test.YtpfpmjdifnoeoaaB1
import Derived.Test.YtpfpmjdifnoeoaaB2
namespace Go.Proofs.Ytpfpmjdifnoeoaa.F
open Go.RowKit Go.Proofs.YtpfpmjdifnoeoaaW.PrintWords Go.Proofs.YtpfpmjdifnoeoaaW.PrintLast Go.Proofs.YtpfpmjdifnoeoaaW.PrintMore
attribute [local go_sem] max2_int min2_int max_two min_two max_three min_three max_four min_four
set_option linter.unusedVariables false
set_option linter.unusedSimpArgs false

/-! ### gemotlaw1_shown: function 78 -/
/-! #### gemotlaw1_shown_p: function 78 -/
def gemotlaw1_shown_p.f  : Option (Bool) := (term_Gen.f).bind fun t1001 => ((term_Name.f 2).bind fun t1002 => ((term_Power.f t1001 t1002).bind fun bt1003 => ((term_Name.f 1).bind fun t1005 => ((term_Power.f bt1003.1 t1005).bind fun bt1006 => (if bt1003.2 = 0 then (if bt1006.2 = 0 then (some (bt1006.1.toList == ([101, 2, 110, 0, 0, 0, 0, 0, 0, 0, 1, 110, 0, 0, 0, 0, 0, 0, 0, 2] : List UInt8))) else (some false)) else (some false))))))
set_option maxHeartbeats 8000000 in
set_option maxRecDepth 100000 in
theorem gemotlaw1_shown_p.calls  (r : Bool) (w : World) (h : gemotlaw1_shown_p.f  = some r) :
    Calls Try.prog 78 #[] w fun e w' => e = .returned (.bool r) ∧ Below w.heap.size w w' := by
  have HB := Aside0.mk (Below.refl w.heap.size w)
  have H : ((term_Gen.f).bind fun t1001 => ((term_Name.f 2).bind fun t1002 => ((term_Power.f t1001 t1002).bind fun bt1003 => ((term_Name.f 1).bind fun t1005 => ((term_Power.f bt1003.1 t1005).bind fun bt1006 => (if bt1003.2 = 0 then (if bt1006.2 = 0 then (some (bt1006.1.toList == ([101, 2, 110, 0, 0, 0, 0, 0, 0, 0, 1, 110, 0, 0, 0, 0, 0, 0, 0, 2] : List UInt8))) else (some false)) else (some false))))))) = some r := h
  clear h
  replace H := Option.bind_eq_some_iff.mp H
  obtain ⟨t1001, A10, H⟩ := H
  replace H : ((term_Name.f 2).bind fun t1002 => ((term_Power.f t1001 t1002).bind fun bt1003 => ((term_Name.f 1).bind fun t1005 => ((term_Power.f bt1003.1 t1005).bind fun bt1006 => (if bt1003.2 = 0 then (if bt1006.2 = 0 then (some (bt1006.1.toList == ([101, 2, 110, 0, 0, 0, 0, 0, 0, 0, 1, 110, 0, 0, 0, 0, 0, 0, 0, 2] : List UInt8))) else (some false)) else (some false)))))) = some r := H
  have A1 := Aside0.mk A10
  clear A10
  replace H := Option.bind_eq_some_iff.mp H
  obtain ⟨t1002, A20, H⟩ := H
  replace H : ((term_Power.f t1001 t1002).bind fun bt1003 => ((term_Name.f 1).bind fun t1005 => ((term_Power.f bt1003.1 t1005).bind fun bt1006 => (if bt1003.2 = 0 then (if bt1006.2 = 0 then (some (bt1006.1.toList == ([101, 2, 110, 0, 0, 0, 0, 0, 0, 0, 1, 110, 0, 0, 0, 0, 0, 0, 0, 2] : List UInt8))) else (some false)) else (some false))))) = some r := H
  have A2 := Aside0.mk A20
  clear A20
  replace H := Option.bind_eq_some_iff.mp H
  obtain ⟨⟨t1003, t1004⟩, A30, H⟩ := H
  replace H : ((term_Name.f 1).bind fun t1005 => ((term_Power.f t1003 t1005).bind fun bt1006 => (if t1004 = 0 then (if bt1006.2 = 0 then (some (bt1006.1.toList == ([101, 2, 110, 0, 0, 0, 0, 0, 0, 0, 1, 110, 0, 0, 0, 0, 0, 0, 0, 2] : List UInt8))) else (some false)) else (some false)))) = some r := H
  have A3 := Aside0.mk A30
  clear A30
  replace H := Option.bind_eq_some_iff.mp H
  obtain ⟨t1005, A40, H⟩ := H
  replace H : ((term_Power.f t1003 t1005).bind fun bt1006 => (if t1004 = 0 then (if bt1006.2 = 0 then (some (bt1006.1.toList == ([101, 2, 110, 0, 0, 0, 0, 0, 0, 0, 1, 110, 0, 0, 0, 0, 0, 0, 0, 2] : List UInt8))) else (some false)) else (some false))) = some r := H
  have A4 := Aside0.mk A40
  clear A40
  replace H := Option.bind_eq_some_iff.mp H
  obtain ⟨⟨t1006, t1007⟩, A50, H⟩ := H
  replace H : (if t1004 = 0 then (if t1007 = 0 then (some (t1006.toList == ([101, 2, 110, 0, 0, 0, 0, 0, 0, 0, 1, 110, 0, 0, 0, 0, 0, 0, 0, 2] : List UInt8))) else (some false)) else (some false)) = some r := H
  have A5 := Aside0.mk A50
  clear A50
  by_cases c6 : t1004 = 0
  · rw [if_pos c6] at H
    have c6b0 : (t1004 == 0) = true := beq_iff_eq.mpr c6
    have c6b1 : (t1004 != 0) = false := bne_eq_false_iff_eq.mpr c6
    clear c6
    by_cases c7 : t1007 = 0
    · rw [if_pos c7] at H
      have c7b0 : (t1007 == 0) = true := beq_iff_eq.mpr c7
      have c7b1 : (t1007 != 0) = false := bne_eq_false_iff_eq.mpr c7
      clear c7
      obtain rfl := Option.some.inj H
      go_enter Try.func78, Try.ntmps78
      go_wp2_with (first | ((with_reducible refine gate_callee (f := 86) rfl ?_); refine goesL_ (some 6) rfl rfl Try.func86 (by kernel_rfl) rfl #[] rfl (by (try simp only [List.map_toArray, List.map_cons, List.map_nil]); first | done | rfl | (simp only [List.length_drop, List.length_take]; rfl)) ?_; (with_reducible refine (term_Gen.calls  t1001 _ A1.out).mono ?_); rintro e w' ⟨rfl, ⟨nd, rfl⟩⟩; refine ⟨_, rfl, ?_⟩) | ((with_reducible refine gate_callee (f := 65) rfl ?_); refine goesL_ (some 7) rfl rfl Try.func65 (by kernel_rfl) rfl #[.int .u64 2] rfl (by (try simp only [List.map_toArray, List.map_cons, List.map_nil]); first | done | rfl | (simp only [List.length_drop, List.length_take]; rfl)) ?_; (with_reducible refine (term_Name.calls 2 t1002 _ A2.out).mono ?_); rintro e w8 ⟨rfl, hb⟩; refine ⟨_, rfl, ?_⟩; have n0_ := Aside0.mk (below_step (by repeat (first | (with_reducible first | exact HB.out | apply below_alloc | apply pw_below_drewN | apply below_drew1) | exact HB.out)) hb); clear HB; have HB := n0_; clear n0_; (try clear hb); (try clear hb2); (try clear hk); (try clear hi)) | ((with_reducible refine gate_callee (f := 88) rfl ?_); refine goesL_ (some 8) rfl rfl Try.func88 (by kernel_rfl) rfl #[.string t1001, .string t1002] rfl (by (try simp only [List.map_toArray, List.map_cons, List.map_nil]); first | done | rfl | (simp only [List.length_drop, List.length_take]; rfl)) ?_; (with_reducible refine (term_Power.calls t1001 t1002 t1003 t1004 _ A3.out).mono ?_); rintro e w9 ⟨rfl, hb⟩; refine ⟨_, rfl, ?_⟩; have n0_ := Aside0.mk (below_step (by repeat (first | (with_reducible first | exact HB.out | apply below_alloc | apply pw_below_drewN | apply below_drew1) | exact HB.out)) hb); clear HB; have HB := n0_; clear n0_; (try clear hb); (try clear hb2); (try clear hk); (try clear hi)) | ((with_reducible refine gate_callee (f := 65) rfl ?_); refine goesL_ (some 13) rfl rfl Try.func65 (by kernel_rfl) rfl #[.int .u64 1] rfl (by (try simp only [List.map_toArray, List.map_cons, List.map_nil]); first | done | rfl | (simp only [List.length_drop, List.length_take]; rfl)) ?_; (with_reducible refine (term_Name.calls 1 t1005 _ A4.out).mono ?_); rintro e w10 ⟨rfl, hb⟩; refine ⟨_, rfl, ?_⟩; have n0_ := Aside0.mk (below_step (by repeat (first | (with_reducible first | exact HB.out | apply below_alloc | apply pw_below_drewN | apply below_drew1) | exact HB.out)) hb); clear HB; have HB := n0_; clear n0_; (try clear hb); (try clear hb2); (try clear hk); (try clear hi)) | ((with_reducible refine gate_callee (f := 88) rfl ?_); refine goesL_ (some 14) rfl rfl Try.func88 (by kernel_rfl) rfl #[.string t1003, .string t1005] rfl (by (try simp only [List.map_toArray, List.map_cons, List.map_nil]); first | done | rfl | (simp only [List.length_drop, List.length_take]; rfl)) ?_; (with_reducible refine (term_Power.calls t1003 t1005 t1006 t1007 _ A5.out).mono ?_); rintro e w11 ⟨rfl, hb⟩; refine ⟨_, rfl, ?_⟩; have n0_ := Aside0.mk (below_step (by repeat (first | (with_reducible first | exact HB.out | apply below_alloc | apply pw_below_drewN | apply below_drew1) | exact HB.out)) hb); clear HB; have HB := n0_; clear n0_; (try clear hb); (try clear hb2); (try clear hk); (try clear hi)))
      go_ret
      exact ⟨by first | rfl | (simp [errW_none, errW_some] <;> rfl) | (simp [*, errW_none, errW_some] <;> rfl), by repeat (first | (with_reducible first | exact HB.out | apply below_alloc | apply pw_below_drewN | apply below_drew1) | exact HB.out)⟩
    · rw [if_neg c7] at H
      have c7b0 : (t1007 == 0) = false := beq_eq_false_iff_ne.mpr c7
      have c7b1 : (t1007 != 0) = true := bne_iff_ne.mpr c7
      obtain rfl := Option.some.inj H
      go_enter Try.func78, Try.ntmps78
      go_wp2_with (first | ((with_reducible refine gate_callee (f := 86) rfl ?_); refine goesL_ (some 6) rfl rfl Try.func86 (by kernel_rfl) rfl #[] rfl (by (try simp only [List.map_toArray, List.map_cons, List.map_nil]); first | done | rfl | (simp only [List.length_drop, List.length_take]; rfl)) ?_; (with_reducible refine (term_Gen.calls  t1001 _ A1.out).mono ?_); rintro e w' ⟨rfl, ⟨nd, rfl⟩⟩; refine ⟨_, rfl, ?_⟩) | ((with_reducible refine gate_callee (f := 65) rfl ?_); refine goesL_ (some 7) rfl rfl Try.func65 (by kernel_rfl) rfl #[.int .u64 2] rfl (by (try simp only [List.map_toArray, List.map_cons, List.map_nil]); first | done | rfl | (simp only [List.length_drop, List.length_take]; rfl)) ?_; (with_reducible refine (term_Name.calls 2 t1002 _ A2.out).mono ?_); rintro e w12 ⟨rfl, hb⟩; refine ⟨_, rfl, ?_⟩; have n0_ := Aside0.mk (below_step (by repeat (first | (with_reducible first | exact HB.out | apply below_alloc | apply pw_below_drewN | apply below_drew1) | exact HB.out)) hb); clear HB; have HB := n0_; clear n0_; (try clear hb); (try clear hb2); (try clear hk); (try clear hi)) | ((with_reducible refine gate_callee (f := 88) rfl ?_); refine goesL_ (some 8) rfl rfl Try.func88 (by kernel_rfl) rfl #[.string t1001, .string t1002] rfl (by (try simp only [List.map_toArray, List.map_cons, List.map_nil]); first | done | rfl | (simp only [List.length_drop, List.length_take]; rfl)) ?_; (with_reducible refine (term_Power.calls t1001 t1002 t1003 t1004 _ A3.out).mono ?_); rintro e w13 ⟨rfl, hb⟩; refine ⟨_, rfl, ?_⟩; have n0_ := Aside0.mk (below_step (by repeat (first | (with_reducible first | exact HB.out | apply below_alloc | apply pw_below_drewN | apply below_drew1) | exact HB.out)) hb); clear HB; have HB := n0_; clear n0_; (try clear hb); (try clear hb2); (try clear hk); (try clear hi)) | ((with_reducible refine gate_callee (f := 65) rfl ?_); refine goesL_ (some 13) rfl rfl Try.func65 (by kernel_rfl) rfl #[.int .u64 1] rfl (by (try simp only [List.map_toArray, List.map_cons, List.map_nil]); first | done | rfl | (simp only [List.length_drop, List.length_take]; rfl)) ?_; (with_reducible refine (term_Name.calls 1 t1005 _ A4.out).mono ?_); rintro e w14 ⟨rfl, hb⟩; refine ⟨_, rfl, ?_⟩; have n0_ := Aside0.mk (below_step (by repeat (first | (with_reducible first | exact HB.out | apply below_alloc | apply pw_below_drewN | apply below_drew1) | exact HB.out)) hb); clear HB; have HB := n0_; clear n0_; (try clear hb); (try clear hb2); (try clear hk); (try clear hi)) | ((with_reducible refine gate_callee (f := 88) rfl ?_); refine goesL_ (some 14) rfl rfl Try.func88 (by kernel_rfl) rfl #[.string t1003, .string t1005] rfl (by (try simp only [List.map_toArray, List.map_cons, List.map_nil]); first | done | rfl | (simp only [List.length_drop, List.length_take]; rfl)) ?_; (with_reducible refine (term_Power.calls t1003 t1005 t1006 t1007 _ A5.out).mono ?_); rintro e w15 ⟨rfl, hb⟩; refine ⟨_, rfl, ?_⟩; have n0_ := Aside0.mk (below_step (by repeat (first | (with_reducible first | exact HB.out | apply below_alloc | apply pw_below_drewN | apply below_drew1) | exact HB.out)) hb); clear HB; have HB := n0_; clear n0_; (try clear hb); (try clear hb2); (try clear hk); (try clear hi)))
      go_ret
      exact ⟨by first | rfl | (simp [errW_none, errW_some] <;> rfl) | (simp [*, errW_none, errW_some] <;> rfl), by repeat (first | (with_reducible first | exact HB.out | apply below_alloc | apply pw_below_drewN | apply below_drew1) | exact HB.out)⟩
  · rw [if_neg c6] at H
    have c6b0 : (t1004 == 0) = false := beq_eq_false_iff_ne.mpr c6
    have c6b1 : (t1004 != 0) = true := bne_iff_ne.mpr c6
    obtain rfl := Option.some.inj H
    go_enter Try.func78, Try.ntmps78
    go_wp2_with (first | ((with_reducible refine gate_callee (f := 86) rfl ?_); refine goesL_ (some 6) rfl rfl Try.func86 (by kernel_rfl) rfl #[] rfl (by (try simp only [List.map_toArray, List.map_cons, List.map_nil]); first | done | rfl | (simp only [List.length_drop, List.length_take]; rfl)) ?_; (with_reducible refine (term_Gen.calls  t1001 _ A1.out).mono ?_); rintro e w' ⟨rfl, ⟨nd, rfl⟩⟩; refine ⟨_, rfl, ?_⟩) | ((with_reducible refine gate_callee (f := 65) rfl ?_); refine goesL_ (some 7) rfl rfl Try.func65 (by kernel_rfl) rfl #[.int .u64 2] rfl (by (try simp only [List.map_toArray, List.map_cons, List.map_nil]); first | done | rfl | (simp only [List.length_drop, List.length_take]; rfl)) ?_; (with_reducible refine (term_Name.calls 2 t1002 _ A2.out).mono ?_); rintro e w16 ⟨rfl, hb⟩; refine ⟨_, rfl, ?_⟩; have n0_ := Aside0.mk (below_step (by repeat (first | (with_reducible first | exact HB.out | apply below_alloc | apply pw_below_drewN | apply below_drew1) | exact HB.out)) hb); clear HB; have HB := n0_; clear n0_; (try clear hb); (try clear hb2); (try clear hk); (try clear hi)) | ((with_reducible refine gate_callee (f := 88) rfl ?_); refine goesL_ (some 8) rfl rfl Try.func88 (by kernel_rfl) rfl #[.string t1001, .string t1002] rfl (by (try simp only [List.map_toArray, List.map_cons, List.map_nil]); first | done | rfl | (simp only [List.length_drop, List.length_take]; rfl)) ?_; (with_reducible refine (term_Power.calls t1001 t1002 t1003 t1004 _ A3.out).mono ?_); rintro e w17 ⟨rfl, hb⟩; refine ⟨_, rfl, ?_⟩; have n0_ := Aside0.mk (below_step (by repeat (first | (with_reducible first | exact HB.out | apply below_alloc | apply pw_below_drewN | apply below_drew1) | exact HB.out)) hb); clear HB; have HB := n0_; clear n0_; (try clear hb); (try clear hb2); (try clear hk); (try clear hi)) | ((with_reducible refine gate_callee (f := 65) rfl ?_); refine goesL_ (some 13) rfl rfl Try.func65 (by kernel_rfl) rfl #[.int .u64 1] rfl (by (try simp only [List.map_toArray, List.map_cons, List.map_nil]); first | done | rfl | (simp only [List.length_drop, List.length_take]; rfl)) ?_; (with_reducible refine (term_Name.calls 1 t1005 _ A4.out).mono ?_); rintro e w18 ⟨rfl, hb⟩; refine ⟨_, rfl, ?_⟩; have n0_ := Aside0.mk (below_step (by repeat (first | (with_reducible first | exact HB.out | apply below_alloc | apply pw_below_drewN | apply below_drew1) | exact HB.out)) hb); clear HB; have HB := n0_; clear n0_; (try clear hb); (try clear hb2); (try clear hk); (try clear hi)) | ((with_reducible refine gate_callee (f := 88) rfl ?_); refine goesL_ (some 14) rfl rfl Try.func88 (by kernel_rfl) rfl #[.string t1003, .string t1005] rfl (by (try simp only [List.map_toArray, List.map_cons, List.map_nil]); first | done | rfl | (simp only [List.length_drop, List.length_take]; rfl)) ?_; (with_reducible refine (term_Power.calls t1003 t1005 t1006 t1007 _ A5.out).mono ?_); rintro e w19 ⟨rfl, hb⟩; refine ⟨_, rfl, ?_⟩; have n0_ := Aside0.mk (below_step (by repeat (first | (with_reducible first | exact HB.out | apply below_alloc | apply pw_below_drewN | apply below_drew1) | exact HB.out)) hb); clear HB; have HB := n0_; clear n0_; (try clear hb); (try clear hb2); (try clear hk); (try clear hi)))
    go_ret
    exact ⟨by first | rfl | (simp [errW_none, errW_some] <;> rfl) | (simp [*, errW_none, errW_some] <;> rfl), by repeat (first | (with_reducible first | exact HB.out | apply below_alloc | apply pw_below_drewN | apply below_drew1) | exact HB.out)⟩

open Go.Proofs.Ytpfpmjdifnoeoaa.Pure
def gemotlaw1_shown.f : Option Bool := some true
theorem gemotlaw1_shown.eq : gemotlaw1_shown_p.f = some true := by
  have hn : ∀ x ∈ [nameF 2], Tm x ∧ depF x ≤ 399 := mem1 ⟨(name_leaf 2).tm.1, by rw [(name_leaf 2).tm.2]; decide⟩
  have h1 : powF ⟨#[103]⟩ (nameF 2) = (elmOf [nameF 2], 0) := by
    rw [pow_eq gen_elem.1 ((name_leaf 2).right (by rw [name_size]; omega)), gen_elem.2, if_neg (by decide), List.nil_append, whole_right]
    exact node_right (elmOf_node (by simp) (by decide) hn) (by rw [elmOf_size (by simp), cat1]; show 2 + 9 ≤ _; omega)
  have h2 := elem_of_node (l := [nameF 2]) (by simp) (by decide) hn (by rw [elmOf_size (by simp), cat1]; show 2 + 9 ≤ _; omega)
  have hs : sortB [nameF 2] = [nameF 2] := sortB_of_sorted (List.pairwise_singleton _ _)
  rw [hs] at h2
  have hn2 : ∀ x ∈ [nameF 2, nameF 1], Tm x ∧ depF x ≤ 399 := mem2 ⟨(name_leaf 2).tm.1, by rw [(name_leaf 2).tm.2]; decide⟩ ⟨(name_leaf 1).tm.1, by rw [(name_leaf 1).tm.2]; decide⟩
  have h3 : powF (elmOf [nameF 2]) (nameF 1) = (elmOf [nameF 2, nameF 1], 0) := by
    rw [pow_eq h2.1 ((name_leaf 1).right (by rw [name_size]; omega)), h2.2, if_neg (by decide), whole_right]
    · rfl
    · exact node_right (elmOf_node (by simp) (by decide) hn2) (by rw [elmOf_size (by simp), show [nameF 2] ++ [nameF 1] = [nameF 2, nameF 1] from rfl, cat2, ByteArray.size_append]; show 2 + (9 + 9) ≤ _; omega)
  have hs2 : sortB [nameF 2, nameF 1] = [nameF 1, nameF 2] := by
    have : bl (nameF 1) ≤ bl (nameF 2) := by decide
    rw [sortB_of_perm (List.Perm.swap (nameF 1) (nameF 2) [])]
    exact sortB_of_sorted (List.pairwise_cons.mpr ⟨fun y hy => by rw [List.mem_singleton.mp hy]; exact this, List.pairwise_singleton _ _⟩)
  have h4 : (elmOf [nameF 2, nameF 1]).toList = [101, 2, 110, 0, 0, 0, 0, 0, 0, 0, 1, 110, 0, 0, 0, 0, 0, 0, 0, 2] := by
    unfold elmOf
    rw [if_neg (by simp), hs2, cat2, ByteArray.toList_eq, ByteArray.data_append, ByteArray.data_append]
    rfl
  unfold gemotlaw1_shown_p.f term_Gen.f term_Name.f term_Power.f
  simp only [Option.bind_some]
  rw [if_pos ⟨by decide, by rw [name_size]; omega⟩, h1]
  simp only [Option.bind_some]
  rw [if_pos ⟨by rw [elmOf_size (by simp), cat1]; show 2 + 9 < _; omega, by rw [name_size]; omega⟩, h3]
  simp only [Option.bind_some, if_true]
  rw [h4]
  rfl
theorem gemotlaw1_shown.calls (r : Bool) (w : World) (h : gemotlaw1_shown.f = some r) :
    Calls Try.prog 78 #[] w fun e w' => e = .returned (.bool r) ∧ Below w.heap.size w w' :=
  gemotlaw1_shown_p.calls r w (gemotlaw1_shown.eq.trans h)

end Go.Proofs.Ytpfpmjdifnoeoaa.F
