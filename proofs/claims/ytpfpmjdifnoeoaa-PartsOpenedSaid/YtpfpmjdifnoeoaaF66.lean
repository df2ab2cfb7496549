-- Laid by mk.py (a program of this session) over the seat's translation.
import Derived.Test.YtpfpmjdifnoeoaaF0
import Derived.Test.YtpfpmjdifnoeoaaF131
import Derived.Test.YtpfpmjdifnoeoaaF99
namespace Go.Proofs.Ytpfpmjdifnoeoaa.F
open Go.RowKit Go.Proofs.YtpfpmjdifnoeoaaW.PrintWords Go.Proofs.YtpfpmjdifnoeoaaW.PrintLast Go.Proofs.YtpfpmjdifnoeoaaW.PrintMore
attribute [local go_sem] max2_int min2_int max_two min_two max_three min_three max_four min_four
set_option linter.unusedVariables false
set_option linter.unusedSimpArgs false

/-! ### term_Right: function 66 -/
/-! #### term_Right_p: function 66 -/
def term_Right_p.f (a0 : ByteArray) : Option (Bool) := (term_Take.f a0).bind fun bt104 => (if bt104.2.2 = 0 then (if bt104.2.1.toList = ([] : List UInt8) then (some (bt104.1.toList == a0.toList)) else (some false)) else (some false))
set_option maxHeartbeats 8000000 in
set_option maxRecDepth 100000 in
theorem term_Right_p.calls (a0 : ByteArray) (r : Bool) (w : World) (h : term_Right_p.f a0 = some r) :
    Calls Try.prog 66 #[.string a0] w fun e w' => e = .returned (.bool r) ∧ Below w.heap.size w w' := by
  have HB := Aside0.mk (Below.refl w.heap.size w)
  have H : ((term_Take.f a0).bind fun bt104 => (if bt104.2.2 = 0 then (if bt104.2.1.toList = ([] : List UInt8) then (some (bt104.1.toList == a0.toList)) else (some false)) else (some false))) = some r := h
  clear h
  replace H := Option.bind_eq_some_iff.mp H
  obtain ⟨⟨t104, t105, t106⟩, A20, H⟩ := H
  replace H : (if t106 = 0 then (if t105.toList = ([] : List UInt8) then (some (t104.toList == a0.toList)) else (some false)) else (some false)) = some r := H
  have A2 := Aside0.mk A20
  clear A20
  by_cases c3 : t106 = 0
  · rw [if_pos c3] at H
    have c3b0 : (t106 == 0) = true := beq_iff_eq.mpr c3
    have c3b1 : (t106 != 0) = false := bne_eq_false_iff_eq.mpr c3
    clear c3
    by_cases c4 : t105.toList = ([] : List UInt8)
    · rw [if_pos c4] at H
      have c4b0 : (t105.toList == ([] : List UInt8)) = true := beq_iff_eq.mpr c4
      have c4b1 : (t105.toList != ([] : List UInt8)) = false := bne_eq_false_iff_eq.mpr c4
      clear c4
      obtain rfl := Option.some.inj H
      go_enter Try.func66, Try.ntmps66
      go_wp2_with (first | ((with_reducible refine gate_callee (f := 99) rfl ?_); refine goesL_ (some 8) rfl rfl Try.func99 (by kernel_rfl) rfl #[.string a0] rfl (by (try simp only [List.map_toArray, List.map_cons, List.map_nil]); first | done | rfl | (simp only [List.length_drop, List.length_take]; rfl)) ?_; (with_reducible refine (term_Take.calls a0 t104 t105 t106 _ A2.out).mono ?_); rintro e w5 ⟨rfl, hb⟩; refine ⟨_, rfl, ?_⟩; have n0_ := Aside0.mk (below_step (by repeat (first | (with_reducible first | exact HB.out | apply below_alloc | apply pw_below_drewN | apply below_drew1) | exact HB.out)) hb); clear HB; have HB := n0_; clear n0_; (try clear hb); (try clear hb2); (try clear hk); (try clear hi)))
      go_ret
      exact ⟨by first | rfl | (simp [errW_none, errW_some] <;> rfl) | (simp [*, errW_none, errW_some] <;> rfl), by repeat (first | (with_reducible first | exact HB.out | apply below_alloc | apply pw_below_drewN | apply below_drew1) | exact HB.out)⟩
    · rw [if_neg c4] at H
      have c4b0 : (t105.toList == ([] : List UInt8)) = false := beq_eq_false_iff_ne.mpr c4
      have c4b1 : (t105.toList != ([] : List UInt8)) = true := bne_iff_ne.mpr c4
      obtain rfl := Option.some.inj H
      go_enter Try.func66, Try.ntmps66
      go_wp2_with (first | ((with_reducible refine gate_callee (f := 99) rfl ?_); refine goesL_ (some 8) rfl rfl Try.func99 (by kernel_rfl) rfl #[.string a0] rfl (by (try simp only [List.map_toArray, List.map_cons, List.map_nil]); first | done | rfl | (simp only [List.length_drop, List.length_take]; rfl)) ?_; (with_reducible refine (term_Take.calls a0 t104 t105 t106 _ A2.out).mono ?_); rintro e w6 ⟨rfl, hb⟩; refine ⟨_, rfl, ?_⟩; have n0_ := Aside0.mk (below_step (by repeat (first | (with_reducible first | exact HB.out | apply below_alloc | apply pw_below_drewN | apply below_drew1) | exact HB.out)) hb); clear HB; have HB := n0_; clear n0_; (try clear hb); (try clear hb2); (try clear hk); (try clear hi)))
      go_ret
      exact ⟨by first | rfl | (simp [errW_none, errW_some] <;> rfl) | (simp [*, errW_none, errW_some] <;> rfl), by repeat (first | (with_reducible first | exact HB.out | apply below_alloc | apply pw_below_drewN | apply below_drew1) | exact HB.out)⟩
  · rw [if_neg c3] at H
    have c3b0 : (t106 == 0) = false := beq_eq_false_iff_ne.mpr c3
    have c3b1 : (t106 != 0) = true := bne_iff_ne.mpr c3
    obtain rfl := Option.some.inj H
    go_enter Try.func66, Try.ntmps66
    go_wp2_with (first | ((with_reducible refine gate_callee (f := 99) rfl ?_); refine goesL_ (some 8) rfl rfl Try.func99 (by kernel_rfl) rfl #[.string a0] rfl (by (try simp only [List.map_toArray, List.map_cons, List.map_nil]); first | done | rfl | (simp only [List.length_drop, List.length_take]; rfl)) ?_; (with_reducible refine (term_Take.calls a0 t104 t105 t106 _ A2.out).mono ?_); rintro e w7 ⟨rfl, hb⟩; refine ⟨_, rfl, ?_⟩; have n0_ := Aside0.mk (below_step (by repeat (first | (with_reducible first | exact HB.out | apply below_alloc | apply pw_below_drewN | apply below_drew1) | exact HB.out)) hb); clear HB; have HB := n0_; clear n0_; (try clear hb); (try clear hb2); (try clear hk); (try clear hi)))
    go_ret
    exact ⟨by first | rfl | (simp [errW_none, errW_some] <;> rfl) | (simp [*, errW_none, errW_some] <;> rfl), by repeat (first | (with_reducible first | exact HB.out | apply below_alloc | apply pw_below_drewN | apply below_drew1) | exact HB.out)⟩

/-- Is a text a right term, whole? -/
def rightB (s : ByteArray) : Bool := decide ((scanF s).2.2 = 0 ∧ (scanF s).1 = s.size ∧ s.size ≤ 20000)
def term_Right.f (s : ByteArray) : Option Bool := if s.size < 9223372036854775000 then some (rightB s) else none
theorem extract_all (s : ByteArray) : s.extract 0 s.size = s := by
  apply ByteArray.ext
  rw [ByteArray.data_extract]
  simp [← ByteArray.size_data]
theorem extract_nil (s : ByteArray) (e : Nat) : (s.extract e s.size).toList = [] ↔ s.size ≤ e := by
  rw [ByteArray.toList_eq, ByteArray.data_extract]
  constructor
  · intro h
    have := congrArg List.length h
    simp [← ByteArray.size_data] at this
    rw [← ByteArray.size_data]
    omega
  · intro h
    apply List.eq_nil_of_length_eq_zero
    simp [← ByteArray.size_data] at h ⊢
    omega
theorem term_Right.eq (s : ByteArray) (hs : s.size < 9223372036854775000) : term_Right_p.f s = term_Right.f s := by
  unfold term_Right_p.f term_Take.f term_Right.f
  rw [if_pos hs, if_pos hs]
  simp only [Option.bind_some]
  unfold takeF rightB
  by_cases c : (scanF s).2.2 = 0
  · have he := scanF_end c
    rw [if_neg (show ¬ ((scanF s).2.2 ≠ 0) from fun h => h c)]
    by_cases c2 : (scanF s).1 > 20000
    · rw [if_pos c2, if_neg (show ¬ ((3 : Int) = 0) by decide)]
      rw [decide_eq_false (by omega)]
    · rw [if_neg c2, if_pos rfl]
      by_cases c3 : s.size ≤ (scanF s).1.toNat
      · rw [if_pos ((extract_nil s _).mpr c3)]
        have c4 : (scanF s).1.toNat = s.size := by omega
        rw [c4, extract_all, decide_eq_true (by omega)]
        simp
      · rw [if_neg (fun h => c3 ((extract_nil s _).mp h)), decide_eq_false (by omega)]
  · rw [if_pos c, if_neg c, decide_eq_false (fun h => c h.1)]
theorem term_Right.calls (a0 : ByteArray) (r : Bool) (w : World) (h : term_Right.f a0 = some r) :
    Calls Try.prog 66 #[.string a0] w fun e w' => e = .returned (.bool r) ∧ Below w.heap.size w w' := by
  have hs : a0.size < 9223372036854775000 := by
    unfold term_Right.f at h
    split at h
    · assumption
    · cases h
  exact term_Right_p.calls a0 r w ((term_Right.eq a0 hs).trans h)

end Go.Proofs.Ytpfpmjdifnoeoaa.F
