-- Laid by mk.py (a program of this session) over the seat's translation.
import Derived.Test.YtppimpadfgldjaaF0
import Derived.Test.YtppimpadfgldjaaB3
namespace Go.Proofs.Ytppimpadfgldjaa.F
open Go.RowKit Go.Proofs.YtppimpadfgldjaaW.PrintWords Go.Proofs.YtppimpadfgldjaaW.PrintLast Go.Proofs.YtppimpadfgldjaaW.PrintMore
attribute [local go_sem] max2_int min2_int max_two min_two max_three min_three max_four min_four
set_option linter.unusedVariables false
set_option linter.unusedSimpArgs false

/-! ### gemotlaw2_shown: function 70 -/
/-! #### gemotlaw2_shown_p: function 70 -/
def gemotlaw2_shown_p.f  : Option (Bool) := (parts_Of.f (⟨#[112, 103, 104, 103]⟩ : ByteArray)).bind fun t1001 => (if (t1001.length : Int) = 2 then (if 0 < (t1001.length : Int) then (if (rdOf ByteArray.empty t1001 0).toList = ([103] : List UInt8) then (if 1 < (t1001.length : Int) then (some ((rdOf ByteArray.empty t1001 1).toList == ([104, 103] : List UInt8))) else (none)) else (some false)) else (none)) else (some false))
set_option maxHeartbeats 8000000 in
set_option maxRecDepth 100000 in
theorem gemotlaw2_shown_p.calls  (r : Bool) (w : World) (h : gemotlaw2_shown_p.f  = some r) :
    Calls Try.prog 70 #[] w fun e w' => e = .returned (.bool r) ∧ Below w.heap.size w w' := by
  have HB := Aside0.mk (Below.refl w.heap.size w)
  have H : ((parts_Of.f (⟨#[112, 103, 104, 103]⟩ : ByteArray)).bind fun t1001 => (if (t1001.length : Int) = 2 then (if 0 < (t1001.length : Int) then (if (rdOf ByteArray.empty t1001 0).toList = ([103] : List UInt8) then (if 1 < (t1001.length : Int) then (some ((rdOf ByteArray.empty t1001 1).toList == ([104, 103] : List UInt8))) else (none)) else (some false)) else (none)) else (some false))) = some r := h
  clear h
  replace H := Option.bind_eq_some_iff.mp H
  obtain ⟨t1001, A10, H⟩ := H
  replace H : (if (t1001.length : Int) = 2 then (if 0 < (t1001.length : Int) then (if (rdOf ByteArray.empty t1001 0).toList = ([103] : List UInt8) then (if 1 < (t1001.length : Int) then (some ((rdOf ByteArray.empty t1001 1).toList == ([104, 103] : List UInt8))) else (none)) else (some false)) else (none)) else (some false)) = some r := H
  have A1 := Aside0.mk A10
  clear A10
  by_cases c2 : (t1001.length : Int) = 2
  · rw [if_pos c2] at H
    have c2b0 : ((t1001.length : Int) == 2) = true := beq_iff_eq.mpr c2
    have c2b1 : ((t1001.length : Int) != 2) = false := bne_eq_false_iff_eq.mpr c2
    clear c2
    by_cases c3 : 0 < (t1001.length : Int)
    · rw [if_pos c3] at H
      have c3b0 : decide (0 < (t1001.length : Int)) = true := decide_eq_true c3
      have c3b1 : decide (0 < t1001.length) = true := decide_eq_true (by omega)
      clear c3
      by_cases c4 : (rdOf ByteArray.empty t1001 0).toList = ([103] : List UInt8)
      · rw [if_pos c4] at H
        have c4b0 : ((rdOf ByteArray.empty t1001 0).toList == ([103] : List UInt8)) = true := beq_iff_eq.mpr c4
        have c4b1 : ((rdOf ByteArray.empty t1001 0).toList != ([103] : List UInt8)) = false := bne_eq_false_iff_eq.mpr c4
        clear c4
        by_cases c5 : 1 < (t1001.length : Int)
        · rw [if_pos c5] at H
          have c5b0 : decide (1 < (t1001.length : Int)) = true := decide_eq_true c5
          have c5b1 : decide (1 < t1001.length) = true := decide_eq_true (by omega)
          clear c5
          obtain rfl := Option.some.inj H
          go_enter Try.func70, Try.ntmps70
          go_wp2_with (first | ((with_reducible refine gate_callee (f := 74) rfl ?_); refine goesL_ (some 2) rfl rfl Try.func74 (by kernel_rfl) rfl #[.string (⟨#[112, 103, 104, 103]⟩ : ByteArray)] rfl (by (try simp only [List.map_toArray, List.map_cons, List.map_nil]); first | done | rfl | (simp only [List.length_drop, List.length_take]; rfl)) ?_; (with_reducible refine (parts_Of.calls (⟨#[112, 103, 104, 103]⟩ : ByteArray) t1001 _ A1.out).mono ?_); rintro e w6 ⟨v1002, rfl, ho0, hb⟩; refine ⟨_, rfl, ?_⟩; have n0_ := Aside0.mk (Kd.R_lower ho0 (below_size (by repeat with_reducible first | exact HB.out | apply below_alloc | apply pw_below_drewN | apply below_drew1))); have n1_ := Aside0.mk (below_step (by repeat with_reducible first | exact HB.out | apply below_alloc | apply pw_below_drewN | apply below_drew1) hb); clear HB; have HO1003 := n0_; have HB := n1_; clear n0_ n1_; (try clear hb); (try clear ho0); obtain ⟨Ao7, co7, eo7⟩ := Kd.R_slice HO1003.out; subst eo7; have p1004 : 0 ≤ (0 : Int) := (by omega); have q1004 : 0 < (t1001.length : Int) := of_decide_eq_true (by assumption); obtain ⟨ad1004, e1004, hx1004_0⟩ := Kd.at_string (Kd.R_reads' HO1003.out).2.2 0 p1004 q1004; cases e1004; have qi1004 : (0 < t1001.length) = True := eq_true (by omega); (try rw [show ((0 : Int)).toNat = 0 from rfl] at hx1004_0); (try rw [Addr.add_zero'] at hx1004_0); replace p1004 := eq_true p1004; replace q1004 := eq_true q1004; have p1005 : 0 ≤ (1 : Int) := (by omega); have q1005 : 1 < (t1001.length : Int) := of_decide_eq_true (by assumption); obtain ⟨ad1005, e1005, hx1005_0⟩ := Kd.at_string (Kd.R_reads' HO1003.out).2.2 1 p1005 q1005; obtain rfl : ad1004 = ad1005 := (by injection e1005); (try simp only [show (1 : Int).toNat = 1 from rfl, Nat.reduceMul, Nat.reduceEqDiff, Go.Addr.add, ↓reduceIte] at hx1005_0); have qi1005 : (1 < t1001.length) = True := eq_true (by omega); (try rw [show ((1 : Int)).toNat = 1 from rfl] at hx1005_0); replace p1005 := eq_true p1005; replace q1005 := eq_true q1005))
          go_ret
          exact ⟨by first | rfl | (simp [errW_none, errW_some] <;> rfl) | (simp [*, errW_none, errW_some] <;> rfl), by repeat (first | (with_reducible first | exact HB.out | apply below_alloc | apply pw_below_drewN | apply below_drew1) | exact HB.out)⟩
        · rw [if_neg c5] at H
          exact absurd H (by simp)
      · rw [if_neg c4] at H
        have c4b0 : ((rdOf ByteArray.empty t1001 0).toList == ([103] : List UInt8)) = false := beq_eq_false_iff_ne.mpr c4
        have c4b1 : ((rdOf ByteArray.empty t1001 0).toList != ([103] : List UInt8)) = true := bne_iff_ne.mpr c4
        obtain rfl := Option.some.inj H
        go_enter Try.func70, Try.ntmps70
        go_wp2_with (first | ((with_reducible refine gate_callee (f := 74) rfl ?_); refine goesL_ (some 2) rfl rfl Try.func74 (by kernel_rfl) rfl #[.string (⟨#[112, 103, 104, 103]⟩ : ByteArray)] rfl (by (try simp only [List.map_toArray, List.map_cons, List.map_nil]); first | done | rfl | (simp only [List.length_drop, List.length_take]; rfl)) ?_; (with_reducible refine (parts_Of.calls (⟨#[112, 103, 104, 103]⟩ : ByteArray) t1001 _ A1.out).mono ?_); rintro e w8 ⟨v1002, rfl, ho0, hb⟩; refine ⟨_, rfl, ?_⟩; have n0_ := Aside0.mk (Kd.R_lower ho0 (below_size (by repeat with_reducible first | exact HB.out | apply below_alloc | apply pw_below_drewN | apply below_drew1))); have n1_ := Aside0.mk (below_step (by repeat with_reducible first | exact HB.out | apply below_alloc | apply pw_below_drewN | apply below_drew1) hb); clear HB; have HO1003 := n0_; have HB := n1_; clear n0_ n1_; (try clear hb); (try clear ho0); obtain ⟨Ao9, co9, eo9⟩ := Kd.R_slice HO1003.out; subst eo9; have p1004 : 0 ≤ (0 : Int) := (by omega); have q1004 : 0 < (t1001.length : Int) := of_decide_eq_true (by assumption); obtain ⟨ad1004, e1004, hx1004_0⟩ := Kd.at_string (Kd.R_reads' HO1003.out).2.2 0 p1004 q1004; cases e1004; have qi1004 : (0 < t1001.length) = True := eq_true (by omega); (try rw [show ((0 : Int)).toNat = 0 from rfl] at hx1004_0); (try rw [Addr.add_zero'] at hx1004_0); replace p1004 := eq_true p1004; replace q1004 := eq_true q1004))
        go_ret
        exact ⟨by first | rfl | (simp [errW_none, errW_some] <;> rfl) | (simp [*, errW_none, errW_some] <;> rfl), by repeat (first | (with_reducible first | exact HB.out | apply below_alloc | apply pw_below_drewN | apply below_drew1) | exact HB.out)⟩
    · rw [if_neg c3] at H
      exact absurd H (by simp)
  · rw [if_neg c2] at H
    have c2b0 : ((t1001.length : Int) == 2) = false := beq_eq_false_iff_ne.mpr c2
    have c2b1 : ((t1001.length : Int) != 2) = true := bne_iff_ne.mpr c2
    obtain rfl := Option.some.inj H
    go_enter Try.func70, Try.ntmps70
    go_wp2_with (first | ((with_reducible refine gate_callee (f := 74) rfl ?_); refine goesL_ (some 2) rfl rfl Try.func74 (by kernel_rfl) rfl #[.string (⟨#[112, 103, 104, 103]⟩ : ByteArray)] rfl (by (try simp only [List.map_toArray, List.map_cons, List.map_nil]); first | done | rfl | (simp only [List.length_drop, List.length_take]; rfl)) ?_; (with_reducible refine (parts_Of.calls (⟨#[112, 103, 104, 103]⟩ : ByteArray) t1001 _ A1.out).mono ?_); rintro e w10 ⟨v1002, rfl, ho0, hb⟩; refine ⟨_, rfl, ?_⟩; have n0_ := Aside0.mk (Kd.R_lower ho0 (below_size (by repeat with_reducible first | exact HB.out | apply below_alloc | apply pw_below_drewN | apply below_drew1))); have n1_ := Aside0.mk (below_step (by repeat with_reducible first | exact HB.out | apply below_alloc | apply pw_below_drewN | apply below_drew1) hb); clear HB; have HO1003 := n0_; have HB := n1_; clear n0_ n1_; (try clear hb); (try clear ho0); obtain ⟨Ao11, co11, eo11⟩ := Kd.R_slice HO1003.out; subst eo11))
    go_ret
    exact ⟨by first | rfl | (simp [errW_none, errW_some] <;> rfl) | (simp [*, errW_none, errW_some] <;> rfl), by repeat (first | (with_reducible first | exact HB.out | apply below_alloc | apply pw_below_drewN | apply below_drew1) | exact HB.out)⟩

open Go.Proofs.Ytppimpadfgldjaa.Pure
def gemotlaw2_shown.f : Option Bool := some true
theorem gemotlaw2_shown.eq : gemotlaw2_shown_p.f = some true := by
  have hg : Part 1 ⟨#[103]⟩ := gen_leaf.part (by decide) (by decide)
  have hh := hash_made (m := 1) (by decide) (by decide) hg (by decide)
  have h2 : Part 2 (⟨#[104, 103]⟩ : ByteArray) := hh.2
  have h3 := kids_pairM (hg.mono (n := 399) (by decide)) (h2.mono (n := 399) (by decide)) (by decide)
  have h4 : kidsP (⟨#[112, 103, 104, 103]⟩ : ByteArray) = [⟨#[103]⟩, ⟨#[104, 103]⟩] := h3.2.1
  unfold gemotlaw2_shown_p.f parts_Of.f
  have e1 : (⟨#[103]⟩ : ByteArray).toList = [103] := by rw [ByteArray.toList_eq]
  have e2 : (⟨#[104, 103]⟩ : ByteArray).toList = [104, 103] := by rw [ByteArray.toList_eq]
  rw [if_pos (by decide), h4]
  simp only [Option.bind_some]
  rw [if_pos (by decide), if_pos (by decide), show rdOf ByteArray.empty [(⟨#[103]⟩ : ByteArray), ⟨#[104, 103]⟩] 0 = ⟨#[103]⟩ from rfl, show rdOf ByteArray.empty [(⟨#[103]⟩ : ByteArray), ⟨#[104, 103]⟩] 1 = ⟨#[104, 103]⟩ from rfl, if_pos e1, if_pos (by decide), e2]
  rfl
theorem gemotlaw2_shown.calls (r : Bool) (w : World) (h : gemotlaw2_shown.f = some r) :
    Calls Try.prog 70 #[] w fun e w' => e = .returned (.bool r) ∧ Below w.heap.size w w' :=
  gemotlaw2_shown_p.calls r w (gemotlaw2_shown.eq.trans h)

end Go.Proofs.Ytppimpadfgldjaa.F
