/- The law gemot/gemotlaw2.PartsOpened: for every input it returns true, and the input reads behind the call as it read before; no condition. -/
import Derived.Test.YtpfpmjdifnoeoaaF0
import Derived.Test.YtpfpmjdifnoeoaaF66
import Derived.Test.YtpfpmjdifnoeoaaF99
import Derived.Test.YtpfpmjdifnoeoaaF162
import Derived.Test.YtpfpmjdifnoeoaaLParts
import Derived.Test.YtpfpmjdifnoeoaaF74
import Derived.Test.YtpfpmjdifnoeoaaF81
import Derived.Test.YtpfpmjdifnoeoaaLMade
import Derived.Test.YtpfpmjdifnoeoaaF126
import Derived.Test.YtpfpmjdifnoeoaaF131
import Derived.Test.YtpfpmjdifnoeoaaRows
import Derived.Test.YtpfpmjdifnoeoaaRowOpen
import Derived.Test.YtpfpmjdifnoeoaaRowFacts
import Derived.WalkKit
import Derived.ProofKit
import Derived.OpenShut
import Derived.ShutString
import Derived.ChangeOld
import Derived.Below
import Derived.SizedLaws
import Derived.Carry
import Derived.WideShapes
namespace Go.Proofs.Ytpfpmjdifnoeoaa.F
open Go.RowKit Go.Proofs.YtpfpmjdifnoeoaaW.PrintWords Go.Proofs.YtpfpmjdifnoeoaaW.PrintLast Go.Proofs.YtpfpmjdifnoeoaaW.PrintMore
attribute [local go_sem] max2_int min2_int max_two min_two max_three min_three max_four min_four
set_option linter.unusedVariables false
set_option linter.unusedSimpArgs false

/-! ### parts_Kind: function 71 -/
/-! #### parts_Kind_p: function 71 -/
def parts_Kind_p.f (a0 : ByteArray) : Option (Int) := (term_Right.f a0).bind fun t112 => (if t112 = true then (if 0 < (a0.size : Int) then (some (bt a0 0)) else (none)) else (some 0))
set_option maxHeartbeats 8000000 in
set_option maxRecDepth 100000 in
theorem parts_Kind_p.calls (a0 : ByteArray) (r : Int) (w : World) (h : parts_Kind_p.f a0 = some r) :
    Calls Try.prog 71 #[.string a0] w fun e w' => e = .returned (.int .u8 r) ∧ Below w.heap.size w w' := by
  have HB := Aside0.mk (Below.refl w.heap.size w)
  have H : ((term_Right.f a0).bind fun t112 => (if t112 = true then (if 0 < (a0.size : Int) then (some (bt a0 0)) else (none)) else (some 0))) = some r := h
  clear h
  replace H := Option.bind_eq_some_iff.mp H
  obtain ⟨t112, A20, H⟩ := H
  replace H : (if t112 = true then (if 0 < (a0.size : Int) then (some (bt a0 0)) else (none)) else (some 0)) = some r := H
  have A2 := Aside0.mk A20
  clear A20
  by_cases c3 : t112 = true
  · subst c3
    have H1 : (if 0 < (a0.size : Int) then (some (bt a0 0)) else (none)) = some r := by rw [if_pos rfl] at H; exact H
    clear H
    have H := H1
    clear H1
    by_cases c4 : 0 < (a0.size : Int)
    · rw [if_pos c4] at H
      have c4b0 : decide (0 < (a0.size : Int)) = true := decide_eq_true c4
      have c4b1 : decide (0 < a0.size) = true := decide_eq_true (by omega)
      clear c4
      obtain rfl := Option.some.inj H
      go_enter Try.func71, Try.ntmps71
      go_wp2_with (first | ((with_reducible refine gate_callee (f := 66) rfl ?_); refine goesL_ (some 4) rfl rfl Try.func66 (by kernel_rfl) rfl #[.string a0] rfl (by (try simp only [List.map_toArray, List.map_cons, List.map_nil]); first | done | rfl | (simp only [List.length_drop, List.length_take]; rfl)) ?_; (with_reducible refine (term_Right.calls a0 true _ A2.out).mono ?_); rintro e w6 ⟨rfl, hb⟩; refine ⟨_, rfl, ?_⟩; have n0_ := Aside0.mk (below_step (by repeat (first | (with_reducible first | exact HB.out | apply below_alloc | apply pw_below_drewN | apply below_drew1) | exact HB.out)) hb); clear HB; have HB := n0_; clear n0_; (try clear hb); (try clear hb2); (try clear hk); (try clear hi); have p5 : 0 ≤ (0 : Int) := (by omega); have q5 : 0 < a0.size := (by have : (0 : Int) < (a0.size : Int) := of_decide_eq_true (by first | (with_reducible assumption) | assumption); omega); have hx5 : ∀ h : 0 < a0.size, ((a0[0]'h).toNat : Int) = bt a0 0 := bt_at a0 0; clear p5; have qi5 : (0 < (a0.size : Int)) = True := eq_true (of_decide_eq_true (by first | (with_reducible assumption) | assumption)); replace q5 := eq_true q5))
      go_ret
      exact ⟨by first | rfl | (simp [errW_none, errW_some] <;> rfl) | (simp [*, errW_none, errW_some] <;> rfl), by repeat (first | (with_reducible first | exact HB.out | apply below_alloc | apply pw_below_drewN | apply below_drew1) | exact HB.out)⟩
    · rw [if_neg c4] at H
      exact absurd H (by simp)
  · replace c3 := Bool.eq_false_iff.mpr c3
    subst c3
    have H1 : (some 0) = some r := by rw [if_neg (show ¬ (false = true) by decide)] at H; exact H
    clear H
    have H := H1
    clear H1
    obtain rfl := Option.some.inj H
    go_enter Try.func71, Try.ntmps71
    go_wp2_with (first | ((with_reducible refine gate_callee (f := 66) rfl ?_); refine goesL_ (some 4) rfl rfl Try.func66 (by kernel_rfl) rfl #[.string a0] rfl (by (try simp only [List.map_toArray, List.map_cons, List.map_nil]); first | done | rfl | (simp only [List.length_drop, List.length_take]; rfl)) ?_; (with_reducible refine (term_Right.calls a0 false _ A2.out).mono ?_); rintro e w7 ⟨rfl, hb⟩; refine ⟨_, rfl, ?_⟩; have n0_ := Aside0.mk (below_step (by repeat (first | (with_reducible first | exact HB.out | apply below_alloc | apply pw_below_drewN | apply below_drew1) | exact HB.out)) hb); clear HB; have HB := n0_; clear n0_; (try clear hb); (try clear hb2); (try clear hk); (try clear hi)))
    go_ret
    exact ⟨by first | rfl | (simp [errW_none, errW_some] <;> rfl) | (simp [*, errW_none, errW_some] <;> rfl), by repeat (first | (with_reducible first | exact HB.out | apply below_alloc | apply pw_below_drewN | apply below_drew1) | exact HB.out)⟩

/-- A right text's first byte. -/
def kindF (t : ByteArray) : Int := if rightB t = true then bt t 0 else 0
def parts_Kind.f (t : ByteArray) : Option Int := if t.size < 9223372036854775000 then some (kindF t) else none
theorem parts_Kind.eq (t : ByteArray) (hs : t.size < 9223372036854775000) : parts_Kind_p.f t = parts_Kind.f t := by
  unfold parts_Kind_p.f term_Right.f parts_Kind.f kindF
  rw [if_pos hs, if_pos hs]
  simp only [Option.bind_some]
  by_cases c : rightB t = true
  · have h0 : 0 < t.size := by
      unfold rightB at c
      rw [decide_eq_true_eq] at c
      have := scanF_end c.1
      omega
    rw [if_pos c, if_pos c, if_pos (by omega)]
  · rw [if_neg c, if_neg c]
theorem parts_Kind.calls (a0 : ByteArray) (r : Int) (w : World) (h : parts_Kind.f a0 = some r) :
    Calls Try.prog 71 #[.string a0] w fun e w' => e = .returned (.int .u8 r) ∧ Below w.heap.size w w' := by
  have hs : a0.size < 9223372036854775000 := by
    unfold parts_Kind.f at h
    split at h
    · assumption
    · cases h
  exact parts_Kind_p.calls a0 r w ((parts_Kind.eq a0 hs).trans h)

end Go.Proofs.Ytpfpmjdifnoeoaa.F
namespace Go.Proofs.Ytpfpmjdifnoeoaa.F
open Go.RowKit Go.Proofs.YtpfpmjdifnoeoaaW.PrintWords Go.Proofs.YtpfpmjdifnoeoaaW.PrintLast Go.Proofs.YtpfpmjdifnoeoaaW.PrintMore
attribute [local go_sem] max2_int min2_int max_two min_two max_three min_three max_four min_four
set_option linter.unusedVariables false
set_option linter.unusedSimpArgs false

/-! ### parts_Said: function 69 -/
/-! #### parts_Said_p: function 69 -/
def parts_Said_p.f (a0 : ByteArray) : Option (ByteArray × Bool) := (parts_Kind.f a0).bind fun t405 => (if t405 = 116 then (if 3 ≤ (a0.size : Int) then (some (a0.extract 3 a0.size, true)) else (none)) else (some ((⟨#[]⟩ : ByteArray), false)))
set_option maxHeartbeats 8000000 in
set_option maxRecDepth 100000 in
theorem parts_Said_p.calls (a0 : ByteArray) (r1 : ByteArray) (r2 : Bool) (w : World) (h : parts_Said_p.f a0 = some (r1, r2)) :
    Calls Try.prog 69 #[.string a0] w fun e w' => e = .returned (.tuple #[.string r1, .bool r2]) ∧ Below w.heap.size w w' := by
  have HB := Aside0.mk (Below.refl w.heap.size w)
  have H : ((parts_Kind.f a0).bind fun t405 => (if t405 = 116 then (if 3 ≤ (a0.size : Int) then (some (a0.extract 3 a0.size, true)) else (none)) else (some ((⟨#[]⟩ : ByteArray), false)))) = some (r1, r2) := h
  clear h
  replace H := Option.bind_eq_some_iff.mp H
  obtain ⟨t405, A20, H⟩ := H
  replace H : (if t405 = 116 then (if 3 ≤ (a0.size : Int) then (some (a0.extract 3 a0.size, true)) else (none)) else (some ((⟨#[]⟩ : ByteArray), false))) = some (r1, r2) := H
  have A2 := Aside0.mk A20
  clear A20
  by_cases c3 : t405 = 116
  · rw [if_pos c3] at H
    have c3b0 : (t405 == 116) = true := beq_iff_eq.mpr c3
    have c3b1 : (t405 != 116) = false := bne_eq_false_iff_eq.mpr c3
    clear c3
    by_cases c4 : 3 ≤ (a0.size : Int)
    · rw [if_pos c4] at H
      have c4b0 := eq_true c4
      have c4b1 : decide (3 ≤ (a0.size : Int)) = true := decide_eq_true c4
      clear c4
      simp only [Option.some.injEq, Prod.mk.injEq] at H
      obtain ⟨rfl, rfl⟩ := H
      go_enter Try.func69, Try.ntmps69
      go_wp2_with (first | ((with_reducible refine gate_callee (f := 71) rfl ?_); refine goesL_ (some 5) rfl rfl Try.func71 (by kernel_rfl) rfl #[.string a0] rfl (by (try simp only [List.map_toArray, List.map_cons, List.map_nil]); first | done | rfl | (simp only [List.length_drop, List.length_take]; rfl)) ?_; (with_reducible refine (parts_Kind.calls a0 t405 _ A2.out).mono ?_); rintro e w5 ⟨rfl, hb⟩; refine ⟨_, rfl, ?_⟩; have n0_ := Aside0.mk (below_step (by repeat (first | (with_reducible first | exact HB.out | apply below_alloc | apply pw_below_drewN | apply below_drew1) | exact HB.out)) hb); clear HB; have HB := n0_; clear n0_; (try clear hb); (try clear hb2); (try clear hk); (try clear hi)))
      go_ret2
      exact ⟨by first | rfl | (simp [errW_none, errW_some] <;> rfl) | (simp [*, errW_none, errW_some] <;> rfl), by repeat (first | (with_reducible first | exact HB.out | apply below_alloc | apply pw_below_drewN | apply below_drew1) | exact HB.out)⟩
    · rw [if_neg c4] at H
      exact absurd H (by simp)
  · rw [if_neg c3] at H
    have c3b0 : (t405 == 116) = false := beq_eq_false_iff_ne.mpr c3
    have c3b1 : (t405 != 116) = true := bne_iff_ne.mpr c3
    simp only [Option.some.injEq, Prod.mk.injEq] at H
    obtain ⟨rfl, rfl⟩ := H
    go_enter Try.func69, Try.ntmps69
    go_wp2_with (first | ((with_reducible refine gate_callee (f := 71) rfl ?_); refine goesL_ (some 5) rfl rfl Try.func71 (by kernel_rfl) rfl #[.string a0] rfl (by (try simp only [List.map_toArray, List.map_cons, List.map_nil]); first | done | rfl | (simp only [List.length_drop, List.length_take]; rfl)) ?_; (with_reducible refine (parts_Kind.calls a0 t405 _ A2.out).mono ?_); rintro e w6 ⟨rfl, hb⟩; refine ⟨_, rfl, ?_⟩; have n0_ := Aside0.mk (below_step (by repeat (first | (with_reducible first | exact HB.out | apply below_alloc | apply pw_below_drewN | apply below_drew1) | exact HB.out)) hb); clear HB; have HB := n0_; clear n0_; (try clear hb); (try clear hb2); (try clear hk); (try clear hi)))
    go_ret2
    exact ⟨by first | rfl | (simp [errW_none, errW_some] <;> rfl) | (simp [*, errW_none, errW_some] <;> rfl), by repeat (first | (with_reducible first | exact HB.out | apply below_alloc | apply pw_below_drewN | apply below_drew1) | exact HB.out)⟩

open Go.Proofs.Ytpfpmjdifnoeoaa.Pure
/-- What a text says. -/
def saidF (t : ByteArray) : ByteArray × Bool := if kindF t = 116 then (t.extract 3 t.size, true) else (⟨#[]⟩, false)
theorem kind_right {t : ByteArray} {c : Int} (h : kindF t = c) (h0 : c ≠ 0) : rightB t = true ∧ bt t 0 = c := by
  unfold kindF at h
  split at h
  · exact ⟨by assumption, h⟩
  · exact absurd h.symm h0
theorem said_size {t : ByteArray} (h : kindF t = 116) : 3 ≤ t.size := by
  obtain ⟨hr, hb⟩ := kind_right h (by decide)
  rcases right_cases hr with hl | ⟨hd, pow, n⟩
  · have h1 := hl.1
    have h2 := hl.2
    unfold leafF at h1 h2
    repeat' split at h2
    all_goals omega
  · have := node_bytes n; omega
def parts_Said.f (t : ByteArray) : Option (ByteArray × Bool) := if t.size < 9223372036854775000 then some (saidF t) else none
theorem parts_Said.eq (t : ByteArray) (hs : t.size < 9223372036854775000) : parts_Said_p.f t = some (saidF t) := by
  unfold parts_Said_p.f parts_Kind.f saidF
  simp only [if_pos hs, Option.bind_some]
  by_cases c : kindF t = 116
  · have := said_size c
    rw [if_pos c, if_pos c, if_pos (by omega)]
  · rw [if_neg c, if_neg c]
theorem parts_Said.calls (a0 : ByteArray) (r1 : ByteArray) (r2 : Bool) (w : World) (h : parts_Said.f a0 = some (r1, r2)) :
    Calls Try.prog 69 #[.string a0] w fun e w' => e = .returned (.tuple #[.string r1, .bool r2]) ∧ Below w.heap.size w w' := by
  unfold parts_Said.f at h
  split at h
  case isFalse => cases h
  rename_i hs
  exact parts_Said_p.calls a0 r1 r2 w ((parts_Said.eq a0 hs).trans h)

end Go.Proofs.Ytpfpmjdifnoeoaa.F
namespace Go.Proofs.Ytpfpmjdifnoeoaa.F
open Go.RowKit Go.Proofs.YtpfpmjdifnoeoaaW.PrintWords Go.Proofs.YtpfpmjdifnoeoaaW.PrintLast Go.Proofs.YtpfpmjdifnoeoaaW.PrintMore
attribute [local go_sem] max2_int min2_int max_two min_two max_three min_three max_four min_four
set_option linter.unusedVariables false
set_option linter.unusedSimpArgs false

/-! ### parts_Open: function 37 -/
/-! #### parts_Open_p: function 37 -/
def parts_Open_p.f (a0 : ByteArray) (a1 : ByteArray) : Option (ByteArray × ByteArray × Int) := (parts_Kind.f a0).bind fun t113 => (if t113 = 115 then ((parts_Of.f a0).bind fun t114 => (if 0 < (t114.length : Int) then (if (rdOf ByteArray.empty t114 0).toList = a1.toList then (if 1 < (t114.length : Int) then (if 2 < (t114.length : Int) then (some (rdOf ByteArray.empty t114 1, rdOf ByteArray.empty t114 2, 0)) else (none)) else (none)) else (some ((⟨#[]⟩ : ByteArray), (⟨#[]⟩ : ByteArray), 6))) else (none))) else (some ((⟨#[]⟩ : ByteArray), (⟨#[]⟩ : ByteArray), 2)))
set_option maxHeartbeats 8000000 in
set_option maxRecDepth 100000 in
theorem parts_Open_p.calls (a0 : ByteArray) (a1 : ByteArray) (r1 : ByteArray) (r2 : ByteArray) (r3 : Int) (w : World) (h : parts_Open_p.f a0 a1 = some (r1, r2, r3)) :
    Calls Try.prog 37 #[.string a0, .string a1] w fun e w' => e = .returned (.tuple #[.string r1, .string r2, .int .i64 r3]) ∧ Below w.heap.size w w' := by
  have HB := Aside0.mk (Below.refl w.heap.size w)
  have H : ((parts_Kind.f a0).bind fun t113 => (if t113 = 115 then ((parts_Of.f a0).bind fun t114 => (if 0 < (t114.length : Int) then (if (rdOf ByteArray.empty t114 0).toList = a1.toList then (if 1 < (t114.length : Int) then (if 2 < (t114.length : Int) then (some (rdOf ByteArray.empty t114 1, rdOf ByteArray.empty t114 2, 0)) else (none)) else (none)) else (some ((⟨#[]⟩ : ByteArray), (⟨#[]⟩ : ByteArray), 6))) else (none))) else (some ((⟨#[]⟩ : ByteArray), (⟨#[]⟩ : ByteArray), 2)))) = some (r1, r2, r3) := h
  clear h
  replace H := Option.bind_eq_some_iff.mp H
  obtain ⟨t113, A30, H⟩ := H
  replace H : (if t113 = 115 then ((parts_Of.f a0).bind fun t114 => (if 0 < (t114.length : Int) then (if (rdOf ByteArray.empty t114 0).toList = a1.toList then (if 1 < (t114.length : Int) then (if 2 < (t114.length : Int) then (some (rdOf ByteArray.empty t114 1, rdOf ByteArray.empty t114 2, 0)) else (none)) else (none)) else (some ((⟨#[]⟩ : ByteArray), (⟨#[]⟩ : ByteArray), 6))) else (none))) else (some ((⟨#[]⟩ : ByteArray), (⟨#[]⟩ : ByteArray), 2))) = some (r1, r2, r3) := H
  have A3 := Aside0.mk A30
  clear A30
  by_cases c4 : t113 = 115
  · rw [if_pos c4] at H
    have c4b0 : (t113 == 115) = true := beq_iff_eq.mpr c4
    have c4b1 : (t113 != 115) = false := bne_eq_false_iff_eq.mpr c4
    clear c4
    replace H := Option.bind_eq_some_iff.mp H
    obtain ⟨t114, A50, H⟩ := H
    replace H : (if 0 < (t114.length : Int) then (if (rdOf ByteArray.empty t114 0).toList = a1.toList then (if 1 < (t114.length : Int) then (if 2 < (t114.length : Int) then (some (rdOf ByteArray.empty t114 1, rdOf ByteArray.empty t114 2, 0)) else (none)) else (none)) else (some ((⟨#[]⟩ : ByteArray), (⟨#[]⟩ : ByteArray), 6))) else (none)) = some (r1, r2, r3) := H
    have A5 := Aside0.mk A50
    clear A50
    by_cases c6 : 0 < (t114.length : Int)
    · rw [if_pos c6] at H
      have c6b0 : decide (0 < (t114.length : Int)) = true := decide_eq_true c6
      have c6b1 : decide (0 < t114.length) = true := decide_eq_true (by omega)
      clear c6
      by_cases c7 : (rdOf ByteArray.empty t114 0).toList = a1.toList
      · rw [if_pos c7] at H
        have c7b0 : ((rdOf ByteArray.empty t114 0).toList == a1.toList) = true := beq_iff_eq.mpr c7
        have c7b1 : ((rdOf ByteArray.empty t114 0).toList != a1.toList) = false := bne_eq_false_iff_eq.mpr c7
        clear c7
        by_cases c8 : 1 < (t114.length : Int)
        · rw [if_pos c8] at H
          have c8b0 : decide (1 < (t114.length : Int)) = true := decide_eq_true c8
          have c8b1 : decide (1 < t114.length) = true := decide_eq_true (by omega)
          clear c8
          by_cases c9 : 2 < (t114.length : Int)
          · rw [if_pos c9] at H
            have c9b0 : decide (2 < (t114.length : Int)) = true := decide_eq_true c9
            have c9b1 : decide (2 < t114.length) = true := decide_eq_true (by omega)
            clear c9
            simp only [Option.some.injEq, Prod.mk.injEq] at H
            obtain ⟨rfl, rfl, rfl⟩ := H
            go_enter Try.func37, Try.ntmps37
            go_wp2_with (first | (go_at_call 71; (with_reducible refine (parts_Kind.calls a0 t113 _ A3.out).mono ?_); rintro e w10 ⟨rfl, hb⟩; have n0_ := Aside0.mk (below_step (by repeat (first | (with_reducible first | exact HB.out | apply below_alloc | apply pw_below_drewN | apply below_drew1) | exact HB.out)) hb); clear HB; have HB := n0_; clear n0_; (try clear hb); (try clear hb2); (try clear hk); (try clear hi)) | (go_at_call 74; (with_reducible refine (parts_Of.calls a0 t114 _ A5.out).mono ?_); rintro e w11 ⟨v115, rfl, ho0, hb⟩; have n0_ := Aside0.mk (Kd.R_lower ho0 (below_size (by repeat (first | (with_reducible first | exact HB.out | apply below_alloc | apply pw_below_drewN | apply below_drew1) | exact HB.out)))); have n1_ := Aside0.mk (below_step (by repeat (first | (with_reducible first | exact HB.out | apply below_alloc | apply pw_below_drewN | apply below_drew1) | exact HB.out)) hb); clear HB; have HO116 := n0_; have HB := n1_; clear n0_ n1_; (try clear hb); (try clear hb2); (try clear hk); (try clear hi); (try clear ho0); obtain ⟨Ao12, co12, eo12⟩ := Kd.R_slice HO116.out; subst eo12; have p117 : 0 ≤ (0 : Int) := (by omega); have q117 : 0 < (t114.length : Int) := of_decide_eq_true (by first | (with_reducible assumption) | assumption); obtain ⟨ad117, e117, hx117_0⟩ := Kd.at_string (Kd.R_reads' HO116.out).2.2 0 p117 q117; cases e117; have qi117 : (0 < t114.length) = True := eq_true (by omega); (try rw [show ((0 : Int)).toNat = 0 from rfl] at hx117_0); (try rw [Addr.add_zero'] at hx117_0); replace p117 := eq_true p117; replace q117 := eq_true q117; have p118 : 0 ≤ (1 : Int) := (by omega); have q118 : 1 < (t114.length : Int) := of_decide_eq_true (by first | (with_reducible assumption) | assumption); obtain ⟨ad118, e118, hx118_0⟩ := Kd.at_string (Kd.R_reads' HO116.out).2.2 1 p118 q118; obtain rfl : ad117 = ad118 := (by injection e118); (try simp only [show (1 : Int).toNat = 1 from rfl, Nat.reduceMul, Nat.reduceEqDiff, Go.Addr.add, ↓reduceIte] at hx118_0); have qi118 : (1 < t114.length) = True := eq_true (by omega); (try rw [show ((1 : Int)).toNat = 1 from rfl] at hx118_0); replace p118 := eq_true p118; replace q118 := eq_true q118; have p119 : 0 ≤ (2 : Int) := (by omega); have q119 : 2 < (t114.length : Int) := of_decide_eq_true (by first | (with_reducible assumption) | assumption); obtain ⟨ad119, e119, hx119_0⟩ := Kd.at_string (Kd.R_reads' HO116.out).2.2 2 p119 q119; obtain rfl : ad117 = ad119 := (by injection e119); (try simp only [show (2 : Int).toNat = 2 from rfl, Nat.reduceMul, Nat.reduceEqDiff, Go.Addr.add, ↓reduceIte] at hx119_0); have qi119 : (2 < t114.length) = True := eq_true (by omega); (try rw [show ((2 : Int)).toNat = 2 from rfl] at hx119_0); replace p119 := eq_true p119; replace q119 := eq_true q119))
            repeat (go_quiet (first | (go_at_call 71; (with_reducible refine (parts_Kind.calls a0 t113 _ A3.out).mono ?_); rintro e w10 ⟨rfl, hb⟩; have n0_ := Aside0.mk (below_step (by repeat (first | (with_reducible first | exact HB.out | apply below_alloc | apply pw_below_drewN | apply below_drew1) | exact HB.out)) hb); clear HB; have HB := n0_; clear n0_; (try clear hb); (try clear hb2); (try clear hk); (try clear hi)) | (go_at_call 74; (with_reducible refine (parts_Of.calls a0 t114 _ A5.out).mono ?_); rintro e w11 ⟨v115, rfl, ho0, hb⟩; have n0_ := Aside0.mk (Kd.R_lower ho0 (below_size (by repeat (first | (with_reducible first | exact HB.out | apply below_alloc | apply pw_below_drewN | apply below_drew1) | exact HB.out)))); have n1_ := Aside0.mk (below_step (by repeat (first | (with_reducible first | exact HB.out | apply below_alloc | apply pw_below_drewN | apply below_drew1) | exact HB.out)) hb); clear HB; have HO116 := n0_; have HB := n1_; clear n0_ n1_; (try clear hb); (try clear hb2); (try clear hk); (try clear hi); (try clear ho0); obtain ⟨Ao12, co12, eo12⟩ := Kd.R_slice HO116.out; subst eo12; have p117 : 0 ≤ (0 : Int) := (by omega); have q117 : 0 < (t114.length : Int) := of_decide_eq_true (by first | (with_reducible assumption) | assumption); obtain ⟨ad117, e117, hx117_0⟩ := Kd.at_string (Kd.R_reads' HO116.out).2.2 0 p117 q117; cases e117; have qi117 : (0 < t114.length) = True := eq_true (by omega); (try rw [show ((0 : Int)).toNat = 0 from rfl] at hx117_0); (try rw [Addr.add_zero'] at hx117_0); replace p117 := eq_true p117; replace q117 := eq_true q117; have p118 : 0 ≤ (1 : Int) := (by omega); have q118 : 1 < (t114.length : Int) := of_decide_eq_true (by first | (with_reducible assumption) | assumption); obtain ⟨ad118, e118, hx118_0⟩ := Kd.at_string (Kd.R_reads' HO116.out).2.2 1 p118 q118; obtain rfl : ad117 = ad118 := (by injection e118); (try simp only [show (1 : Int).toNat = 1 from rfl, Nat.reduceMul, Nat.reduceEqDiff, Go.Addr.add, ↓reduceIte] at hx118_0); have qi118 : (1 < t114.length) = True := eq_true (by omega); (try rw [show ((1 : Int)).toNat = 1 from rfl] at hx118_0); replace p118 := eq_true p118; replace q118 := eq_true q118; have p119 : 0 ≤ (2 : Int) := (by omega); have q119 : 2 < (t114.length : Int) := of_decide_eq_true (by first | (with_reducible assumption) | assumption); obtain ⟨ad119, e119, hx119_0⟩ := Kd.at_string (Kd.R_reads' HO116.out).2.2 2 p119 q119; obtain rfl : ad117 = ad119 := (by injection e119); (try simp only [show (2 : Int).toNat = 2 from rfl, Nat.reduceMul, Nat.reduceEqDiff, Go.Addr.add, ↓reduceIte] at hx119_0); have qi119 : (2 < t114.length) = True := eq_true (by omega); (try rw [show ((2 : Int)).toNat = 2 from rfl] at hx119_0); replace p119 := eq_true p119; replace q119 := eq_true q119)); try go_wp2_with (first | (go_at_call 71; (with_reducible refine (parts_Kind.calls a0 t113 _ A3.out).mono ?_); rintro e w10 ⟨rfl, hb⟩; have n0_ := Aside0.mk (below_step (by repeat (first | (with_reducible first | exact HB.out | apply below_alloc | apply pw_below_drewN | apply below_drew1) | exact HB.out)) hb); clear HB; have HB := n0_; clear n0_; (try clear hb); (try clear hb2); (try clear hk); (try clear hi)) | (go_at_call 74; (with_reducible refine (parts_Of.calls a0 t114 _ A5.out).mono ?_); rintro e w11 ⟨v115, rfl, ho0, hb⟩; have n0_ := Aside0.mk (Kd.R_lower ho0 (below_size (by repeat (first | (with_reducible first | exact HB.out | apply below_alloc | apply pw_below_drewN | apply below_drew1) | exact HB.out)))); have n1_ := Aside0.mk (below_step (by repeat (first | (with_reducible first | exact HB.out | apply below_alloc | apply pw_below_drewN | apply below_drew1) | exact HB.out)) hb); clear HB; have HO116 := n0_; have HB := n1_; clear n0_ n1_; (try clear hb); (try clear hb2); (try clear hk); (try clear hi); (try clear ho0); obtain ⟨Ao12, co12, eo12⟩ := Kd.R_slice HO116.out; subst eo12; have p117 : 0 ≤ (0 : Int) := (by omega); have q117 : 0 < (t114.length : Int) := of_decide_eq_true (by first | (with_reducible assumption) | assumption); obtain ⟨ad117, e117, hx117_0⟩ := Kd.at_string (Kd.R_reads' HO116.out).2.2 0 p117 q117; cases e117; have qi117 : (0 < t114.length) = True := eq_true (by omega); (try rw [show ((0 : Int)).toNat = 0 from rfl] at hx117_0); (try rw [Addr.add_zero'] at hx117_0); replace p117 := eq_true p117; replace q117 := eq_true q117; have p118 : 0 ≤ (1 : Int) := (by omega); have q118 : 1 < (t114.length : Int) := of_decide_eq_true (by first | (with_reducible assumption) | assumption); obtain ⟨ad118, e118, hx118_0⟩ := Kd.at_string (Kd.R_reads' HO116.out).2.2 1 p118 q118; obtain rfl : ad117 = ad118 := (by injection e118); (try simp only [show (1 : Int).toNat = 1 from rfl, Nat.reduceMul, Nat.reduceEqDiff, Go.Addr.add, ↓reduceIte] at hx118_0); have qi118 : (1 < t114.length) = True := eq_true (by omega); (try rw [show ((1 : Int)).toNat = 1 from rfl] at hx118_0); replace p118 := eq_true p118; replace q118 := eq_true q118; have p119 : 0 ≤ (2 : Int) := (by omega); have q119 : 2 < (t114.length : Int) := of_decide_eq_true (by first | (with_reducible assumption) | assumption); obtain ⟨ad119, e119, hx119_0⟩ := Kd.at_string (Kd.R_reads' HO116.out).2.2 2 p119 q119; obtain rfl : ad117 = ad119 := (by injection e119); (try simp only [show (2 : Int).toNat = 2 from rfl, Nat.reduceMul, Nat.reduceEqDiff, Go.Addr.add, ↓reduceIte] at hx119_0); have qi119 : (2 < t114.length) = True := eq_true (by omega); (try rw [show ((2 : Int)).toNat = 2 from rfl] at hx119_0); replace p119 := eq_true p119; replace q119 := eq_true q119)))
            go_ret3
            exact ⟨by first | rfl | (simp [errW_none, errW_some] <;> rfl) | (simp [*, errW_none, errW_some] <;> rfl), by repeat (first | (with_reducible first | exact HB.out | apply below_alloc | apply pw_below_drewN | apply below_drew1) | exact HB.out)⟩
          · rw [if_neg c9] at H
            exact absurd H (by simp)
        · rw [if_neg c8] at H
          exact absurd H (by simp)
      · rw [if_neg c7] at H
        have c7b0 : ((rdOf ByteArray.empty t114 0).toList == a1.toList) = false := beq_eq_false_iff_ne.mpr c7
        have c7b1 : ((rdOf ByteArray.empty t114 0).toList != a1.toList) = true := bne_iff_ne.mpr c7
        simp only [Option.some.injEq, Prod.mk.injEq] at H
        obtain ⟨rfl, rfl, rfl⟩ := H
        go_enter Try.func37, Try.ntmps37
        go_wp2_with (first | (go_at_call 71; (with_reducible refine (parts_Kind.calls a0 t113 _ A3.out).mono ?_); rintro e w13 ⟨rfl, hb⟩; have n0_ := Aside0.mk (below_step (by repeat (first | (with_reducible first | exact HB.out | apply below_alloc | apply pw_below_drewN | apply below_drew1) | exact HB.out)) hb); clear HB; have HB := n0_; clear n0_; (try clear hb); (try clear hb2); (try clear hk); (try clear hi)) | (go_at_call 74; (with_reducible refine (parts_Of.calls a0 t114 _ A5.out).mono ?_); rintro e w14 ⟨v115, rfl, ho0, hb⟩; have n0_ := Aside0.mk (Kd.R_lower ho0 (below_size (by repeat (first | (with_reducible first | exact HB.out | apply below_alloc | apply pw_below_drewN | apply below_drew1) | exact HB.out)))); have n1_ := Aside0.mk (below_step (by repeat (first | (with_reducible first | exact HB.out | apply below_alloc | apply pw_below_drewN | apply below_drew1) | exact HB.out)) hb); clear HB; have HO116 := n0_; have HB := n1_; clear n0_ n1_; (try clear hb); (try clear hb2); (try clear hk); (try clear hi); (try clear ho0); obtain ⟨Ao15, co15, eo15⟩ := Kd.R_slice HO116.out; subst eo15; have p117 : 0 ≤ (0 : Int) := (by omega); have q117 : 0 < (t114.length : Int) := of_decide_eq_true (by first | (with_reducible assumption) | assumption); obtain ⟨ad117, e117, hx117_0⟩ := Kd.at_string (Kd.R_reads' HO116.out).2.2 0 p117 q117; cases e117; have qi117 : (0 < t114.length) = True := eq_true (by omega); (try rw [show ((0 : Int)).toNat = 0 from rfl] at hx117_0); (try rw [Addr.add_zero'] at hx117_0); replace p117 := eq_true p117; replace q117 := eq_true q117))
        repeat (go_quiet (first | (go_at_call 71; (with_reducible refine (parts_Kind.calls a0 t113 _ A3.out).mono ?_); rintro e w13 ⟨rfl, hb⟩; have n0_ := Aside0.mk (below_step (by repeat (first | (with_reducible first | exact HB.out | apply below_alloc | apply pw_below_drewN | apply below_drew1) | exact HB.out)) hb); clear HB; have HB := n0_; clear n0_; (try clear hb); (try clear hb2); (try clear hk); (try clear hi)) | (go_at_call 74; (with_reducible refine (parts_Of.calls a0 t114 _ A5.out).mono ?_); rintro e w14 ⟨v115, rfl, ho0, hb⟩; have n0_ := Aside0.mk (Kd.R_lower ho0 (below_size (by repeat (first | (with_reducible first | exact HB.out | apply below_alloc | apply pw_below_drewN | apply below_drew1) | exact HB.out)))); have n1_ := Aside0.mk (below_step (by repeat (first | (with_reducible first | exact HB.out | apply below_alloc | apply pw_below_drewN | apply below_drew1) | exact HB.out)) hb); clear HB; have HO116 := n0_; have HB := n1_; clear n0_ n1_; (try clear hb); (try clear hb2); (try clear hk); (try clear hi); (try clear ho0); obtain ⟨Ao15, co15, eo15⟩ := Kd.R_slice HO116.out; subst eo15; have p117 : 0 ≤ (0 : Int) := (by omega); have q117 : 0 < (t114.length : Int) := of_decide_eq_true (by first | (with_reducible assumption) | assumption); obtain ⟨ad117, e117, hx117_0⟩ := Kd.at_string (Kd.R_reads' HO116.out).2.2 0 p117 q117; cases e117; have qi117 : (0 < t114.length) = True := eq_true (by omega); (try rw [show ((0 : Int)).toNat = 0 from rfl] at hx117_0); (try rw [Addr.add_zero'] at hx117_0); replace p117 := eq_true p117; replace q117 := eq_true q117)); try go_wp2_with (first | (go_at_call 71; (with_reducible refine (parts_Kind.calls a0 t113 _ A3.out).mono ?_); rintro e w13 ⟨rfl, hb⟩; have n0_ := Aside0.mk (below_step (by repeat (first | (with_reducible first | exact HB.out | apply below_alloc | apply pw_below_drewN | apply below_drew1) | exact HB.out)) hb); clear HB; have HB := n0_; clear n0_; (try clear hb); (try clear hb2); (try clear hk); (try clear hi)) | (go_at_call 74; (with_reducible refine (parts_Of.calls a0 t114 _ A5.out).mono ?_); rintro e w14 ⟨v115, rfl, ho0, hb⟩; have n0_ := Aside0.mk (Kd.R_lower ho0 (below_size (by repeat (first | (with_reducible first | exact HB.out | apply below_alloc | apply pw_below_drewN | apply below_drew1) | exact HB.out)))); have n1_ := Aside0.mk (below_step (by repeat (first | (with_reducible first | exact HB.out | apply below_alloc | apply pw_below_drewN | apply below_drew1) | exact HB.out)) hb); clear HB; have HO116 := n0_; have HB := n1_; clear n0_ n1_; (try clear hb); (try clear hb2); (try clear hk); (try clear hi); (try clear ho0); obtain ⟨Ao15, co15, eo15⟩ := Kd.R_slice HO116.out; subst eo15; have p117 : 0 ≤ (0 : Int) := (by omega); have q117 : 0 < (t114.length : Int) := of_decide_eq_true (by first | (with_reducible assumption) | assumption); obtain ⟨ad117, e117, hx117_0⟩ := Kd.at_string (Kd.R_reads' HO116.out).2.2 0 p117 q117; cases e117; have qi117 : (0 < t114.length) = True := eq_true (by omega); (try rw [show ((0 : Int)).toNat = 0 from rfl] at hx117_0); (try rw [Addr.add_zero'] at hx117_0); replace p117 := eq_true p117; replace q117 := eq_true q117)))
        go_ret3
        exact ⟨by first | rfl | (simp [errW_none, errW_some] <;> rfl) | (simp [*, errW_none, errW_some] <;> rfl), by repeat (first | (with_reducible first | exact HB.out | apply below_alloc | apply pw_below_drewN | apply below_drew1) | exact HB.out)⟩
    · rw [if_neg c6] at H
      exact absurd H (by simp)
  · rw [if_neg c4] at H
    have c4b0 : (t113 == 115) = false := beq_eq_false_iff_ne.mpr c4
    have c4b1 : (t113 != 115) = true := bne_iff_ne.mpr c4
    simp only [Option.some.injEq, Prod.mk.injEq] at H
    obtain ⟨rfl, rfl, rfl⟩ := H
    go_enter Try.func37, Try.ntmps37
    go_wp2_with (first | (go_at_call 71; (with_reducible refine (parts_Kind.calls a0 t113 _ A3.out).mono ?_); rintro e w16 ⟨rfl, hb⟩; have n0_ := Aside0.mk (below_step (by repeat (first | (with_reducible first | exact HB.out | apply below_alloc | apply pw_below_drewN | apply below_drew1) | exact HB.out)) hb); clear HB; have HB := n0_; clear n0_; (try clear hb); (try clear hb2); (try clear hk); (try clear hi)))
    repeat (go_quiet (first | (go_at_call 71; (with_reducible refine (parts_Kind.calls a0 t113 _ A3.out).mono ?_); rintro e w16 ⟨rfl, hb⟩; have n0_ := Aside0.mk (below_step (by repeat (first | (with_reducible first | exact HB.out | apply below_alloc | apply pw_below_drewN | apply below_drew1) | exact HB.out)) hb); clear HB; have HB := n0_; clear n0_; (try clear hb); (try clear hb2); (try clear hk); (try clear hi))); try go_wp2_with (first | (go_at_call 71; (with_reducible refine (parts_Kind.calls a0 t113 _ A3.out).mono ?_); rintro e w16 ⟨rfl, hb⟩; have n0_ := Aside0.mk (below_step (by repeat (first | (with_reducible first | exact HB.out | apply below_alloc | apply pw_below_drewN | apply below_drew1) | exact HB.out)) hb); clear HB; have HB := n0_; clear n0_; (try clear hb); (try clear hb2); (try clear hk); (try clear hi))))
    go_ret3
    exact ⟨by first | rfl | (simp [errW_none, errW_some] <;> rfl) | (simp [*, errW_none, errW_some] <;> rfl), by repeat (first | (with_reducible first | exact HB.out | apply below_alloc | apply pw_below_drewN | apply below_drew1) | exact HB.out)⟩

open Go.Proofs.Ytpfpmjdifnoeoaa.Pure
theorem same_text {a b : ByteArray} (h : a.toList = b.toList) : a = b := by
  rw [ByteArray.toList_eq, ByteArray.toList_eq] at h
  exact ByteArray.ext (Array.ext' h)
/-- What is told of a text that is opened with a key. -/
def openP (t key : ByteArray) : ByteArray × ByteArray × Int :=
  if kindF t = 115 then (if rdOf ByteArray.empty (kidsF t) 0 = key then (rdOf ByteArray.empty (kidsF t) 1, rdOf ByteArray.empty (kidsF t) 2, 0) else (⟨#[]⟩, ⟨#[]⟩, 6)) else (⟨#[]⟩, ⟨#[]⟩, 2)
def parts_Open.f (t key : ByteArray) : Option (ByteArray × ByteArray × Int) := if t.size < 9223372036854775000 then some (openP t key) else none
theorem parts_Open.eq (t key : ByteArray) (hs : t.size < 9223372036854775000) : parts_Open_p.f t key = some (openP t key) := by
  unfold parts_Open_p.f parts_Kind.f parts_Of.f openP
  simp only [if_pos hs, Option.bind_some]
  by_cases c : kindF t = 115
  · obtain ⟨hr, hb⟩ := kind_right c (by decide)
    obtain ⟨x, y, z, hk, _⟩ := kids_seal hr hb
    have hp : kidsP t = [x, y, z] := by unfold kidsP; rw [if_pos hr, hk]
    rw [if_pos c, if_pos c, hp, hk, if_pos (by simp)]
    have hx : rdOf ByteArray.empty [x, y, z] 0 = x := rfl
    rw [hx]
    by_cases d : x = key
    · rw [if_pos d, if_pos (by rw [d]), if_pos (by simp), if_pos (by simp)]
    · rw [if_neg d, if_neg (fun h => d (same_text h))]
  · rw [if_neg c, if_neg c]
theorem parts_Open.calls (a0 : ByteArray) (a1 : ByteArray) (r1 : ByteArray) (r2 : ByteArray) (r3 : Int) (w : World) (h : parts_Open.f a0 a1 = some (r1, r2, r3)) :
    Calls Try.prog 37 #[.string a0, .string a1] w fun e w' => e = .returned (.tuple #[.string r1, .string r2, .int .i64 r3]) ∧ Below w.heap.size w w' := by
  unfold parts_Open.f at h
  split at h
  case isFalse => cases h
  rename_i hs
  exact parts_Open_p.calls a0 a1 r1 r2 r3 w ((parts_Open.eq a0 a1 hs).trans h)

end Go.Proofs.Ytpfpmjdifnoeoaa.F
namespace Go.Proofs.Ytpfpmjdifnoeoaa.F
open Go.RowKit Go.Proofs.YtpfpmjdifnoeoaaW.PrintWords Go.Proofs.YtpfpmjdifnoeoaaW.PrintLast Go.Proofs.YtpfpmjdifnoeoaaW.PrintMore
attribute [local go_sem] max2_int min2_int max_two min_two max_three min_three max_four min_four
set_option linter.unusedVariables false
set_option linter.unusedSimpArgs false

/-! ### parts_Check: function 39 -/
/-! #### parts_Check_p: function 39 -/
def parts_Check_p.f (a0 : ByteArray) (a1 : Int) : Option (ByteArray × Int) := (parts_Kind.f a0).bind fun t146 => (if t146 = 120 then ((parts_Of.f a0).bind fun t147 => ((term_Private.f a1).bind fun bt150 => (if bt150.2 = 0 then (if 0 < (t147.length : Int) then (if (rdOf ByteArray.empty t147 0).toList = bt150.1.toList then (if 1 < (t147.length : Int) then (some (rdOf ByteArray.empty t147 1, 0)) else (none)) else (some ((⟨#[]⟩ : ByteArray), 6))) else (none)) else (some ((⟨#[]⟩ : ByteArray), 6))))) else (some ((⟨#[]⟩ : ByteArray), 2)))
set_option maxHeartbeats 8000000 in
set_option maxRecDepth 100000 in
theorem parts_Check_p.calls (a0 : ByteArray) (a1 : Int) (r1 : ByteArray) (r2 : Int) (w : World) (h : parts_Check_p.f a0 a1 = some (r1, r2)) :
    Calls Try.prog 39 #[.string a0, .int .i64 a1] w fun e w' => e = .returned (.tuple #[.string r1, .int .i64 r2]) ∧ Below w.heap.size w w' := by
  have HB := Aside0.mk (Below.refl w.heap.size w)
  have H : ((parts_Kind.f a0).bind fun t146 => (if t146 = 120 then ((parts_Of.f a0).bind fun t147 => ((term_Private.f a1).bind fun bt150 => (if bt150.2 = 0 then (if 0 < (t147.length : Int) then (if (rdOf ByteArray.empty t147 0).toList = bt150.1.toList then (if 1 < (t147.length : Int) then (some (rdOf ByteArray.empty t147 1, 0)) else (none)) else (some ((⟨#[]⟩ : ByteArray), 6))) else (none)) else (some ((⟨#[]⟩ : ByteArray), 6))))) else (some ((⟨#[]⟩ : ByteArray), 2)))) = some (r1, r2) := h
  clear h
  replace H := Option.bind_eq_some_iff.mp H
  obtain ⟨t146, A30, H⟩ := H
  replace H : (if t146 = 120 then ((parts_Of.f a0).bind fun t147 => ((term_Private.f a1).bind fun bt150 => (if bt150.2 = 0 then (if 0 < (t147.length : Int) then (if (rdOf ByteArray.empty t147 0).toList = bt150.1.toList then (if 1 < (t147.length : Int) then (some (rdOf ByteArray.empty t147 1, 0)) else (none)) else (some ((⟨#[]⟩ : ByteArray), 6))) else (none)) else (some ((⟨#[]⟩ : ByteArray), 6))))) else (some ((⟨#[]⟩ : ByteArray), 2))) = some (r1, r2) := H
  have A3 := Aside0.mk A30
  clear A30
  by_cases c4 : t146 = 120
  · rw [if_pos c4] at H
    have c4b0 : (t146 == 120) = true := beq_iff_eq.mpr c4
    have c4b1 : (t146 != 120) = false := bne_eq_false_iff_eq.mpr c4
    clear c4
    replace H := Option.bind_eq_some_iff.mp H
    obtain ⟨t147, A50, H⟩ := H
    replace H : ((term_Private.f a1).bind fun bt150 => (if bt150.2 = 0 then (if 0 < (t147.length : Int) then (if (rdOf ByteArray.empty t147 0).toList = bt150.1.toList then (if 1 < (t147.length : Int) then (some (rdOf ByteArray.empty t147 1, 0)) else (none)) else (some ((⟨#[]⟩ : ByteArray), 6))) else (none)) else (some ((⟨#[]⟩ : ByteArray), 6)))) = some (r1, r2) := H
    have A5 := Aside0.mk A50
    clear A50
    replace H := Option.bind_eq_some_iff.mp H
    obtain ⟨⟨t150, t151⟩, A60, H⟩ := H
    replace H : (if t151 = 0 then (if 0 < (t147.length : Int) then (if (rdOf ByteArray.empty t147 0).toList = t150.toList then (if 1 < (t147.length : Int) then (some (rdOf ByteArray.empty t147 1, 0)) else (none)) else (some ((⟨#[]⟩ : ByteArray), 6))) else (none)) else (some ((⟨#[]⟩ : ByteArray), 6))) = some (r1, r2) := H
    have A6 := Aside0.mk A60
    clear A60
    by_cases c7 : t151 = 0
    · rw [if_pos c7] at H
      have c7b0 : (t151 == 0) = true := beq_iff_eq.mpr c7
      have c7b1 : (t151 != 0) = false := bne_eq_false_iff_eq.mpr c7
      clear c7
      by_cases c8 : 0 < (t147.length : Int)
      · rw [if_pos c8] at H
        have c8b0 : decide (0 < (t147.length : Int)) = true := decide_eq_true c8
        have c8b1 : decide (0 < t147.length) = true := decide_eq_true (by omega)
        clear c8
        by_cases c9 : (rdOf ByteArray.empty t147 0).toList = t150.toList
        · rw [if_pos c9] at H
          have c9b0 : ((rdOf ByteArray.empty t147 0).toList == t150.toList) = true := beq_iff_eq.mpr c9
          have c9b1 : ((rdOf ByteArray.empty t147 0).toList != t150.toList) = false := bne_eq_false_iff_eq.mpr c9
          clear c9
          by_cases c10 : 1 < (t147.length : Int)
          · rw [if_pos c10] at H
            have c10b0 : decide (1 < (t147.length : Int)) = true := decide_eq_true c10
            have c10b1 : decide (1 < t147.length) = true := decide_eq_true (by omega)
            clear c10
            simp only [Option.some.injEq, Prod.mk.injEq] at H
            obtain ⟨rfl, rfl⟩ := H
            go_enter Try.func39, Try.ntmps39
            go_wp2_with (first | ((with_reducible refine gate_callee (f := 71) rfl ?_); refine goesL_ (some 10) rfl rfl Try.func71 (by kernel_rfl) rfl #[.string a0] rfl (by (try simp only [List.map_toArray, List.map_cons, List.map_nil]); first | done | rfl | (simp only [List.length_drop, List.length_take]; rfl)) ?_; (with_reducible refine (parts_Kind.calls a0 t146 _ A3.out).mono ?_); rintro e w11 ⟨rfl, hb⟩; refine ⟨_, rfl, ?_⟩; have n0_ := Aside0.mk (below_step (by repeat (first | (with_reducible first | exact HB.out | apply below_alloc | apply pw_below_drewN | apply below_drew1) | exact HB.out)) hb); clear HB; have HB := n0_; clear n0_; (try clear hb); (try clear hb2); (try clear hk); (try clear hi)) | ((with_reducible refine gate_callee (f := 74) rfl ?_); refine goesL_ (some 13) rfl rfl Try.func74 (by kernel_rfl) rfl #[.string a0] rfl (by (try simp only [List.map_toArray, List.map_cons, List.map_nil]); first | done | rfl | (simp only [List.length_drop, List.length_take]; rfl)) ?_; (with_reducible refine (parts_Of.calls a0 t147 _ A5.out).mono ?_); rintro e w12 ⟨v148, rfl, ho0, hb⟩; refine ⟨_, rfl, ?_⟩; have n0_ := Aside0.mk (Kd.R_lower ho0 (below_size (by repeat (first | (with_reducible first | exact HB.out | apply below_alloc | apply pw_below_drewN | apply below_drew1) | exact HB.out)))); have n1_ := Aside0.mk (below_step (by repeat (first | (with_reducible first | exact HB.out | apply below_alloc | apply pw_below_drewN | apply below_drew1) | exact HB.out)) hb); clear HB; have HO149 := n0_; have HB := n1_; clear n0_ n1_; (try clear hb); (try clear hb2); (try clear hk); (try clear hi); (try clear ho0)) | ((with_reducible refine gate_callee (f := 81) rfl ?_); refine goesL_ (some 16) rfl rfl Try.func81 (by kernel_rfl) rfl #[.int .i64 a1] rfl (by (try simp only [List.map_toArray, List.map_cons, List.map_nil]); first | done | rfl | (simp only [List.length_drop, List.length_take]; rfl)) ?_; (with_reducible refine (term_Private.calls a1 t150 t151 _ A6.out).mono ?_); rintro e w13 ⟨rfl, hb⟩; refine ⟨_, rfl, ?_⟩; have n0_ := Aside0.mk (Kd.R_below (by (with_reducible repeat (first | apply Kd.R_alloc | apply Kd.R_drewN | apply Kd.R_drew)); exact HO149.out) hb); have n1_ := Aside0.mk (below_step (by repeat (first | (with_reducible first | exact HB.out | apply below_alloc | apply pw_below_drewN | apply below_drew1) | exact HB.out)) hb); clear HO149; clear HB; have HO149 := n0_; have HB := n1_; clear n0_ n1_; (try clear hb); (try clear hb2); (try clear hk); (try clear hi); obtain ⟨Ao14, co14, eo14⟩ := Kd.R_slice HO149.out; subst eo14; have p152 : 0 ≤ (0 : Int) := (by omega); have q152 : 0 < (t147.length : Int) := of_decide_eq_true (by first | (with_reducible assumption) | assumption); obtain ⟨ad152, e152, hx152_0⟩ := Kd.at_string (Kd.R_reads' HO149.out).2.2 0 p152 q152; cases e152; have qi152 : (0 < t147.length) = True := eq_true (by omega); (try rw [show ((0 : Int)).toNat = 0 from rfl] at hx152_0); (try rw [Addr.add_zero'] at hx152_0); replace p152 := eq_true p152; replace q152 := eq_true q152; have p153 : 0 ≤ (1 : Int) := (by omega); have q153 : 1 < (t147.length : Int) := of_decide_eq_true (by first | (with_reducible assumption) | assumption); obtain ⟨ad153, e153, hx153_0⟩ := Kd.at_string (Kd.R_reads' HO149.out).2.2 1 p153 q153; obtain rfl : ad152 = ad153 := (by injection e153); (try simp only [show (1 : Int).toNat = 1 from rfl, Nat.reduceMul, Nat.reduceEqDiff, Go.Addr.add, ↓reduceIte] at hx153_0); have qi153 : (1 < t147.length) = True := eq_true (by omega); (try rw [show ((1 : Int)).toNat = 1 from rfl] at hx153_0); replace p153 := eq_true p153; replace q153 := eq_true q153))
            go_ret2
            exact ⟨by first | rfl | (simp [errW_none, errW_some] <;> rfl) | (simp [*, errW_none, errW_some] <;> rfl), by repeat (first | (with_reducible first | exact HB.out | apply below_alloc | apply pw_below_drewN | apply below_drew1) | exact HB.out)⟩
          · rw [if_neg c10] at H
            exact absurd H (by simp)
        · rw [if_neg c9] at H
          have c9b0 : ((rdOf ByteArray.empty t147 0).toList == t150.toList) = false := beq_eq_false_iff_ne.mpr c9
          have c9b1 : ((rdOf ByteArray.empty t147 0).toList != t150.toList) = true := bne_iff_ne.mpr c9
          simp only [Option.some.injEq, Prod.mk.injEq] at H
          obtain ⟨rfl, rfl⟩ := H
          go_enter Try.func39, Try.ntmps39
          go_wp2_with (first | ((with_reducible refine gate_callee (f := 71) rfl ?_); refine goesL_ (some 10) rfl rfl Try.func71 (by kernel_rfl) rfl #[.string a0] rfl (by (try simp only [List.map_toArray, List.map_cons, List.map_nil]); first | done | rfl | (simp only [List.length_drop, List.length_take]; rfl)) ?_; (with_reducible refine (parts_Kind.calls a0 t146 _ A3.out).mono ?_); rintro e w15 ⟨rfl, hb⟩; refine ⟨_, rfl, ?_⟩; have n0_ := Aside0.mk (below_step (by repeat (first | (with_reducible first | exact HB.out | apply below_alloc | apply pw_below_drewN | apply below_drew1) | exact HB.out)) hb); clear HB; have HB := n0_; clear n0_; (try clear hb); (try clear hb2); (try clear hk); (try clear hi)) | ((with_reducible refine gate_callee (f := 74) rfl ?_); refine goesL_ (some 13) rfl rfl Try.func74 (by kernel_rfl) rfl #[.string a0] rfl (by (try simp only [List.map_toArray, List.map_cons, List.map_nil]); first | done | rfl | (simp only [List.length_drop, List.length_take]; rfl)) ?_; (with_reducible refine (parts_Of.calls a0 t147 _ A5.out).mono ?_); rintro e w16 ⟨v148, rfl, ho0, hb⟩; refine ⟨_, rfl, ?_⟩; have n0_ := Aside0.mk (Kd.R_lower ho0 (below_size (by repeat (first | (with_reducible first | exact HB.out | apply below_alloc | apply pw_below_drewN | apply below_drew1) | exact HB.out)))); have n1_ := Aside0.mk (below_step (by repeat (first | (with_reducible first | exact HB.out | apply below_alloc | apply pw_below_drewN | apply below_drew1) | exact HB.out)) hb); clear HB; have HO149 := n0_; have HB := n1_; clear n0_ n1_; (try clear hb); (try clear hb2); (try clear hk); (try clear hi); (try clear ho0)) | ((with_reducible refine gate_callee (f := 81) rfl ?_); refine goesL_ (some 16) rfl rfl Try.func81 (by kernel_rfl) rfl #[.int .i64 a1] rfl (by (try simp only [List.map_toArray, List.map_cons, List.map_nil]); first | done | rfl | (simp only [List.length_drop, List.length_take]; rfl)) ?_; (with_reducible refine (term_Private.calls a1 t150 t151 _ A6.out).mono ?_); rintro e w17 ⟨rfl, hb⟩; refine ⟨_, rfl, ?_⟩; have n0_ := Aside0.mk (Kd.R_below (by (with_reducible repeat (first | apply Kd.R_alloc | apply Kd.R_drewN | apply Kd.R_drew)); exact HO149.out) hb); have n1_ := Aside0.mk (below_step (by repeat (first | (with_reducible first | exact HB.out | apply below_alloc | apply pw_below_drewN | apply below_drew1) | exact HB.out)) hb); clear HO149; clear HB; have HO149 := n0_; have HB := n1_; clear n0_ n1_; (try clear hb); (try clear hb2); (try clear hk); (try clear hi); obtain ⟨Ao18, co18, eo18⟩ := Kd.R_slice HO149.out; subst eo18; have p152 : 0 ≤ (0 : Int) := (by omega); have q152 : 0 < (t147.length : Int) := of_decide_eq_true (by first | (with_reducible assumption) | assumption); obtain ⟨ad152, e152, hx152_0⟩ := Kd.at_string (Kd.R_reads' HO149.out).2.2 0 p152 q152; cases e152; have qi152 : (0 < t147.length) = True := eq_true (by omega); (try rw [show ((0 : Int)).toNat = 0 from rfl] at hx152_0); (try rw [Addr.add_zero'] at hx152_0); replace p152 := eq_true p152; replace q152 := eq_true q152))
          go_ret2
          exact ⟨by first | rfl | (simp [errW_none, errW_some] <;> rfl) | (simp [*, errW_none, errW_some] <;> rfl), by repeat (first | (with_reducible first | exact HB.out | apply below_alloc | apply pw_below_drewN | apply below_drew1) | exact HB.out)⟩
      · rw [if_neg c8] at H
        exact absurd H (by simp)
    · rw [if_neg c7] at H
      have c7b0 : (t151 == 0) = false := beq_eq_false_iff_ne.mpr c7
      have c7b1 : (t151 != 0) = true := bne_iff_ne.mpr c7
      simp only [Option.some.injEq, Prod.mk.injEq] at H
      obtain ⟨rfl, rfl⟩ := H
      go_enter Try.func39, Try.ntmps39
      go_wp2_with (first | ((with_reducible refine gate_callee (f := 71) rfl ?_); refine goesL_ (some 10) rfl rfl Try.func71 (by kernel_rfl) rfl #[.string a0] rfl (by (try simp only [List.map_toArray, List.map_cons, List.map_nil]); first | done | rfl | (simp only [List.length_drop, List.length_take]; rfl)) ?_; (with_reducible refine (parts_Kind.calls a0 t146 _ A3.out).mono ?_); rintro e w19 ⟨rfl, hb⟩; refine ⟨_, rfl, ?_⟩; have n0_ := Aside0.mk (below_step (by repeat (first | (with_reducible first | exact HB.out | apply below_alloc | apply pw_below_drewN | apply below_drew1) | exact HB.out)) hb); clear HB; have HB := n0_; clear n0_; (try clear hb); (try clear hb2); (try clear hk); (try clear hi)) | ((with_reducible refine gate_callee (f := 74) rfl ?_); refine goesL_ (some 13) rfl rfl Try.func74 (by kernel_rfl) rfl #[.string a0] rfl (by (try simp only [List.map_toArray, List.map_cons, List.map_nil]); first | done | rfl | (simp only [List.length_drop, List.length_take]; rfl)) ?_; (with_reducible refine (parts_Of.calls a0 t147 _ A5.out).mono ?_); rintro e w20 ⟨v148, rfl, ho0, hb⟩; refine ⟨_, rfl, ?_⟩; have n0_ := Aside0.mk (Kd.R_lower ho0 (below_size (by repeat (first | (with_reducible first | exact HB.out | apply below_alloc | apply pw_below_drewN | apply below_drew1) | exact HB.out)))); have n1_ := Aside0.mk (below_step (by repeat (first | (with_reducible first | exact HB.out | apply below_alloc | apply pw_below_drewN | apply below_drew1) | exact HB.out)) hb); clear HB; have HO149 := n0_; have HB := n1_; clear n0_ n1_; (try clear hb); (try clear hb2); (try clear hk); (try clear hi); (try clear ho0)) | ((with_reducible refine gate_callee (f := 81) rfl ?_); refine goesL_ (some 16) rfl rfl Try.func81 (by kernel_rfl) rfl #[.int .i64 a1] rfl (by (try simp only [List.map_toArray, List.map_cons, List.map_nil]); first | done | rfl | (simp only [List.length_drop, List.length_take]; rfl)) ?_; (with_reducible refine (term_Private.calls a1 t150 t151 _ A6.out).mono ?_); rintro e w21 ⟨rfl, hb⟩; refine ⟨_, rfl, ?_⟩; have n0_ := Aside0.mk (Kd.R_below (by (with_reducible repeat (first | apply Kd.R_alloc | apply Kd.R_drewN | apply Kd.R_drew)); exact HO149.out) hb); have n1_ := Aside0.mk (below_step (by repeat (first | (with_reducible first | exact HB.out | apply below_alloc | apply pw_below_drewN | apply below_drew1) | exact HB.out)) hb); clear HO149; clear HB; have HO149 := n0_; have HB := n1_; clear n0_ n1_; (try clear hb); (try clear hb2); (try clear hk); (try clear hi)))
      go_ret2
      exact ⟨by first | rfl | (simp [errW_none, errW_some] <;> rfl) | (simp [*, errW_none, errW_some] <;> rfl), by repeat (first | (with_reducible first | exact HB.out | apply below_alloc | apply pw_below_drewN | apply below_drew1) | exact HB.out)⟩
  · rw [if_neg c4] at H
    have c4b0 : (t146 == 120) = false := beq_eq_false_iff_ne.mpr c4
    have c4b1 : (t146 != 120) = true := bne_iff_ne.mpr c4
    simp only [Option.some.injEq, Prod.mk.injEq] at H
    obtain ⟨rfl, rfl⟩ := H
    go_enter Try.func39, Try.ntmps39
    go_wp2_with (first | ((with_reducible refine gate_callee (f := 71) rfl ?_); refine goesL_ (some 10) rfl rfl Try.func71 (by kernel_rfl) rfl #[.string a0] rfl (by (try simp only [List.map_toArray, List.map_cons, List.map_nil]); first | done | rfl | (simp only [List.length_drop, List.length_take]; rfl)) ?_; (with_reducible refine (parts_Kind.calls a0 t146 _ A3.out).mono ?_); rintro e w22 ⟨rfl, hb⟩; refine ⟨_, rfl, ?_⟩; have n0_ := Aside0.mk (below_step (by repeat (first | (with_reducible first | exact HB.out | apply below_alloc | apply pw_below_drewN | apply below_drew1) | exact HB.out)) hb); clear HB; have HB := n0_; clear n0_; (try clear hb); (try clear hb2); (try clear hk); (try clear hi)))
    go_ret2
    exact ⟨by first | rfl | (simp [errW_none, errW_some] <;> rfl) | (simp [*, errW_none, errW_some] <;> rfl), by repeat (first | (with_reducible first | exact HB.out | apply below_alloc | apply pw_below_drewN | apply below_drew1) | exact HB.out)⟩

open Go.Proofs.Ytpfpmjdifnoeoaa.Pure
/-- What is told of a text that is checked as a process's. -/
def checkP (t : ByteArray) (p : Int) : ByteArray × Int :=
  if kindF t = 120 then (if (privF p).2 = 0 ∧ rdOf ByteArray.empty (kidsF t) 0 = (privF p).1 then (rdOf ByteArray.empty (kidsF t) 1, 0) else (⟨#[]⟩, 6)) else (⟨#[]⟩, 2)
def parts_Check.f (t : ByteArray) (p : Int) : Option (ByteArray × Int) := if t.size < 9223372036854775000 then some (checkP t p) else none
theorem parts_Check.eq (t : ByteArray) (p : Int) (hs : t.size < 9223372036854775000) : parts_Check_p.f t p = some (checkP t p) := by
  unfold parts_Check_p.f parts_Kind.f parts_Of.f term_Private.f checkP
  simp only [if_pos hs, Option.bind_some]
  by_cases c : kindF t = 120
  · obtain ⟨hr, hb⟩ := kind_right c (by decide)
    obtain ⟨x, y, hk, _⟩ := kids_sign hr hb
    have hp : kidsP t = [x, y] := by unfold kidsP; rw [if_pos hr, hk]
    rw [if_pos c, if_pos c, hp, hk]
    have hx : rdOf ByteArray.empty [x, y] 0 = x := rfl
    rw [hx]
    by_cases d : (privF p).2 = 0
    · rw [if_pos d, if_pos (by simp)]
      by_cases g : x = (privF p).1
      · rw [if_pos (by rw [g]), if_pos (by simp), if_pos ⟨d, g⟩]
      · rw [if_neg (fun h => g (same_text h)), if_neg (fun h => g h.2)]
    · rw [if_neg d, if_neg (fun h => d h.1)]
  · rw [if_neg c, if_neg c]
theorem parts_Check.calls (a0 : ByteArray) (a1 : Int) (r1 : ByteArray) (r2 : Int) (w : World) (h : parts_Check.f a0 a1 = some (r1, r2)) :
    Calls Try.prog 39 #[.string a0, .int .i64 a1] w fun e w' => e = .returned (.tuple #[.string r1, .int .i64 r2]) ∧ Below w.heap.size w w' := by
  unfold parts_Check.f at h
  split at h
  case isFalse => cases h
  rename_i hs
  exact parts_Check_p.calls a0 a1 r1 r2 w ((parts_Check.eq a0 a1 hs).trans h)

end Go.Proofs.Ytpfpmjdifnoeoaa.F
namespace Go.Proofs.Ytpfpmjdifnoeoaa.Pure
set_option linter.unusedVariables false
set_option linter.unusedSimpArgs false
open Go.RowKit Go.Proofs.Ytpfpmjdifnoeoaa.F Go.Proofs.YtpfpmjdifnoeoaaW.PrintWords Go.Proofs.YtpfpmjdifnoeoaaW.PrintLast

theorem kids_of {h : ByteArray} {ts : List ByteArray} {pow : Bool} (hh : HeadOf h ts pow) (hp : ∀ x ∈ ts, Part 399 x) (hr : pow = true → Rises ⟨#[]⟩ ts) (hs : (h ++ cat ts).size ≤ 20000) :
    rightB (h ++ cat ts) = true ∧ kidsP (h ++ cat ts) = ts ∧ kidsF (h ++ cat ts) = ts ∧ kindF (h ++ cat ts) = bt h 0 := by
  obtain ⟨n, _⟩ := node_made (m := 399) (by decide) hh hp hr (by decide)
  have h1 := node_right n hs
  have h2 := kids_node n hs
  refine ⟨h1, ?_, h2, ?_⟩
  · unfold kidsP; rw [if_pos h1, h2]
  · unfold kindF; rw [if_pos h1]; exact bt_head n
theorem kids_pairM {a b : ByteArray} (ha : Part 399 a) (hb : Part 399 b) (hs : a.size + b.size < 20000) :
    rightB ((⟨#[112]⟩ : ByteArray) ++ cat [a, b]) = true ∧ kidsP ((⟨#[112]⟩ : ByteArray) ++ cat [a, b]) = [a, b] ∧ kidsF ((⟨#[112]⟩ : ByteArray) ++ cat [a, b]) = [a, b] ∧ kindF ((⟨#[112]⟩ : ByteArray) ++ cat [a, b]) = 112 :=
  kids_of (HeadOf.pair a b) (mem2 ha hb) (fun h => absurd h (by simp)) (by rw [cat2, ByteArray.size_append, ByteArray.size_append]; show 1 + _ ≤ _; omega)
theorem kids_signM {a b : ByteArray} (ha : Part 399 a) (hb : Part 399 b) (hs : a.size + b.size < 20000) :
    rightB ((⟨#[120]⟩ : ByteArray) ++ cat [a, b]) = true ∧ kidsP ((⟨#[120]⟩ : ByteArray) ++ cat [a, b]) = [a, b] ∧ kidsF ((⟨#[120]⟩ : ByteArray) ++ cat [a, b]) = [a, b] ∧ kindF ((⟨#[120]⟩ : ByteArray) ++ cat [a, b]) = 120 :=
  kids_of (HeadOf.sign a b) (mem2 ha hb) (fun h => absurd h (by simp)) (by rw [cat2, ByteArray.size_append, ByteArray.size_append]; show 1 + _ ≤ _; omega)
theorem kids_hashM {a : ByteArray} (ha : Part 399 a) (hs : a.size < 20000) :
    rightB ((⟨#[104]⟩ : ByteArray) ++ cat [a]) = true ∧ kidsP ((⟨#[104]⟩ : ByteArray) ++ cat [a]) = [a] ∧ kidsF ((⟨#[104]⟩ : ByteArray) ++ cat [a]) = [a] ∧ kindF ((⟨#[104]⟩ : ByteArray) ++ cat [a]) = 104 :=
  kids_of (HeadOf.hash a) (mem1 ha) (fun h => absurd h (by simp)) (by rw [cat1, ByteArray.size_append]; show 1 + _ ≤ _; omega)
theorem kids_sealM {a b c : ByteArray} (ha : Part 399 a) (hb : Part 399 b) (hc : Part 399 c) (hs : a.size + b.size + c.size < 20000) :
    rightB ((⟨#[115]⟩ : ByteArray) ++ cat [a, b, c]) = true ∧ kidsP ((⟨#[115]⟩ : ByteArray) ++ cat [a, b, c]) = [a, b, c] ∧ kidsF ((⟨#[115]⟩ : ByteArray) ++ cat [a, b, c]) = [a, b, c] ∧ kindF ((⟨#[115]⟩ : ByteArray) ++ cat [a, b, c]) = 115 :=
  kids_of (HeadOf.sealed a b c) (mem3 ha hb hc) (fun h => absurd h (by simp)) (by rw [cat3, ByteArray.size_append, ByteArray.size_append, ByteArray.size_append]; show 1 + _ ≤ _; omega)
theorem kind_leaf {t : ByteArray} (h : Leaf t) (hs : t.size ≤ 20000) : kindF t = bt t 0 := by
  unfold kindF
  rw [if_pos (h.right hs)]
theorem kidsP_leaf {t : ByteArray} (h : Leaf t) : kidsP t = [] := by
  unfold kidsP
  split
  · exact kids_leaf h
  · rfl
end Go.Proofs.Ytpfpmjdifnoeoaa.Pure
namespace Go.Proofs.Ytpfpmjdifnoeoaa.F
open Go.RowKit Go.Proofs.YtpfpmjdifnoeoaaW.PrintWords Go.Proofs.YtpfpmjdifnoeoaaW.PrintLast Go.Proofs.YtpfpmjdifnoeoaaW.PrintMore
attribute [local go_sem] max2_int min2_int max_two min_two max_three min_three max_four min_four
set_option linter.unusedVariables false
set_option linter.unusedSimpArgs false

/-! ### gemotlaw2_shown: function 36 -/
/-! #### gemotlaw2_shown_p: function 36 -/
def gemotlaw2_shown_p.f  : Option (Bool) := (parts_Of.f (⟨#[112, 103, 104, 103]⟩ : ByteArray)).bind fun t107 => (if (t107.length : Int) = 2 then (if 0 < (t107.length : Int) then (if (rdOf ByteArray.empty t107 0).toList = ([103] : List UInt8) then (if 1 < (t107.length : Int) then (some ((rdOf ByteArray.empty t107 1).toList == ([104, 103] : List UInt8))) else (none)) else (some false)) else (none)) else (some false))
set_option maxHeartbeats 8000000 in
set_option maxRecDepth 100000 in
theorem gemotlaw2_shown_p.calls  (r : Bool) (w : World) (h : gemotlaw2_shown_p.f  = some r) :
    Calls Try.prog 36 #[] w fun e w' => e = .returned (.bool r) ∧ Below w.heap.size w w' := by
  have HB := Aside0.mk (Below.refl w.heap.size w)
  have H : ((parts_Of.f (⟨#[112, 103, 104, 103]⟩ : ByteArray)).bind fun t107 => (if (t107.length : Int) = 2 then (if 0 < (t107.length : Int) then (if (rdOf ByteArray.empty t107 0).toList = ([103] : List UInt8) then (if 1 < (t107.length : Int) then (some ((rdOf ByteArray.empty t107 1).toList == ([104, 103] : List UInt8))) else (none)) else (some false)) else (none)) else (some false))) = some r := h
  clear h
  replace H := Option.bind_eq_some_iff.mp H
  obtain ⟨t107, A10, H⟩ := H
  replace H : (if (t107.length : Int) = 2 then (if 0 < (t107.length : Int) then (if (rdOf ByteArray.empty t107 0).toList = ([103] : List UInt8) then (if 1 < (t107.length : Int) then (some ((rdOf ByteArray.empty t107 1).toList == ([104, 103] : List UInt8))) else (none)) else (some false)) else (none)) else (some false)) = some r := H
  have A1 := Aside0.mk A10
  clear A10
  by_cases c2 : (t107.length : Int) = 2
  · rw [if_pos c2] at H
    have c2b0 : ((t107.length : Int) == 2) = true := beq_iff_eq.mpr c2
    have c2b1 : ((t107.length : Int) != 2) = false := bne_eq_false_iff_eq.mpr c2
    clear c2
    by_cases c3 : 0 < (t107.length : Int)
    · rw [if_pos c3] at H
      have c3b0 : decide (0 < (t107.length : Int)) = true := decide_eq_true c3
      have c3b1 : decide (0 < t107.length) = true := decide_eq_true (by omega)
      clear c3
      by_cases c4 : (rdOf ByteArray.empty t107 0).toList = ([103] : List UInt8)
      · rw [if_pos c4] at H
        have c4b0 : ((rdOf ByteArray.empty t107 0).toList == ([103] : List UInt8)) = true := beq_iff_eq.mpr c4
        have c4b1 : ((rdOf ByteArray.empty t107 0).toList != ([103] : List UInt8)) = false := bne_eq_false_iff_eq.mpr c4
        clear c4
        by_cases c5 : 1 < (t107.length : Int)
        · rw [if_pos c5] at H
          have c5b0 : decide (1 < (t107.length : Int)) = true := decide_eq_true c5
          have c5b1 : decide (1 < t107.length) = true := decide_eq_true (by omega)
          clear c5
          obtain rfl := Option.some.inj H
          go_enter Try.func36, Try.ntmps36
          go_wp2_with (first | ((with_reducible refine gate_callee (f := 74) rfl ?_); refine goesL_ (some 2) rfl rfl Try.func74 (by kernel_rfl) rfl #[.string (⟨#[112, 103, 104, 103]⟩ : ByteArray)] rfl (by (try simp only [List.map_toArray, List.map_cons, List.map_nil]); first | done | rfl | (simp only [List.length_drop, List.length_take]; rfl)) ?_; (with_reducible refine (parts_Of.calls (⟨#[112, 103, 104, 103]⟩ : ByteArray) t107 _ A1.out).mono ?_); rintro e w6 ⟨v108, rfl, ho0, hb⟩; refine ⟨_, rfl, ?_⟩; have n0_ := Aside0.mk (Kd.R_lower ho0 (below_size (by repeat (first | (with_reducible first | exact HB.out | apply below_alloc | apply pw_below_drewN | apply below_drew1) | exact HB.out)))); have n1_ := Aside0.mk (below_step (by repeat (first | (with_reducible first | exact HB.out | apply below_alloc | apply pw_below_drewN | apply below_drew1) | exact HB.out)) hb); clear HB; have HO109 := n0_; have HB := n1_; clear n0_ n1_; (try clear hb); (try clear hb2); (try clear hk); (try clear hi); (try clear ho0); obtain ⟨Ao7, co7, eo7⟩ := Kd.R_slice HO109.out; subst eo7; have p110 : 0 ≤ (0 : Int) := (by omega); have q110 : 0 < (t107.length : Int) := of_decide_eq_true (by first | (with_reducible assumption) | assumption); obtain ⟨ad110, e110, hx110_0⟩ := Kd.at_string (Kd.R_reads' HO109.out).2.2 0 p110 q110; cases e110; have qi110 : (0 < t107.length) = True := eq_true (by omega); (try rw [show ((0 : Int)).toNat = 0 from rfl] at hx110_0); (try rw [Addr.add_zero'] at hx110_0); replace p110 := eq_true p110; replace q110 := eq_true q110; have p111 : 0 ≤ (1 : Int) := (by omega); have q111 : 1 < (t107.length : Int) := of_decide_eq_true (by first | (with_reducible assumption) | assumption); obtain ⟨ad111, e111, hx111_0⟩ := Kd.at_string (Kd.R_reads' HO109.out).2.2 1 p111 q111; obtain rfl : ad110 = ad111 := (by injection e111); (try simp only [show (1 : Int).toNat = 1 from rfl, Nat.reduceMul, Nat.reduceEqDiff, Go.Addr.add, ↓reduceIte] at hx111_0); have qi111 : (1 < t107.length) = True := eq_true (by omega); (try rw [show ((1 : Int)).toNat = 1 from rfl] at hx111_0); replace p111 := eq_true p111; replace q111 := eq_true q111))
          go_ret
          exact ⟨by first | rfl | (simp [errW_none, errW_some] <;> rfl) | (simp [*, errW_none, errW_some] <;> rfl), by repeat (first | (with_reducible first | exact HB.out | apply below_alloc | apply pw_below_drewN | apply below_drew1) | exact HB.out)⟩
        · rw [if_neg c5] at H
          exact absurd H (by simp)
      · rw [if_neg c4] at H
        have c4b0 : ((rdOf ByteArray.empty t107 0).toList == ([103] : List UInt8)) = false := beq_eq_false_iff_ne.mpr c4
        have c4b1 : ((rdOf ByteArray.empty t107 0).toList != ([103] : List UInt8)) = true := bne_iff_ne.mpr c4
        obtain rfl := Option.some.inj H
        go_enter Try.func36, Try.ntmps36
        go_wp2_with (first | ((with_reducible refine gate_callee (f := 74) rfl ?_); refine goesL_ (some 2) rfl rfl Try.func74 (by kernel_rfl) rfl #[.string (⟨#[112, 103, 104, 103]⟩ : ByteArray)] rfl (by (try simp only [List.map_toArray, List.map_cons, List.map_nil]); first | done | rfl | (simp only [List.length_drop, List.length_take]; rfl)) ?_; (with_reducible refine (parts_Of.calls (⟨#[112, 103, 104, 103]⟩ : ByteArray) t107 _ A1.out).mono ?_); rintro e w8 ⟨v108, rfl, ho0, hb⟩; refine ⟨_, rfl, ?_⟩; have n0_ := Aside0.mk (Kd.R_lower ho0 (below_size (by repeat (first | (with_reducible first | exact HB.out | apply below_alloc | apply pw_below_drewN | apply below_drew1) | exact HB.out)))); have n1_ := Aside0.mk (below_step (by repeat (first | (with_reducible first | exact HB.out | apply below_alloc | apply pw_below_drewN | apply below_drew1) | exact HB.out)) hb); clear HB; have HO109 := n0_; have HB := n1_; clear n0_ n1_; (try clear hb); (try clear hb2); (try clear hk); (try clear hi); (try clear ho0); obtain ⟨Ao9, co9, eo9⟩ := Kd.R_slice HO109.out; subst eo9; have p110 : 0 ≤ (0 : Int) := (by omega); have q110 : 0 < (t107.length : Int) := of_decide_eq_true (by first | (with_reducible assumption) | assumption); obtain ⟨ad110, e110, hx110_0⟩ := Kd.at_string (Kd.R_reads' HO109.out).2.2 0 p110 q110; cases e110; have qi110 : (0 < t107.length) = True := eq_true (by omega); (try rw [show ((0 : Int)).toNat = 0 from rfl] at hx110_0); (try rw [Addr.add_zero'] at hx110_0); replace p110 := eq_true p110; replace q110 := eq_true q110))
        go_ret
        exact ⟨by first | rfl | (simp [errW_none, errW_some] <;> rfl) | (simp [*, errW_none, errW_some] <;> rfl), by repeat (first | (with_reducible first | exact HB.out | apply below_alloc | apply pw_below_drewN | apply below_drew1) | exact HB.out)⟩
    · rw [if_neg c3] at H
      exact absurd H (by simp)
  · rw [if_neg c2] at H
    have c2b0 : ((t107.length : Int) == 2) = false := beq_eq_false_iff_ne.mpr c2
    have c2b1 : ((t107.length : Int) != 2) = true := bne_iff_ne.mpr c2
    obtain rfl := Option.some.inj H
    go_enter Try.func36, Try.ntmps36
    go_wp2_with (first | ((with_reducible refine gate_callee (f := 74) rfl ?_); refine goesL_ (some 2) rfl rfl Try.func74 (by kernel_rfl) rfl #[.string (⟨#[112, 103, 104, 103]⟩ : ByteArray)] rfl (by (try simp only [List.map_toArray, List.map_cons, List.map_nil]); first | done | rfl | (simp only [List.length_drop, List.length_take]; rfl)) ?_; (with_reducible refine (parts_Of.calls (⟨#[112, 103, 104, 103]⟩ : ByteArray) t107 _ A1.out).mono ?_); rintro e w10 ⟨v108, rfl, ho0, hb⟩; refine ⟨_, rfl, ?_⟩; have n0_ := Aside0.mk (Kd.R_lower ho0 (below_size (by repeat (first | (with_reducible first | exact HB.out | apply below_alloc | apply pw_below_drewN | apply below_drew1) | exact HB.out)))); have n1_ := Aside0.mk (below_step (by repeat (first | (with_reducible first | exact HB.out | apply below_alloc | apply pw_below_drewN | apply below_drew1) | exact HB.out)) hb); clear HB; have HO109 := n0_; have HB := n1_; clear n0_ n1_; (try clear hb); (try clear hb2); (try clear hk); (try clear hi); (try clear ho0); obtain ⟨Ao11, co11, eo11⟩ := Kd.R_slice HO109.out; subst eo11))
    go_ret
    exact ⟨by first | rfl | (simp [errW_none, errW_some] <;> rfl) | (simp [*, errW_none, errW_some] <;> rfl), by repeat (first | (with_reducible first | exact HB.out | apply below_alloc | apply pw_below_drewN | apply below_drew1) | exact HB.out)⟩

open Go.Proofs.Ytpfpmjdifnoeoaa.Pure
def gemotlaw2_shown.f : Option Bool := some true
theorem gemotlaw2_shown.eq : gemotlaw2_shown_p.f = some true := by
  have hg : Part 1 ⟨#[103]⟩ := gen_leaf.part (by decide) (by decide)
  have hh := hash_made (m := 1) (by decide) (by decide) hg (by decide)
  have h2 : Part 2 (⟨#[104, 103]⟩ : ByteArray) := hh.2
  have h3 := kids_pairM (hg.mono (n := 399) (by decide)) (h2.mono (n := 399) (by decide)) (by decide)
  have h4 : kidsP (⟨#[112, 103, 104, 103]⟩ : ByteArray) = [⟨#[103]⟩, ⟨#[104, 103]⟩] := h3.2.1
  unfold gemotlaw2_shown_p.f parts_Of.f
  have e1 : (⟨#[103]⟩ : ByteArray).toList = [103] := by rw [ByteArray.toList_eq]
  have e2 : (⟨#[104, 103]⟩ : ByteArray).toList = [104, 103] := by rw [ByteArray.toList_eq]
  rw [if_pos (by decide), h4]
  simp only [Option.bind_some]
  rw [if_pos (by decide), if_pos (by decide), show rdOf ByteArray.empty [(⟨#[103]⟩ : ByteArray), ⟨#[104, 103]⟩] 0 = ⟨#[103]⟩ from rfl, show rdOf ByteArray.empty [(⟨#[103]⟩ : ByteArray), ⟨#[104, 103]⟩] 1 = ⟨#[104, 103]⟩ from rfl, if_pos e1, if_pos (by decide), e2]
  rfl
theorem gemotlaw2_shown.calls (r : Bool) (w : World) (h : gemotlaw2_shown.f = some r) :
    Calls Try.prog 36 #[] w fun e w' => e = .returned (.bool r) ∧ Below w.heap.size w w' :=
  gemotlaw2_shown_p.calls r w (gemotlaw2_shown.eq.trans h)

end Go.Proofs.Ytpfpmjdifnoeoaa.F
namespace Go.Proofs.Ytpfpmjdifnoeoaa.F
open Go.RowKit Go.Proofs.YtpfpmjdifnoeoaaW.PrintWords Go.Proofs.YtpfpmjdifnoeoaaW.PrintLast Go.Proofs.YtpfpmjdifnoeoaaW.PrintMore
attribute [local go_sem] max2_int min2_int max_two min_two max_three min_three max_four min_four
set_option linter.unusedVariables false
set_option linter.unusedSimpArgs false

/-! ### gemotref1_Take: function 152 -/
/-! #### gemotref1_Take_p: function 152 -/
def gemotref1_Take_p.f (a0 : ByteArray) : Option (ByteArray × ByteArray × Int) := (gemotref1_End.f a0 0 400).bind fun bt124 => (if bt124.1 = (-1) then (some ((⟨#[]⟩ : ByteArray), (⟨#[]⟩ : ByteArray), 2)) else (if bt124.1 = (-2) then (some ((⟨#[]⟩ : ByteArray), (⟨#[]⟩ : ByteArray), 4)) else (if bt124.1 > 20000 then (some ((⟨#[]⟩ : ByteArray), (⟨#[]⟩ : ByteArray), 3)) else (if 0 ≤ bt124.1 then (if bt124.1 ≤ (a0.size : Int) then (some (a0.extract 0 (bt124.1 : Int).toNat, a0.extract (bt124.1 : Int).toNat a0.size, 0)) else (none)) else (none)))))
set_option maxHeartbeats 8000000 in
set_option maxRecDepth 100000 in
theorem gemotref1_Take_p.calls (a0 : ByteArray) (r1 : ByteArray) (r2 : ByteArray) (r3 : Int) (w : World) (h : gemotref1_Take_p.f a0 = some (r1, r2, r3)) :
    Calls Try.prog 152 #[.string a0] w fun e w' => e = .returned (.tuple #[.string r1, .string r2, .int .i64 r3]) ∧ Below w.heap.size w w' := by
  have HB := Aside0.mk (Below.refl w.heap.size w)
  have H : ((gemotref1_End.f a0 0 400).bind fun bt124 => (if bt124.1 = (-1) then (some ((⟨#[]⟩ : ByteArray), (⟨#[]⟩ : ByteArray), 2)) else (if bt124.1 = (-2) then (some ((⟨#[]⟩ : ByteArray), (⟨#[]⟩ : ByteArray), 4)) else (if bt124.1 > 20000 then (some ((⟨#[]⟩ : ByteArray), (⟨#[]⟩ : ByteArray), 3)) else (if 0 ≤ bt124.1 then (if bt124.1 ≤ (a0.size : Int) then (some (a0.extract 0 (bt124.1 : Int).toNat, a0.extract (bt124.1 : Int).toNat a0.size, 0)) else (none)) else (none)))))) = some (r1, r2, r3) := h
  clear h
  replace H := Option.bind_eq_some_iff.mp H
  obtain ⟨⟨t124, t125⟩, A20, H⟩ := H
  replace H : (if t124 = (-1) then (some ((⟨#[]⟩ : ByteArray), (⟨#[]⟩ : ByteArray), 2)) else (if t124 = (-2) then (some ((⟨#[]⟩ : ByteArray), (⟨#[]⟩ : ByteArray), 4)) else (if t124 > 20000 then (some ((⟨#[]⟩ : ByteArray), (⟨#[]⟩ : ByteArray), 3)) else (if 0 ≤ t124 then (if t124 ≤ (a0.size : Int) then (some (a0.extract 0 (t124 : Int).toNat, a0.extract (t124 : Int).toNat a0.size, 0)) else (none)) else (none))))) = some (r1, r2, r3) := H
  have A2 := Aside0.mk A20
  clear A20
  by_cases c3 : t124 = (-1)
  · rw [if_pos c3] at H
    have c3b0 : (t124 == (-1)) = true := beq_iff_eq.mpr c3
    have c3b1 : (t124 != (-1)) = false := bne_eq_false_iff_eq.mpr c3
    clear c3
    simp only [Option.some.injEq, Prod.mk.injEq] at H
    obtain ⟨rfl, rfl, rfl⟩ := H
    go_enter Try.func152, Try.ntmps152
    go_wp2_with (first | (go_at_call 126; (with_reducible refine (gemotref1_End.calls a0 0 400 t124 t125 _ A2.out).mono ?_); rintro e w4 ⟨rfl, hb⟩; have n0_ := Aside0.mk (below_step (by repeat (first | (with_reducible first | exact HB.out | apply below_alloc | apply pw_below_drewN | apply below_drew1) | exact HB.out)) hb); clear HB; have HB := n0_; clear n0_; (try clear hb); (try clear hb2); (try clear hk); (try clear hi)))
    repeat (go_quiet (first | (go_at_call 126; (with_reducible refine (gemotref1_End.calls a0 0 400 t124 t125 _ A2.out).mono ?_); rintro e w4 ⟨rfl, hb⟩; have n0_ := Aside0.mk (below_step (by repeat (first | (with_reducible first | exact HB.out | apply below_alloc | apply pw_below_drewN | apply below_drew1) | exact HB.out)) hb); clear HB; have HB := n0_; clear n0_; (try clear hb); (try clear hb2); (try clear hk); (try clear hi))); try go_wp2_with (first | (go_at_call 126; (with_reducible refine (gemotref1_End.calls a0 0 400 t124 t125 _ A2.out).mono ?_); rintro e w4 ⟨rfl, hb⟩; have n0_ := Aside0.mk (below_step (by repeat (first | (with_reducible first | exact HB.out | apply below_alloc | apply pw_below_drewN | apply below_drew1) | exact HB.out)) hb); clear HB; have HB := n0_; clear n0_; (try clear hb); (try clear hb2); (try clear hk); (try clear hi))))
    go_ret3
    exact ⟨by first | rfl | (simp [errW_none, errW_some] <;> rfl) | (simp [*, errW_none, errW_some] <;> rfl), by repeat (first | (with_reducible first | exact HB.out | apply below_alloc | apply pw_below_drewN | apply below_drew1) | exact HB.out)⟩
  · rw [if_neg c3] at H
    have c3b0 : (t124 == (-1)) = false := beq_eq_false_iff_ne.mpr c3
    have c3b1 : (t124 != (-1)) = true := bne_iff_ne.mpr c3
    by_cases c5 : t124 = (-2)
    · rw [if_pos c5] at H
      have c5b0 : (t124 == (-2)) = true := beq_iff_eq.mpr c5
      have c5b1 : (t124 != (-2)) = false := bne_eq_false_iff_eq.mpr c5
      clear c5
      simp only [Option.some.injEq, Prod.mk.injEq] at H
      obtain ⟨rfl, rfl, rfl⟩ := H
      go_enter Try.func152, Try.ntmps152
      go_wp2_with (first | (go_at_call 126; (with_reducible refine (gemotref1_End.calls a0 0 400 t124 t125 _ A2.out).mono ?_); rintro e w6 ⟨rfl, hb⟩; have n0_ := Aside0.mk (below_step (by repeat (first | (with_reducible first | exact HB.out | apply below_alloc | apply pw_below_drewN | apply below_drew1) | exact HB.out)) hb); clear HB; have HB := n0_; clear n0_; (try clear hb); (try clear hb2); (try clear hk); (try clear hi)))
      repeat (go_quiet (first | (go_at_call 126; (with_reducible refine (gemotref1_End.calls a0 0 400 t124 t125 _ A2.out).mono ?_); rintro e w6 ⟨rfl, hb⟩; have n0_ := Aside0.mk (below_step (by repeat (first | (with_reducible first | exact HB.out | apply below_alloc | apply pw_below_drewN | apply below_drew1) | exact HB.out)) hb); clear HB; have HB := n0_; clear n0_; (try clear hb); (try clear hb2); (try clear hk); (try clear hi))); try go_wp2_with (first | (go_at_call 126; (with_reducible refine (gemotref1_End.calls a0 0 400 t124 t125 _ A2.out).mono ?_); rintro e w6 ⟨rfl, hb⟩; have n0_ := Aside0.mk (below_step (by repeat (first | (with_reducible first | exact HB.out | apply below_alloc | apply pw_below_drewN | apply below_drew1) | exact HB.out)) hb); clear HB; have HB := n0_; clear n0_; (try clear hb); (try clear hb2); (try clear hk); (try clear hi))))
      go_ret3
      exact ⟨by first | rfl | (simp [errW_none, errW_some] <;> rfl) | (simp [*, errW_none, errW_some] <;> rfl), by repeat (first | (with_reducible first | exact HB.out | apply below_alloc | apply pw_below_drewN | apply below_drew1) | exact HB.out)⟩
    · rw [if_neg c5] at H
      have c5b0 : (t124 == (-2)) = false := beq_eq_false_iff_ne.mpr c5
      have c5b1 : (t124 != (-2)) = true := bne_iff_ne.mpr c5
      by_cases c7 : t124 > 20000
      · rw [if_pos c7] at H
        have c7b0 : decide (20000 < t124) = true := decide_eq_true c7
        clear c7
        simp only [Option.some.injEq, Prod.mk.injEq] at H
        obtain ⟨rfl, rfl, rfl⟩ := H
        go_enter Try.func152, Try.ntmps152
        go_wp2_with (first | (go_at_call 126; (with_reducible refine (gemotref1_End.calls a0 0 400 t124 t125 _ A2.out).mono ?_); rintro e w8 ⟨rfl, hb⟩; have n0_ := Aside0.mk (below_step (by repeat (first | (with_reducible first | exact HB.out | apply below_alloc | apply pw_below_drewN | apply below_drew1) | exact HB.out)) hb); clear HB; have HB := n0_; clear n0_; (try clear hb); (try clear hb2); (try clear hk); (try clear hi)))
        repeat (go_quiet (first | (go_at_call 126; (with_reducible refine (gemotref1_End.calls a0 0 400 t124 t125 _ A2.out).mono ?_); rintro e w8 ⟨rfl, hb⟩; have n0_ := Aside0.mk (below_step (by repeat (first | (with_reducible first | exact HB.out | apply below_alloc | apply pw_below_drewN | apply below_drew1) | exact HB.out)) hb); clear HB; have HB := n0_; clear n0_; (try clear hb); (try clear hb2); (try clear hk); (try clear hi))); try go_wp2_with (first | (go_at_call 126; (with_reducible refine (gemotref1_End.calls a0 0 400 t124 t125 _ A2.out).mono ?_); rintro e w8 ⟨rfl, hb⟩; have n0_ := Aside0.mk (below_step (by repeat (first | (with_reducible first | exact HB.out | apply below_alloc | apply pw_below_drewN | apply below_drew1) | exact HB.out)) hb); clear HB; have HB := n0_; clear n0_; (try clear hb); (try clear hb2); (try clear hk); (try clear hi))))
        go_ret3
        exact ⟨by first | rfl | (simp [errW_none, errW_some] <;> rfl) | (simp [*, errW_none, errW_some] <;> rfl), by repeat (first | (with_reducible first | exact HB.out | apply below_alloc | apply pw_below_drewN | apply below_drew1) | exact HB.out)⟩
      · rw [if_neg c7] at H
        have c7b0 : decide (20000 < t124) = false := decide_eq_false c7
        clear c7
        by_cases c9 : 0 ≤ t124
        · rw [if_pos c9] at H
          have c9b0 := eq_true c9
          have c9b1 : decide (0 ≤ t124) = true := decide_eq_true c9
          clear c9
          by_cases c10 : t124 ≤ (a0.size : Int)
          · rw [if_pos c10] at H
            have c10b0 := eq_true c10
            have c10b1 : decide (t124 ≤ (a0.size : Int)) = true := decide_eq_true c10
            clear c10
            have c11b0 := eq_true (of_decide_eq_true (by first | (with_reducible assumption) | assumption) : 0 ≤ t124)
            have c12b0 := eq_true (of_decide_eq_true (by first | (with_reducible assumption) | assumption) : t124 ≤ (a0.size : Int))
            simp only [Option.some.injEq, Prod.mk.injEq] at H
            obtain ⟨rfl, rfl, rfl⟩ := H
            go_enter Try.func152, Try.ntmps152
            go_wp2_with (first | (go_at_call 126; (with_reducible refine (gemotref1_End.calls a0 0 400 t124 t125 _ A2.out).mono ?_); rintro e w13 ⟨rfl, hb⟩; have n0_ := Aside0.mk (below_step (by repeat (first | (with_reducible first | exact HB.out | apply below_alloc | apply pw_below_drewN | apply below_drew1) | exact HB.out)) hb); clear HB; have HB := n0_; clear n0_; (try clear hb); (try clear hb2); (try clear hk); (try clear hi)))
            repeat (go_quiet (first | (go_at_call 126; (with_reducible refine (gemotref1_End.calls a0 0 400 t124 t125 _ A2.out).mono ?_); rintro e w13 ⟨rfl, hb⟩; have n0_ := Aside0.mk (below_step (by repeat (first | (with_reducible first | exact HB.out | apply below_alloc | apply pw_below_drewN | apply below_drew1) | exact HB.out)) hb); clear HB; have HB := n0_; clear n0_; (try clear hb); (try clear hb2); (try clear hk); (try clear hi))); try go_wp2_with (first | (go_at_call 126; (with_reducible refine (gemotref1_End.calls a0 0 400 t124 t125 _ A2.out).mono ?_); rintro e w13 ⟨rfl, hb⟩; have n0_ := Aside0.mk (below_step (by repeat (first | (with_reducible first | exact HB.out | apply below_alloc | apply pw_below_drewN | apply below_drew1) | exact HB.out)) hb); clear HB; have HB := n0_; clear n0_; (try clear hb); (try clear hb2); (try clear hk); (try clear hi))))
            go_ret3
            exact ⟨by first | rfl | (simp [errW_none, errW_some] <;> rfl) | (simp [*, errW_none, errW_some] <;> rfl), by repeat (first | (with_reducible first | exact HB.out | apply below_alloc | apply pw_below_drewN | apply below_drew1) | exact HB.out)⟩
          · rw [if_neg c10] at H
            exact absurd H (by simp)
        · rw [if_neg c9] at H
          exact absurd H (by simp)

def gemotref1_Take.f (s : ByteArray) : Option (ByteArray × ByteArray × Int) := if s.size < 9223372036854770000 then some (takeF s) else none
theorem codes {s : ByteArray} {p : Int → Int × Int × Int} {pow : Bool} (hp : ∀ i, (p i).2.2 = 0 ∨ (p i).2.2 = 2 ∨ (p i).2.2 = 4) : ∀ (m : Nat) (i dep : Int) (last : ByteArray), (partsF s p pow m i dep last).2.2 = 0 ∨ (partsF s p pow m i dep last).2.2 = 2 ∨ (partsF s p pow m i dep last).2.2 = 4
  | 0, _, _, _ => .inl rfl
  | m + 1, i, dep, last => by
    simp only [partsF]
    split
    · exact hp i
    · split
      · exact .inr (.inl rfl)
      · exact codes hp m _ _ _
theorem endcodes (s : ByteArray) : ∀ (d : Nat) (i : Int), (endF s d i).2.2 = 0 ∨ (endF s d i).2.2 = 2 ∨ (endF s d i).2.2 = 4
  | 0, _ => .inr (.inr rfl)
  | d + 1, i => by
    simp only [endF]
    split
    · exact .inr (.inl rfl)
    · split
      · exact .inl rfl
      · split
        · exact codes (endcodes s d) _ _ _ _
        · exact .inr (.inl rfl)
theorem gemotref1_Take.eq (s : ByteArray) (hs : s.size < 9223372036854770000) : gemotref1_Take_p.f s = gemotref1_Take.f s := by
  unfold gemotref1_Take_p.f gemotref1_End.f gemotref1_Take.f takeF scanF
  rw [if_pos ⟨hs, by decide, by decide, by decide⟩, if_pos hs]
  simp only [Option.bind_some]
  unfold refEnd finR
  rw [show ((400 : Int)).toNat = 400 from rfl]
  by_cases c : (endF s 400 0).2.2 = 0
  · have he := endF_ok 400 0 (Int.le_refl _) c
    rw [if_pos c, if_pos c, if_neg (show ¬ ((endF s 400 0).2.2 ≠ 0) from fun h => h c)]
    simp only
    rw [if_neg (by omega), if_neg (by omega)]
    split
    · rfl
    · rw [if_pos (by omega), if_pos (by omega)]
  · rw [if_neg c, if_neg c]
    simp only
    rw [if_pos c]
    rcases endcodes s 400 0 with h | h | h
    · exact absurd h c
    · rw [h]; rfl
    · rw [h]; rfl
theorem gemotref1_Take.calls (a0 : ByteArray) (r1 : ByteArray) (r2 : ByteArray) (r3 : Int) (w : World) (h : gemotref1_Take.f a0 = some (r1, r2, r3)) :
    Calls Try.prog 152 #[.string a0] w fun e w' => e = .returned (.tuple #[.string r1, .string r2, .int .i64 r3]) ∧ Below w.heap.size w w' := by
  have hs : a0.size < 9223372036854770000 := by
    unfold gemotref1_Take.f at h
    split at h
    · assumption
    · cases h
  exact gemotref1_Take_p.calls a0 r1 r2 r3 w ((gemotref1_Take.eq a0 hs).trans h)

end Go.Proofs.Ytpfpmjdifnoeoaa.F
namespace Go.Proofs.Ytpfpmjdifnoeoaa.F
open Go.RowKit Go.Proofs.YtpfpmjdifnoeoaaW.PrintWords Go.Proofs.YtpfpmjdifnoeoaaW.PrintLast Go.Proofs.YtpfpmjdifnoeoaaW.PrintMore
attribute [local go_sem] max2_int min2_int max_two min_two max_three min_three max_four min_four
set_option linter.unusedVariables false
set_option linter.unusedSimpArgs false

/-! ### gemotref1_Right: function 114 -/
/-! #### gemotref1_Right_p: function 114 -/
def gemotref1_Right_p.f (a0 : ByteArray) : Option (Bool) := (gemotref1_Take.f a0).bind fun bt126 => (if bt126.2.2 = 0 then (if bt126.2.1.toList = ([] : List UInt8) then (some (bt126.1.toList != ([] : List UInt8))) else (some false)) else (some false))
set_option maxHeartbeats 8000000 in
set_option maxRecDepth 100000 in
theorem gemotref1_Right_p.calls (a0 : ByteArray) (r : Bool) (w : World) (h : gemotref1_Right_p.f a0 = some r) :
    Calls Try.prog 114 #[.string a0] w fun e w' => e = .returned (.bool r) ∧ Below w.heap.size w w' := by
  have HB := Aside0.mk (Below.refl w.heap.size w)
  have H : ((gemotref1_Take.f a0).bind fun bt126 => (if bt126.2.2 = 0 then (if bt126.2.1.toList = ([] : List UInt8) then (some (bt126.1.toList != ([] : List UInt8))) else (some false)) else (some false))) = some r := h
  clear h
  replace H := Option.bind_eq_some_iff.mp H
  obtain ⟨⟨t126, t127, t128⟩, A20, H⟩ := H
  replace H : (if t128 = 0 then (if t127.toList = ([] : List UInt8) then (some (t126.toList != ([] : List UInt8))) else (some false)) else (some false)) = some r := H
  have A2 := Aside0.mk A20
  clear A20
  by_cases c3 : t128 = 0
  · rw [if_pos c3] at H
    have c3b0 : (t128 == 0) = true := beq_iff_eq.mpr c3
    have c3b1 : (t128 != 0) = false := bne_eq_false_iff_eq.mpr c3
    clear c3
    by_cases c4 : t127.toList = ([] : List UInt8)
    · rw [if_pos c4] at H
      have c4b0 : (t127.toList == ([] : List UInt8)) = true := beq_iff_eq.mpr c4
      have c4b1 : (t127.toList != ([] : List UInt8)) = false := bne_eq_false_iff_eq.mpr c4
      clear c4
      obtain rfl := Option.some.inj H
      go_enter Try.func114, Try.ntmps114
      go_wp2_with (first | ((with_reducible refine gate_callee (f := 152) rfl ?_); refine goesL_ (some 8) rfl rfl Try.func152 (by kernel_rfl) rfl #[.string a0] rfl (by (try simp only [List.map_toArray, List.map_cons, List.map_nil]); first | done | rfl | (simp only [List.length_drop, List.length_take]; rfl)) ?_; (with_reducible refine (gemotref1_Take.calls a0 t126 t127 t128 _ A2.out).mono ?_); rintro e w5 ⟨rfl, hb⟩; refine ⟨_, rfl, ?_⟩; have n0_ := Aside0.mk (below_step (by repeat (first | (with_reducible first | exact HB.out | apply below_alloc | apply pw_below_drewN | apply below_drew1) | exact HB.out)) hb); clear HB; have HB := n0_; clear n0_; (try clear hb); (try clear hb2); (try clear hk); (try clear hi)))
      go_ret
      exact ⟨by first | rfl | (cases h_ : t126.toList <;> simp [h_]) | (simp [errW_none, errW_some] <;> rfl) | (simp [*, errW_none, errW_some] <;> rfl), by repeat (first | (with_reducible first | exact HB.out | apply below_alloc | apply pw_below_drewN | apply below_drew1) | exact HB.out)⟩
    · rw [if_neg c4] at H
      have c4b0 : (t127.toList == ([] : List UInt8)) = false := beq_eq_false_iff_ne.mpr c4
      have c4b1 : (t127.toList != ([] : List UInt8)) = true := bne_iff_ne.mpr c4
      obtain rfl := Option.some.inj H
      go_enter Try.func114, Try.ntmps114
      go_wp2_with (first | ((with_reducible refine gate_callee (f := 152) rfl ?_); refine goesL_ (some 8) rfl rfl Try.func152 (by kernel_rfl) rfl #[.string a0] rfl (by (try simp only [List.map_toArray, List.map_cons, List.map_nil]); first | done | rfl | (simp only [List.length_drop, List.length_take]; rfl)) ?_; (with_reducible refine (gemotref1_Take.calls a0 t126 t127 t128 _ A2.out).mono ?_); rintro e w6 ⟨rfl, hb⟩; refine ⟨_, rfl, ?_⟩; have n0_ := Aside0.mk (below_step (by repeat (first | (with_reducible first | exact HB.out | apply below_alloc | apply pw_below_drewN | apply below_drew1) | exact HB.out)) hb); clear HB; have HB := n0_; clear n0_; (try clear hb); (try clear hb2); (try clear hk); (try clear hi)))
      go_ret
      exact ⟨by first | rfl | (simp [errW_none, errW_some] <;> rfl) | (simp [*, errW_none, errW_some] <;> rfl), by repeat (first | (with_reducible first | exact HB.out | apply below_alloc | apply pw_below_drewN | apply below_drew1) | exact HB.out)⟩
  · rw [if_neg c3] at H
    have c3b0 : (t128 == 0) = false := beq_eq_false_iff_ne.mpr c3
    have c3b1 : (t128 != 0) = true := bne_iff_ne.mpr c3
    obtain rfl := Option.some.inj H
    go_enter Try.func114, Try.ntmps114
    go_wp2_with (first | ((with_reducible refine gate_callee (f := 152) rfl ?_); refine goesL_ (some 8) rfl rfl Try.func152 (by kernel_rfl) rfl #[.string a0] rfl (by (try simp only [List.map_toArray, List.map_cons, List.map_nil]); first | done | rfl | (simp only [List.length_drop, List.length_take]; rfl)) ?_; (with_reducible refine (gemotref1_Take.calls a0 t126 t127 t128 _ A2.out).mono ?_); rintro e w7 ⟨rfl, hb⟩; refine ⟨_, rfl, ?_⟩; have n0_ := Aside0.mk (below_step (by repeat (first | (with_reducible first | exact HB.out | apply below_alloc | apply pw_below_drewN | apply below_drew1) | exact HB.out)) hb); clear HB; have HB := n0_; clear n0_; (try clear hb); (try clear hb2); (try clear hk); (try clear hi)))
    go_ret
    exact ⟨by first | rfl | (simp [errW_none, errW_some] <;> rfl) | (simp [*, errW_none, errW_some] <;> rfl), by repeat (first | (with_reducible first | exact HB.out | apply below_alloc | apply pw_below_drewN | apply below_drew1) | exact HB.out)⟩

def gemotref1_Right.f (s : ByteArray) : Option Bool := if s.size < 9223372036854770000 then some (rightB s) else none
theorem gemotref1_Right.eq (s : ByteArray) (hs : s.size < 9223372036854770000) : gemotref1_Right_p.f s = gemotref1_Right.f s := by
  unfold gemotref1_Right_p.f gemotref1_Take.f gemotref1_Right.f
  rw [if_pos hs, if_pos hs]
  simp only [Option.bind_some]
  unfold takeF rightB
  by_cases c : (scanF s).2.2 = 0
  · have he := scanF_end c
    rw [if_neg (show ¬ ((scanF s).2.2 ≠ 0) from fun h => h c)]
    by_cases c2 : (scanF s).1 > 20000
    · rw [if_pos c2, if_neg (show ¬ ((3 : Int) = 0) by decide)]
      rw [decide_eq_false (by omega)]
    · rw [if_neg c2, if_pos rfl]
      by_cases c3 : s.size ≤ (scanF s).1.toNat
      · rw [if_pos ((extract_nil s _).mpr c3)]
        have c4 : (scanF s).1.toNat = s.size := by omega
        rw [c4, extract_all, decide_eq_true (by omega)]
        have h5 : ¬ s.toList = [] := fun h => by
          have := extract_nil s 0
          rw [extract_all] at this
          have := this.mp h
          omega
        simp [h5]
      · rw [if_neg (fun h => c3 ((extract_nil s _).mp h)), decide_eq_false (by omega)]
  · rw [if_pos c, if_neg c, decide_eq_false (fun h => c h.1)]
theorem gemotref1_Right.calls (a0 : ByteArray) (r : Bool) (w : World) (h : gemotref1_Right.f a0 = some r) :
    Calls Try.prog 114 #[.string a0] w fun e w' => e = .returned (.bool r) ∧ Below w.heap.size w w' := by
  have hs : a0.size < 9223372036854770000 := by
    unfold gemotref1_Right.f at h
    split at h
    · assumption
    · cases h
  exact gemotref1_Right_p.calls a0 r w ((gemotref1_Right.eq a0 hs).trans h)

end Go.Proofs.Ytpfpmjdifnoeoaa.F
namespace Go.Proofs.Ytpfpmjdifnoeoaa.F
open Go.RowKit Go.Proofs.YtpfpmjdifnoeoaaW.PrintWords Go.Proofs.YtpfpmjdifnoeoaaW.PrintLast Go.Proofs.YtpfpmjdifnoeoaaW.PrintMore
attribute [local go_sem] max2_int min2_int max_two min_two max_three min_three max_four min_four
set_option linter.unusedVariables false
set_option linter.unusedSimpArgs false

/-! ### gemotref2_Kind: function 72 -/
/-! #### gemotref2_Kind_p: function 72 -/
def gemotref2_Kind_p.f (a0 : ByteArray) : Option (Int) := (gemotref1_Right.f a0).bind fun t129 => (if t129 = true then (if 0 < (a0.size : Int) then (some (bt a0 0)) else (none)) else (some 0))
set_option maxHeartbeats 8000000 in
set_option maxRecDepth 100000 in
theorem gemotref2_Kind_p.calls (a0 : ByteArray) (r : Int) (w : World) (h : gemotref2_Kind_p.f a0 = some r) :
    Calls Try.prog 72 #[.string a0] w fun e w' => e = .returned (.int .u8 r) ∧ Below w.heap.size w w' := by
  have HB := Aside0.mk (Below.refl w.heap.size w)
  have H : ((gemotref1_Right.f a0).bind fun t129 => (if t129 = true then (if 0 < (a0.size : Int) then (some (bt a0 0)) else (none)) else (some 0))) = some r := h
  clear h
  replace H := Option.bind_eq_some_iff.mp H
  obtain ⟨t129, A20, H⟩ := H
  replace H : (if t129 = true then (if 0 < (a0.size : Int) then (some (bt a0 0)) else (none)) else (some 0)) = some r := H
  have A2 := Aside0.mk A20
  clear A20
  by_cases c3 : t129 = true
  · subst c3
    have H1 : (if 0 < (a0.size : Int) then (some (bt a0 0)) else (none)) = some r := by rw [if_pos rfl] at H; exact H
    clear H
    have H := H1
    clear H1
    by_cases c4 : 0 < (a0.size : Int)
    · rw [if_pos c4] at H
      have c4b0 : decide (0 < (a0.size : Int)) = true := decide_eq_true c4
      have c4b1 : decide (0 < a0.size) = true := decide_eq_true (by omega)
      clear c4
      obtain rfl := Option.some.inj H
      go_enter Try.func72, Try.ntmps72
      go_wp2_with (first | ((with_reducible refine gate_callee (f := 114) rfl ?_); refine goesL_ (some 4) rfl rfl Try.func114 (by kernel_rfl) rfl #[.string a0] rfl (by (try simp only [List.map_toArray, List.map_cons, List.map_nil]); first | done | rfl | (simp only [List.length_drop, List.length_take]; rfl)) ?_; (with_reducible refine (gemotref1_Right.calls a0 true _ A2.out).mono ?_); rintro e w6 ⟨rfl, hb⟩; refine ⟨_, rfl, ?_⟩; have n0_ := Aside0.mk (below_step (by repeat (first | (with_reducible first | exact HB.out | apply below_alloc | apply pw_below_drewN | apply below_drew1) | exact HB.out)) hb); clear HB; have HB := n0_; clear n0_; (try clear hb); (try clear hb2); (try clear hk); (try clear hi); have p5 : 0 ≤ (0 : Int) := (by omega); have q5 : 0 < a0.size := (by have : (0 : Int) < (a0.size : Int) := of_decide_eq_true (by first | (with_reducible assumption) | assumption); omega); have hx5 : ∀ h : 0 < a0.size, ((a0[0]'h).toNat : Int) = bt a0 0 := bt_at a0 0; clear p5; have qi5 : (0 < (a0.size : Int)) = True := eq_true (of_decide_eq_true (by first | (with_reducible assumption) | assumption)); replace q5 := eq_true q5))
      go_ret
      exact ⟨by first | rfl | (simp [errW_none, errW_some] <;> rfl) | (simp [*, errW_none, errW_some] <;> rfl), by repeat (first | (with_reducible first | exact HB.out | apply below_alloc | apply pw_below_drewN | apply below_drew1) | exact HB.out)⟩
    · rw [if_neg c4] at H
      exact absurd H (by simp)
  · replace c3 := Bool.eq_false_iff.mpr c3
    subst c3
    have H1 : (some 0) = some r := by rw [if_neg (show ¬ (false = true) by decide)] at H; exact H
    clear H
    have H := H1
    clear H1
    obtain rfl := Option.some.inj H
    go_enter Try.func72, Try.ntmps72
    go_wp2_with (first | ((with_reducible refine gate_callee (f := 114) rfl ?_); refine goesL_ (some 4) rfl rfl Try.func114 (by kernel_rfl) rfl #[.string a0] rfl (by (try simp only [List.map_toArray, List.map_cons, List.map_nil]); first | done | rfl | (simp only [List.length_drop, List.length_take]; rfl)) ?_; (with_reducible refine (gemotref1_Right.calls a0 false _ A2.out).mono ?_); rintro e w7 ⟨rfl, hb⟩; refine ⟨_, rfl, ?_⟩; have n0_ := Aside0.mk (below_step (by repeat (first | (with_reducible first | exact HB.out | apply below_alloc | apply pw_below_drewN | apply below_drew1) | exact HB.out)) hb); clear HB; have HB := n0_; clear n0_; (try clear hb); (try clear hb2); (try clear hk); (try clear hi)))
    go_ret
    exact ⟨by first | rfl | (simp [errW_none, errW_some] <;> rfl) | (simp [*, errW_none, errW_some] <;> rfl), by repeat (first | (with_reducible first | exact HB.out | apply below_alloc | apply pw_below_drewN | apply below_drew1) | exact HB.out)⟩

def gemotref2_Kind.f (t : ByteArray) : Option Int := if t.size < 9223372036854770000 then some (kindF t) else none
theorem gemotref2_Kind.eq (t : ByteArray) (hs : t.size < 9223372036854770000) : gemotref2_Kind_p.f t = gemotref2_Kind.f t := by
  unfold gemotref2_Kind_p.f gemotref1_Right.f gemotref2_Kind.f kindF
  rw [if_pos hs, if_pos hs]
  simp only [Option.bind_some]
  by_cases c : rightB t = true
  · have h0 : 0 < t.size := by
      unfold rightB at c
      rw [decide_eq_true_eq] at c
      have := scanF_end c.1
      omega
    rw [if_pos c, if_pos c, if_pos (by omega)]
  · rw [if_neg c, if_neg c]
theorem gemotref2_Kind.calls (a0 : ByteArray) (r : Int) (w : World) (h : gemotref2_Kind.f a0 = some r) :
    Calls Try.prog 72 #[.string a0] w fun e w' => e = .returned (.int .u8 r) ∧ Below w.heap.size w w' := by
  have hs : a0.size < 9223372036854770000 := by
    unfold gemotref2_Kind.f at h
    split at h
    · assumption
    · cases h
  exact gemotref2_Kind_p.calls a0 r w ((gemotref2_Kind.eq a0 hs).trans h)

end Go.Proofs.Ytpfpmjdifnoeoaa.F
namespace Go.Proofs.Ytpfpmjdifnoeoaa.F
open Go.RowKit Go.Proofs.YtpfpmjdifnoeoaaW.PrintWords Go.Proofs.YtpfpmjdifnoeoaaW.PrintLast Go.Proofs.YtpfpmjdifnoeoaaW.PrintMore
attribute [local go_sem] max2_int min2_int max_two min_two max_three min_three max_four min_four
set_option linter.unusedVariables false
set_option linter.unusedSimpArgs false

/-! ### gemotref2_Of: function 75 -/
/-! #### gemotref2_Of_p: function 75 -/
mutual
def gemotref2_Of_p.j1 : Nat → ByteArray → List ByteArray → Int → Option (List ByteArray)
  | 0, _, _, _ => none
  | k + 1, x0, x3, x4 => gemotref2_Of_p.l0 k x0 x3 x4
def gemotref2_Of_p.l0 : Nat → ByteArray → List ByteArray → Int → Option (List ByteArray)
  | 0, _, _, _ => none
  | k + 1, x0, x3, x4 => if x4 < (x0.size : Int) then ((gemotref1_End.f x0 x4 400).bind fun bt131 => (if 0 ≤ x4 then (if x4 ≤ bt131.1 then (if bt131.1 ≤ (x0.size : Int) then (if x3.length < 8796093022208 then (gemotref2_Of_p.l0 k x0 (x3 ++ [x0.extract (x4 : Int).toNat (bt131.1 : Int).toNat]) bt131.1) else (none)) else (none)) else (none)) else (none))) else (some x3)
def gemotref2_Of_p.j0 : Nat → ByteArray → List ByteArray → Int → Int → Bool → Option (List ByteArray)
  | 0, _, _, _, _, _ => none
  | k + 1, x0, x3, x4, x8, x9 => if x9 = true then (gemotref2_Of_p.j1 k x0 x3 x4) else (if x8 = 101 then (gemotref2_Of_p.j1 k x0 x3 2) else (some ([] : List ByteArray)))
end
def gemotref2_Of_p.f (k : Nat) (a0 : ByteArray) : Option (List ByteArray) := (gemotref2_Kind.f a0).bind fun t130 => (if t130 = 107 then (gemotref2_Of_p.j0 k a0 ([] : List ByteArray) 1 t130 (t130 == 107)) else (if t130 = 104 then (gemotref2_Of_p.j0 k a0 ([] : List ByteArray) 1 t130 (t130 == 104)) else (if t130 = 112 then (gemotref2_Of_p.j0 k a0 ([] : List ByteArray) 1 t130 (t130 == 112)) else (if t130 = 115 then (gemotref2_Of_p.j0 k a0 ([] : List ByteArray) 1 t130 (t130 == 115)) else (gemotref2_Of_p.j0 k a0 ([] : List ByteArray) 1 t130 (t130 == 120))))))
theorem gemotref2_Of_p.mono_l : ∀ k, (∀ y0 y1 y2, LeO (gemotref2_Of_p.j1 k y0 y1 y2) (gemotref2_Of_p.j1 (k + 1) y0 y1 y2)) ∧ (∀ y0 y1 y2, LeO (gemotref2_Of_p.l0 k y0 y1 y2) (gemotref2_Of_p.l0 (k + 1) y0 y1 y2)) ∧ (∀ y0 y1 y2 y3 y4, LeO (gemotref2_Of_p.j0 k y0 y1 y2 y3 y4) (gemotref2_Of_p.j0 (k + 1) y0 y1 y2 y3 y4))
  | 0 => ⟨fun _ _ _ r h => by simp [gemotref2_Of_p.j1] at h, fun _ _ _ r h => by simp [gemotref2_Of_p.l0] at h, fun _ _ _ _ _ r h => by simp [gemotref2_Of_p.j0] at h⟩
  | k + 1 => by
    obtain ⟨ih0, ih1, ih2⟩ := gemotref2_Of_p.mono_l k
    refine ⟨?_, ?_, ?_⟩
    · intro y0 y1 y2
      unfold gemotref2_Of_p.j1
      repeat' first
      | (with_reducible exact ih0 _ _ _)
      | (with_reducible exact ih1 _ _ _)
      | (with_reducible exact ih2 _ _ _ _ _)
      | (with_reducible exact LeO.refl _)
      | (with_reducible exact LeO.none _)
      | (with_reducible refine LeO.ite ?_ ?_)
      | (with_reducible refine LeO.bind ?_ (fun _ => ?_))
      | exact ih0 _ _ _
      | exact ih1 _ _ _
      | exact ih2 _ _ _ _ _
      | exact LeO.none _
      | refine LeO.ite ?_ ?_
      | refine LeO.bind ?_ (fun _ => ?_)
    · intro y0 y1 y2
      unfold gemotref2_Of_p.l0
      repeat' first
      | (with_reducible exact ih0 _ _ _)
      | (with_reducible exact ih1 _ _ _)
      | (with_reducible exact ih2 _ _ _ _ _)
      | (with_reducible exact LeO.refl _)
      | (with_reducible exact LeO.none _)
      | (with_reducible refine LeO.ite ?_ ?_)
      | (with_reducible refine LeO.bind ?_ (fun _ => ?_))
      | exact ih0 _ _ _
      | exact ih1 _ _ _
      | exact ih2 _ _ _ _ _
      | exact LeO.none _
      | refine LeO.ite ?_ ?_
      | refine LeO.bind ?_ (fun _ => ?_)
    · intro y0 y1 y2 y3 y4
      unfold gemotref2_Of_p.j0
      repeat' first
      | (with_reducible exact ih0 _ _ _)
      | (with_reducible exact ih1 _ _ _)
      | (with_reducible exact ih2 _ _ _ _ _)
      | (with_reducible exact LeO.refl _)
      | (with_reducible exact LeO.none _)
      | (with_reducible refine LeO.ite ?_ ?_)
      | (with_reducible refine LeO.bind ?_ (fun _ => ?_))
      | exact ih0 _ _ _
      | exact ih1 _ _ _
      | exact ih2 _ _ _ _ _
      | exact LeO.none _
      | refine LeO.ite ?_ ?_
      | refine LeO.bind ?_ (fun _ => ?_)
theorem gemotref2_Of_p.mono : ∀ a0 k, LeO (gemotref2_Of_p.f k a0) (gemotref2_Of_p.f (k + 1) a0) := by
  intro a0 k
  obtain ⟨ih0, ih1, ih2⟩ := gemotref2_Of_p.mono_l k
  unfold gemotref2_Of_p.f
  repeat' first
      | (with_reducible exact ih0 _ _ _)
      | (with_reducible exact ih1 _ _ _)
      | (with_reducible exact ih2 _ _ _ _ _)
      | (with_reducible exact LeO.refl _)
      | (with_reducible exact LeO.none _)
      | (with_reducible refine LeO.ite ?_ ?_)
      | (with_reducible refine LeO.bind ?_ (fun _ => ?_))
      | exact ih0 _ _ _
      | exact ih1 _ _ _
      | exact ih2 _ _ _ _ _
      | exact LeO.none _
      | refine LeO.ite ?_ ?_
      | refine LeO.bind ?_ (fun _ => ?_)
set_option maxHeartbeats 8000000 in
set_option maxRecDepth 100000 in
theorem gemotref2_Of_p.calls (k : Nat) (a0 : ByteArray) (r : List ByteArray) (w : World) (h : gemotref2_Of_p.f k a0 = some r) :
    Calls Try.prog 75 #[.string a0] w fun e w' => ∃ v0_ : Value, e = .returned (v0_) ∧ Kd.R Kd.string 9 w' w.heap.size (fun _ => True) v0_ r ∧ Below w.heap.size w w' := by
  have HB := Aside0.mk (Below.refl w.heap.size w)
  have H : ((gemotref2_Kind.f a0).bind fun t130 => (if t130 = 107 then (gemotref2_Of_p.j0 k a0 ([] : List ByteArray) 1 t130 (t130 == 107)) else (if t130 = 104 then (gemotref2_Of_p.j0 k a0 ([] : List ByteArray) 1 t130 (t130 == 104)) else (if t130 = 112 then (gemotref2_Of_p.j0 k a0 ([] : List ByteArray) 1 t130 (t130 == 112)) else (if t130 = 115 then (gemotref2_Of_p.j0 k a0 ([] : List ByteArray) 1 t130 (t130 == 115)) else (gemotref2_Of_p.j0 k a0 ([] : List ByteArray) 1 t130 (t130 == 120))))))) = some r := h
  clear h
  replace H := Option.bind_eq_some_iff.mp H
  obtain ⟨t130, A20, H⟩ := H
  replace H : (if t130 = 107 then (gemotref2_Of_p.j0 k a0 ([] : List ByteArray) 1 t130 (t130 == 107)) else (if t130 = 104 then (gemotref2_Of_p.j0 k a0 ([] : List ByteArray) 1 t130 (t130 == 104)) else (if t130 = 112 then (gemotref2_Of_p.j0 k a0 ([] : List ByteArray) 1 t130 (t130 == 112)) else (if t130 = 115 then (gemotref2_Of_p.j0 k a0 ([] : List ByteArray) 1 t130 (t130 == 115)) else (gemotref2_Of_p.j0 k a0 ([] : List ByteArray) 1 t130 (t130 == 120)))))) = some r := H
  have A2 := Aside0.mk A20
  clear A20
  have HC3 := Aside0.mk H
  clear H
  go_enter Try.func75, Try.ntmps75
  go_upto_block 0 with (first | ((with_reducible refine gate_callee (f := 72) rfl ?_); refine goesL_ (some 8) rfl rfl Try.func72 (by kernel_rfl) rfl #[.string a0] rfl (by (try simp only [List.map_toArray, List.map_cons, List.map_nil]); first | done | rfl | (simp only [List.length_drop, List.length_take]; rfl)) ?_; (with_reducible refine (gemotref2_Kind.calls a0 t130 _ A2.out).mono ?_); rintro e w4 ⟨rfl, hb⟩; refine ⟨_, rfl, ?_⟩; have n0_ := Aside0.mk (below_step (by repeat (first | (with_reducible first | exact HB.out | apply below_alloc | apply pw_below_drewN | apply below_drew1) | exact HB.out)) hb); clear HB; have HB := n0_; clear n0_; (try clear hb); (try clear hb2); (try clear hk); (try clear hi)))
  (try simp only [Act.put, List.setIfInBounds_toArray, List.set_cons_zero, List.set_cons_succ])
  go_cut [4] (fun v4 wc => ∃ (kq : Nat) (x4_2 : Int), v4 = .int .i64 x4_2 ∧ Aside0 (gemotref2_Of_p.j1 kq a0 ([] : List ByteArray) x4_2 = some r) ∧ Aside0 (kq ≤ k) ∧ Aside0 (Kd.R Kd.string 9 wc w.heap.size (fun _ => True) (.slice none 0 0) ([] : List ByteArray)) ∧ Aside0 (Below w.heap.size w wc))
  case first =>
    have H := HC3.out
    clear HC3
    have HC5 := Aside0.mk H
    clear H
    go_upto_if 9 with (fail)
    go_cut [9] (fun v9 wc => ∃ (kq : Nat) (x9_4 : Bool), v9 = .bool x9_4 ∧ Aside0 (gemotref2_Of_p.j0 kq a0 ([] : List ByteArray) 1 t130 x9_4 = some r) ∧ Aside0 (kq ≤ k) ∧ Aside0 (Kd.R Kd.string 9 wc w.heap.size (fun _ => True) (.slice none 0 0) ([] : List ByteArray)) ∧ Aside0 (Below w.heap.size w wc))
    case first =>
      have H := HC5.out
      clear HC5
      by_cases c6 : t130 = 107
      · rw [if_pos c6] at H
        have c6b0 : (t130 == 107) = true := beq_iff_eq.mpr c6
        have c6b1 : (t130 != 107) = false := bne_eq_false_iff_eq.mpr c6
        clear c6
        (first | rw [c6b0] | (simp only [i64_w, i32_w]; rw [c6b0]) | skip)
        have H' := Aside0.mk H
        clear H
        go_wp2
        go_meet
        case rel => exact ⟨_, ((t130 == 107)), (by first | rfl | (simp; done) | (simp [*]; done)), H', ⟨by first | omega | exact Nat.le_refl _⟩, ⟨by first | exact Kd.R_nil _ _ _ _ _ | exact Kd.N_nil _ _ _ _ _ | exact Kd.V_nil _ _ _ _ _ | exact Kd.Q_nil _ _ _ _ _ | exact Kd.S_nil _ _ _ _ _⟩, ⟨by repeat (first | (with_reducible first | exact HB.out | apply below_alloc | apply pw_below_drewN | apply below_drew1) | exact HB.out)⟩⟩
      · rw [if_neg c6] at H
        have c6b0 : (t130 == 107) = false := beq_eq_false_iff_ne.mpr c6
        have c6b1 : (t130 != 107) = true := bne_iff_ne.mpr c6
        (first | rw [c6b0] | (simp only [i64_w, i32_w]; rw [c6b0]) | skip)
        by_cases c7 : t130 = 104
        · rw [if_pos c7] at H
          have c7b0 : (t130 == 104) = true := beq_iff_eq.mpr c7
          have c7b1 : (t130 != 104) = false := bne_eq_false_iff_eq.mpr c7
          clear c7
          have H' := Aside0.mk H
          clear H
          go_wp2
          go_meet
          case rel => exact ⟨_, ((t130 == 104)), (by first | rfl | (simp; done) | (simp [*]; done)), H', ⟨by first | omega | exact Nat.le_refl _⟩, ⟨by first | exact Kd.R_nil _ _ _ _ _ | exact Kd.N_nil _ _ _ _ _ | exact Kd.V_nil _ _ _ _ _ | exact Kd.Q_nil _ _ _ _ _ | exact Kd.S_nil _ _ _ _ _⟩, ⟨by repeat (first | (with_reducible first | exact HB.out | apply below_alloc | apply pw_below_drewN | apply below_drew1) | exact HB.out)⟩⟩
        · rw [if_neg c7] at H
          have c7b0 : (t130 == 104) = false := beq_eq_false_iff_ne.mpr c7
          have c7b1 : (t130 != 104) = true := bne_iff_ne.mpr c7
          by_cases c8 : t130 = 112
          · rw [if_pos c8] at H
            have c8b0 : (t130 == 112) = true := beq_iff_eq.mpr c8
            have c8b1 : (t130 != 112) = false := bne_eq_false_iff_eq.mpr c8
            clear c8
            have H' := Aside0.mk H
            clear H
            go_wp2
            go_meet
            case rel => exact ⟨_, ((t130 == 112)), (by first | rfl | (simp; done) | (simp [*]; done)), H', ⟨by first | omega | exact Nat.le_refl _⟩, ⟨by first | exact Kd.R_nil _ _ _ _ _ | exact Kd.N_nil _ _ _ _ _ | exact Kd.V_nil _ _ _ _ _ | exact Kd.Q_nil _ _ _ _ _ | exact Kd.S_nil _ _ _ _ _⟩, ⟨by repeat (first | (with_reducible first | exact HB.out | apply below_alloc | apply pw_below_drewN | apply below_drew1) | exact HB.out)⟩⟩
          · rw [if_neg c8] at H
            have c8b0 : (t130 == 112) = false := beq_eq_false_iff_ne.mpr c8
            have c8b1 : (t130 != 112) = true := bne_iff_ne.mpr c8
            by_cases c9 : t130 = 115
            · rw [if_pos c9] at H
              have c9b0 : (t130 == 115) = true := beq_iff_eq.mpr c9
              have c9b1 : (t130 != 115) = false := bne_eq_false_iff_eq.mpr c9
              clear c9
              have H' := Aside0.mk H
              clear H
              go_wp2
              go_meet
              case rel => exact ⟨_, ((t130 == 115)), (by first | rfl | (simp; done) | (simp [*]; done)), H', ⟨by first | omega | exact Nat.le_refl _⟩, ⟨by first | exact Kd.R_nil _ _ _ _ _ | exact Kd.N_nil _ _ _ _ _ | exact Kd.V_nil _ _ _ _ _ | exact Kd.Q_nil _ _ _ _ _ | exact Kd.S_nil _ _ _ _ _⟩, ⟨by repeat (first | (with_reducible first | exact HB.out | apply below_alloc | apply pw_below_drewN | apply below_drew1) | exact HB.out)⟩⟩
            · rw [if_neg c9] at H
              have c9b0 : (t130 == 115) = false := beq_eq_false_iff_ne.mpr c9
              have c9b1 : (t130 != 115) = true := bne_iff_ne.mpr c9
              have H' := Aside0.mk H
              clear H
              go_wp2
              go_meet
              case rel => exact ⟨_, ((t130 == 120)), (by first | rfl | (simp; done) | (simp [*]; done)), H', ⟨by first | omega | exact Nat.le_refl _⟩, ⟨by first | exact Kd.R_nil _ _ _ _ _ | exact Kd.N_nil _ _ _ _ _ | exact Kd.V_nil _ _ _ _ _ | exact Kd.Q_nil _ _ _ _ _ | exact Kd.S_nil _ _ _ _ _⟩, ⟨by repeat (first | (with_reducible first | exact HB.out | apply below_alloc | apply pw_below_drewN | apply below_drew1) | exact HB.out)⟩⟩
    case rest =>
      clear HC5
      try clear p2
      try clear c6
      try clear c6b0
      try clear c6b1
      try clear c7
      try clear c7b0
      try clear c7b1
      try clear c8
      try clear c8b0
      try clear c8b1
      try clear c9
      try clear c9b0
      try clear c9b1
      obtain ⟨kq, x9_4, rfl, HA, HJ4, HO_3, HB⟩ := hcut
      cases kq with
      | zero => exact absurd HA.out (by simp [gemotref2_Of_p.j0])
      | succ kj4 =>
        have H := HA.out
        clear HA
        simp only [gemotref2_Of_p.j0] at H
        by_cases c10 : x9_4 = true
        · subst c10
          have H1 : (gemotref2_Of_p.j1 kj4 a0 ([] : List ByteArray) 1) = some r := by rw [if_pos rfl] at H; exact H
          clear H
          have H := H1
          clear H1
          have H' := Aside0.mk H
          clear H
          go_wp2
          go_meet
          case rel => exact ⟨_, (1), (by first | rfl | (simp; done) | (simp [*]; done)), H', ⟨by have := HJ4.out; first | omega | exact Nat.le_refl _⟩, ⟨by (with_reducible repeat (first | apply Kd.R_alloc | apply Kd.R_drewN | apply Kd.R_drew)); exact HO_3.out⟩, ⟨by repeat (first | (with_reducible first | exact HB.out | apply below_alloc | apply pw_below_drewN | apply below_drew1) | exact HB.out)⟩⟩
        · replace c10 := Bool.eq_false_iff.mpr c10
          subst c10
          have H1 : (if t130 = 101 then (gemotref2_Of_p.j1 kj4 a0 ([] : List ByteArray) 2) else (some ([] : List ByteArray))) = some r := by rw [if_neg (show ¬ (false = true) by decide)] at H; exact H
          clear H
          have H := H1
          clear H1
          by_cases c11 : t130 = 101
          · rw [if_pos c11] at H
            have c11b0 : (t130 == 101) = true := beq_iff_eq.mpr c11
            have c11b1 : (t130 != 101) = false := bne_eq_false_iff_eq.mpr c11
            clear c11
            have H' := Aside0.mk H
            clear H
            go_wp2
            go_meet
            case rel => exact ⟨_, (2), (by first | rfl | (simp; done) | (simp [*]; done)), H', ⟨by have := HJ4.out; first | omega | exact Nat.le_refl _⟩, ⟨by (with_reducible repeat (first | apply Kd.R_alloc | apply Kd.R_drewN | apply Kd.R_drew)); exact HO_3.out⟩, ⟨by repeat (first | (with_reducible first | exact HB.out | apply below_alloc | apply pw_below_drewN | apply below_drew1) | exact HB.out)⟩⟩
          · rw [if_neg c11] at H
            have c11b0 : (t130 == 101) = false := beq_eq_false_iff_ne.mpr c11
            have c11b1 : (t130 != 101) = true := bne_iff_ne.mpr c11
            obtain rfl := Option.some.inj H
            go_wp2
            go_ret
            exact ⟨_, by first | rfl | (simp [errW_none, errW_some] <;> rfl) | (simp [*, errW_none, errW_some] <;> rfl), by first | exact Kd.R_nil _ _ _ _ _ | exact Kd.N_nil _ _ _ _ _ | exact Kd.V_nil _ _ _ _ _ | exact Kd.Q_nil _ _ _ _ _ | exact Kd.S_nil _ _ _ _ _, by repeat (first | (with_reducible first | exact HB.out | apply below_alloc | apply pw_below_drewN | apply below_drew1) | exact HB.out)⟩
  case rest =>
    clear HC3
    try clear c1
    try clear p2
    try clear c6
    try clear c6b0
    try clear c6b1
    try clear c7
    try clear c7b0
    try clear c7b1
    try clear c8
    try clear c8b0
    try clear c8b1
    try clear c9
    try clear c9b0
    try clear c9b1
    try clear c10
    try clear c11
    try clear c11b0
    try clear c11b1
    try clear p2
    obtain ⟨kq, x4_2, rfl, HA, HJ2, HO_3, HB⟩ := hcut
    cases kq with
    | zero => exact absurd HA.out (by simp [gemotref2_Of_p.j1])
    | succ kj2 =>
      have H := HA.out
      clear HA
      simp only [gemotref2_Of_p.j1] at H
      have H' := Aside0.mk H
      clear H
      go_wp2
      go_loopg [3, 4] kj2 (fun kq v3 v4 w' => ∃ (x3_2 : List ByteArray) (x4_2 : Int), v4 = .int .i64 x4_2 ∧ Aside0 (gemotref2_Of_p.l0 kq a0 x3_2 x4_2 = some r) ∧ Aside0 (kq ≤ kj2) ∧ Aside0 (Kd.R Kd.string 9 w' w.heap.size (fun _ => True) v3 x3_2) ∧ Aside0 (Below w.heap.size w w'))
      case atStart => exact ⟨(([] : List ByteArray)), (x4_2), (by first | rfl | (simp; done) | (simp [*]; done)), H', ⟨Nat.le_refl _⟩, ⟨by (with_reducible repeat (first | apply Kd.R_alloc | apply Kd.R_drewN | apply Kd.R_drew)); exact HO_3.out⟩, ⟨by repeat (first | (with_reducible first | exact HB.out | apply below_alloc | apply pw_below_drewN | apply below_drew1) | exact HB.out)⟩⟩
      case round =>
        clear H'
        try clear c1
        try clear p2
        try clear c6
        try clear c6b0
        try clear c6b1
        try clear c7
        try clear c7b0
        try clear c7b1
        try clear c8
        try clear c8b0
        try clear c8b1
        try clear c9
        try clear c9b0
        try clear c9b1
        try clear c10
        try clear c11
        try clear c11b0
        try clear c11b1
        try clear p2
        obtain ⟨x3_2, x4_2, rfl, HA, HK2, HO_3, HB⟩ := hrel
        cases gk with
        | zero => exact absurd HA.out (by simp [gemotref2_Of_p.l0])
        | succ k2 =>
          have H := HA.out
          clear HA
          simp only [gemotref2_Of_p.l0] at H
          by_cases c12 : x4_2 < (a0.size : Int)
          · rw [if_pos c12] at H
            have c12b0 : decide (x4_2 < (a0.size : Int)) = true := decide_eq_true c12
            clear c12
            replace H := Option.bind_eq_some_iff.mp H
            obtain ⟨⟨t131, t132⟩, A130, H⟩ := H
            replace H : (if 0 ≤ x4_2 then (if x4_2 ≤ t131 then (if t131 ≤ (a0.size : Int) then (if x3_2.length < 8796093022208 then (gemotref2_Of_p.l0 k2 a0 (x3_2 ++ [a0.extract (x4_2 : Int).toNat (t131 : Int).toNat]) t131) else (none)) else (none)) else (none)) else (none)) = some r := H
            have A13 := Aside0.mk A130
            clear A130
            by_cases c14 : 0 ≤ x4_2
            · rw [if_pos c14] at H
              have c14b0 := eq_true c14
              have c14b1 : decide (0 ≤ x4_2) = true := decide_eq_true c14
              clear c14
              by_cases c15 : x4_2 ≤ t131
              · rw [if_pos c15] at H
                have c15b0 := eq_true c15
                have c15b1 : decide (x4_2 ≤ t131) = true := decide_eq_true c15
                clear c15
                by_cases c16 : t131 ≤ (a0.size : Int)
                · rw [if_pos c16] at H
                  have c16b0 := eq_true c16
                  have c16b1 : decide (t131 ≤ (a0.size : Int)) = true := decide_eq_true c16
                  clear c16
                  by_cases c17 : x3_2.length < 8796093022208
                  · rw [if_pos c17] at H
                    have LMc17 := Aside0.mk c17
                    clear c17
                    obtain ⟨y133, hy133⟩ : ∃ y_ : List ByteArray, y_ = (x3_2 ++ [a0.extract (x4_2 : Int).toNat (t131 : Int).toNat]) := ⟨_, rfl⟩
                    replace H : (gemotref2_Of_p.l0 k2 a0 y133 t131) = some r := by first | (rw [hy133]; with_reducible exact H) | (have H2_ := (Option.bind_some _ _).symm.trans H; rw [hy133]; with_reducible exact H2_) | (have H2_ := (Option.bind_some _ _).symm.trans H; with_reducible exact H2_) | with_reducible exact H | (rw [hy133]; exact H) | exact H
                    have Ny133 := Aside0.mk hy133
                    clear hy133
                    have H' := Aside0.mk H
                    clear H
                    go_wp2_with (first | ((with_reducible refine gate_callee (f := 126) rfl ?_); refine goesL_ (some 24) rfl rfl Try.func126 (by kernel_rfl) rfl #[.string a0, .int .i64 x4_2, .int .i64 400] rfl (by (try simp only [List.map_toArray, List.map_cons, List.map_nil]); first | done | rfl | (simp only [List.length_drop, List.length_take]; rfl)) ?_; (with_reducible refine (gemotref1_End.calls a0 x4_2 400 t131 t132 _ A13.out).mono ?_); rintro e w18 ⟨rfl, hb⟩; refine ⟨_, rfl, ?_⟩; have n0_ := Aside0.mk (Kd.R_below (by (with_reducible repeat (first | apply Kd.R_alloc | apply Kd.R_drewN | apply Kd.R_drew)); exact HO_3.out) hb); have n1_ := Aside0.mk (below_step (by repeat (first | (with_reducible first | exact HB.out | apply below_alloc | apply pw_below_drewN | apply below_drew1) | exact HB.out)) hb); clear HO_3; clear HB; have HO_3 := n0_; have HB := n1_; clear n0_ n1_; (try clear hb); (try clear hb2); (try clear hk); (try clear hi)) | ((with_reducible refine gate_builtin (b := .append) (xs := #[.tmp 27, .tmp 32]) rfl ?_); at_builtin; refine Kd.R_append Kd.string (w0 := w) w.heap.size rfl (.tmp 27) (.tmp 32) 43 9 (.string ⟨#[]⟩) 16 rfl Try.underlying43 info9 rfl (by decide) (by omega) u3 x3_2 (a0.extract (x4_2 : Int).toNat (t131 : Int).toNat) [.string (a0.extract (x4_2 : Int).toNat (t131 : Int).toNat)] (fun _ => True) (fun _ => False) rfl rfl ?aP (fun _ hk => hk.elim) ?aF ?aO ?aB ?aS ?aL ?_; (case aP => exact rfl); (case aB => exact (by repeat (first | (with_reducible first | exact HB.out | apply below_alloc | apply pw_below_drewN | apply below_drew1) | exact HB.out))); (case aF => exact (fun _ _ => trivial)); (case aO => exact (by (with_reducible repeat (first | apply Kd.R_alloc | apply Kd.R_drewN | apply Kd.R_drew)); exact HO_3.out)); (case aS => exact (below_size (by repeat (first | (with_reducible first | exact HB.out | apply below_alloc | apply pw_below_drewN | apply below_drew1) | exact HB.out)))); (case aL => have := LMc17.out; omega); intro v134 w19 ho hb hg hat; rw [← Ny133.out] at ho; have n0_ := Aside0.mk (hb); have n1_ := Aside0.mk (ho); clear HB; clear HO_3; have HB := n0_; have HO135 := n1_; clear n0_ n1_; clear ho hb hg hat))
                    go_roundg k2
                    case measure => have := HJ2.out; have := HK2.out; omega
                    case rel => exact ⟨(y133), (t131), (by first | rfl | (simp; done) | (simp [*]; done)), H', ⟨by have := HJ2.out; have := HK2.out; omega⟩, ⟨by (with_reducible repeat (first | apply Kd.R_alloc | apply Kd.R_drewN | apply Kd.R_drew)); exact HO135.out⟩, ⟨by repeat (first | (with_reducible first | exact HB.out | apply below_alloc | apply pw_below_drewN | apply below_drew1) | exact HB.out)⟩⟩
                  · rw [if_neg c17] at H
                    exact absurd H (by simp)
                · rw [if_neg c16] at H
                  exact absurd H (by simp)
              · rw [if_neg c15] at H
                exact absurd H (by simp)
            · rw [if_neg c14] at H
              exact absurd H (by simp)
          · rw [if_neg c12] at H
            have c12b0 : decide (x4_2 < (a0.size : Int)) = false := decide_eq_false c12
            clear c12
            obtain rfl := Option.some.inj H
            go_wp2
            go_ret
            exact ⟨_, by first | rfl | (simp [errW_none, errW_some] <;> rfl) | (simp [*, errW_none, errW_some] <;> rfl), by (with_reducible repeat (first | apply Kd.R_alloc | apply Kd.R_drewN | apply Kd.R_drew)); exact HO_3.out, by repeat (first | (with_reducible first | exact HB.out | apply below_alloc | apply pw_below_drewN | apply below_drew1) | exact HB.out)⟩

open Go.Proofs.Ytpfpmjdifnoeoaa.Pure
def gemotref2_Of.f (t : ByteArray) : Option (List ByteArray) := if t.size < 9223372036854770000 then some (kidsP t) else none
theorem gemotref2_Of.loop {t : ByteArray} (hs : t.size ≤ 20000) : ∀ (ts : List ByteArray) (i : Nat) (acc : List ByteArray), Lies t (cat ts) i → i + (cat ts).size = t.size → (∀ x ∈ ts, Tm x) → acc.length ≤ i →
    ∃ K, ∀ k, K ≤ k → gemotref2_Of_p.l0 k t acc i = some (acc ++ ts)
  | [], i, acc, hl, he, _, _ => by
    refine ⟨1, fun k hk => ?_⟩
    obtain ⟨k, rfl⟩ : ∃ m, k = m + 1 := ⟨k - 1, by omega⟩
    have hz : (cat []).size = 0 := rfl
    simp only [gemotref2_Of_p.l0]
    rw [if_neg (by omega), List.append_nil]
  | x :: ts, i, acc, hl, he, hx, ha => by
    have hz : (cat (x :: ts)).size = x.size + (cat ts).size := by rw [cat, ByteArray.size_append]
    have hp := (hx x List.mem_cons_self).pos
    have h1 : Lies t x i := by have := hl.trans (Lies.first x (cat ts)); rwa [Nat.add_zero] at this
    have h2 : Lies t (cat ts) (i + x.size) := hl.trans (Lies.last x (cat ts))
    obtain ⟨K, hK⟩ := gemotref2_Of.loop hs ts (i + x.size) (acc ++ [x]) h2 (by omega) (fun y hy => hx y (List.mem_cons_of_mem _ hy)) (by rw [List.length_append]; simp; omega)
    refine ⟨K + 1, fun k hk => ?_⟩
    obtain ⟨k, rfl⟩ : ∃ m, k = m + 1 := ⟨k - 1, by omega⟩
    have h3 := Tm.at_ h1 (hx x List.mem_cons_self) 400 (by have := (hx x List.mem_cons_self).dep; omega)
    simp only [gemotref2_Of_p.l0]
    unfold gemotref1_End.f refEnd
    rw [if_pos (by omega), if_pos (by omega), show ((400 : Int)).toNat = 400 from rfl, h3]
    simp only [Option.bind_some, finR, if_true]
    rw [if_pos (by omega), if_pos (by omega), if_pos (by omega), if_pos (by omega)]
    have h4 : t.extract ((i : Int)).toNat ((i : Int) + (x.size : Int)).toNat = x := by
      rw [show ((i : Int)).toNat = i by omega, show ((i : Int) + (x.size : Int)).toNat = i + x.size by omega]
      exact h1.whole
    rw [h4, show ((i : Int) + (x.size : Int)) = ((i + x.size : Nat) : Int) by omega, hK k (by omega), List.append_assoc]
    rfl
theorem gemotref2_Of.eq (t : ByteArray) (hs : t.size < 9223372036854770000) : ∃ k, gemotref2_Of_p.f k t = some (kidsP t) := by
  unfold gemotref2_Of_p.f gemotref2_Kind.f
  simp only [if_pos hs, Option.bind_some]
  by_cases c : rightB t = true
  · have hk : kindF t = bt t 0 := by unfold kindF; rw [if_pos c]
    have hz := ((right_iff t).mp c).2
    have hp : kidsP t = kidsF t := by unfold kidsP; rw [if_pos c]
    rw [hk, hp]
    rcases right_cases c with hl | ⟨hd, pow, n⟩
    · have hb := leaf_bytes hl
      refine ⟨1, ?_⟩
      rw [if_neg (by omega), if_neg (by omega), if_neg (by omega), if_neg (by omega), kids_leaf hl]
      simp only [gemotref2_Of_p.j0]
      rw [if_neg (by simp; omega), if_neg (by omega)]
    · have hl : Lies t (cat (kidsF t)) hd.size := by
        have := Lies.last hd (cat (kidsF t))
        rwa [← n.eq] at this
      have he : hd.size + (cat (kidsF t)).size = t.size := by have := congrArg ByteArray.size n.eq; rw [ByteArray.size_append] at this; omega
      obtain ⟨K, hK⟩ := gemotref2_Of.loop hz (kidsF t) hd.size [] hl he (fun x hx => (n.parts x hx).1) (Nat.zero_le _)
      have h1 := hK K (Nat.le_refl _)
      rw [List.nil_append] at h1
      have h3 := bt_head n
      have hh := n.head
      have hsz := hh.size
      refine ⟨K + 2, ?_⟩
      have hj : ∀ b, b = true → pow = false → gemotref2_Of_p.j0 (K + 2) t [] 1 (bt t 0) b = some (kidsF t) := by
        intro b hb hpw
        subst hpw
        simp only [gemotref2_Of_p.j0, gemotref2_Of_p.j1]
        rw [if_pos hb]
        rw [hsz] at h1
        exact h1
      rcases node_bytes n with q | q | q | q | q | q
      · have hpw : pow = false := by
          rw [h3] at q
          generalize kidsF t = ts at *
          cases hh <;> first | rfl | exact absurd q (by show ¬ ((101 : Int) = _); decide)
        rw [if_pos q]; exact hj _ (by rw [q]; rfl) hpw
      · have hpw : pow = false := by
          rw [h3] at q
          generalize kidsF t = ts at *
          cases hh <;> first | rfl | exact absurd q (by show ¬ ((101 : Int) = _); decide)
        rw [if_neg (by omega), if_pos q]; exact hj _ (by rw [q]; rfl) hpw
      · have hpw : pow = false := by
          rw [h3] at q
          generalize kidsF t = ts at *
          cases hh <;> first | rfl | exact absurd q (by show ¬ ((101 : Int) = _); decide)
        rw [if_neg (by omega), if_neg (by omega), if_pos q]; exact hj _ (by rw [q]; rfl) hpw
      · have hpw : pow = false := by
          rw [h3] at q
          generalize kidsF t = ts at *
          cases hh <;> first | rfl | exact absurd q (by show ¬ ((101 : Int) = _); decide)
        rw [if_neg (by omega), if_neg (by omega), if_neg (by omega), if_neg (by omega)]; exact hj _ (by rw [q]; rfl) hpw
      · have hpw : pow = false := by
          rw [h3] at q
          generalize kidsF t = ts at *
          cases hh <;> first | rfl | exact absurd q (by show ¬ ((101 : Int) = _); decide)
        rw [if_neg (by omega), if_neg (by omega), if_neg (by omega), if_pos q]; exact hj _ (by rw [q]; rfl) hpw
      · obtain ⟨q, rfl⟩ := q
        rw [if_neg (by omega), if_neg (by omega), if_neg (by omega), if_neg (by omega), q]
        simp only [gemotref2_Of_p.j0, gemotref2_Of_p.j1]
        rw [if_neg (by decide), if_pos trivial]
        rw [hsz] at h1
        exact h1
  · have hk : kindF t = 0 := by unfold kindF; rw [if_neg c]
    have hp : kidsP t = [] := by unfold kidsP; rw [if_neg c]
    refine ⟨1, ?_⟩
    rw [hk, hp, if_neg (by decide), if_neg (by decide), if_neg (by decide), if_neg (by decide)]
    simp only [gemotref2_Of_p.j0]
    rw [if_neg (by decide), if_neg (by decide)]
theorem gemotref2_Of.calls (a0 : ByteArray) (r : List ByteArray) (w : World) (h : gemotref2_Of.f a0 = some r) :
    Calls Try.prog 75 #[.string a0] w fun e w' => ∃ v0_ : Value, e = .returned (v0_) ∧ Kd.R Kd.string 9 w' w.heap.size (fun _ => True) v0_ r ∧ Below w.heap.size w w' := by
  unfold gemotref2_Of.f at h
  split at h
  case isFalse => cases h
  rename_i hs
  obtain ⟨k, hk⟩ := gemotref2_Of.eq a0 hs
  exact gemotref2_Of_p.calls k a0 r w (hk.trans h)

end Go.Proofs.Ytpfpmjdifnoeoaa.F
namespace Go.Proofs.Ytpfpmjdifnoeoaa.F
open Go.RowKit Go.Proofs.YtpfpmjdifnoeoaaW.PrintWords Go.Proofs.YtpfpmjdifnoeoaaW.PrintLast Go.Proofs.YtpfpmjdifnoeoaaW.PrintMore
attribute [local go_sem] max2_int min2_int max_two min_two max_three min_three max_four min_four
set_option linter.unusedVariables false
set_option linter.unusedSimpArgs false

/-! ### gemotref2_Open: function 38 -/
/-! #### gemotref2_Open_p: function 38 -/
def gemotref2_Open_p.f (a0 : ByteArray) (a1 : ByteArray) : Option (ByteArray × ByteArray × Int) := (gemotref2_Kind.f a0).bind fun t136 => (if t136 = 115 then ((gemotref2_Of.f a0).bind fun t137 => (if 0 < (t137.length : Int) then (if (rdOf ByteArray.empty t137 0).toList = a1.toList then (if 1 < (t137.length : Int) then (if 2 < (t137.length : Int) then (some (rdOf ByteArray.empty t137 1, rdOf ByteArray.empty t137 2, 0)) else (none)) else (none)) else (some ((⟨#[]⟩ : ByteArray), (⟨#[]⟩ : ByteArray), 6))) else (none))) else (some ((⟨#[]⟩ : ByteArray), (⟨#[]⟩ : ByteArray), 2)))
set_option maxHeartbeats 8000000 in
set_option maxRecDepth 100000 in
theorem gemotref2_Open_p.calls (a0 : ByteArray) (a1 : ByteArray) (r1 : ByteArray) (r2 : ByteArray) (r3 : Int) (w : World) (h : gemotref2_Open_p.f a0 a1 = some (r1, r2, r3)) :
    Calls Try.prog 38 #[.string a0, .string a1] w fun e w' => e = .returned (.tuple #[.string r1, .string r2, .int .i64 r3]) ∧ Below w.heap.size w w' := by
  have HB := Aside0.mk (Below.refl w.heap.size w)
  have H : ((gemotref2_Kind.f a0).bind fun t136 => (if t136 = 115 then ((gemotref2_Of.f a0).bind fun t137 => (if 0 < (t137.length : Int) then (if (rdOf ByteArray.empty t137 0).toList = a1.toList then (if 1 < (t137.length : Int) then (if 2 < (t137.length : Int) then (some (rdOf ByteArray.empty t137 1, rdOf ByteArray.empty t137 2, 0)) else (none)) else (none)) else (some ((⟨#[]⟩ : ByteArray), (⟨#[]⟩ : ByteArray), 6))) else (none))) else (some ((⟨#[]⟩ : ByteArray), (⟨#[]⟩ : ByteArray), 2)))) = some (r1, r2, r3) := h
  clear h
  replace H := Option.bind_eq_some_iff.mp H
  obtain ⟨t136, A30, H⟩ := H
  replace H : (if t136 = 115 then ((gemotref2_Of.f a0).bind fun t137 => (if 0 < (t137.length : Int) then (if (rdOf ByteArray.empty t137 0).toList = a1.toList then (if 1 < (t137.length : Int) then (if 2 < (t137.length : Int) then (some (rdOf ByteArray.empty t137 1, rdOf ByteArray.empty t137 2, 0)) else (none)) else (none)) else (some ((⟨#[]⟩ : ByteArray), (⟨#[]⟩ : ByteArray), 6))) else (none))) else (some ((⟨#[]⟩ : ByteArray), (⟨#[]⟩ : ByteArray), 2))) = some (r1, r2, r3) := H
  have A3 := Aside0.mk A30
  clear A30
  by_cases c4 : t136 = 115
  · rw [if_pos c4] at H
    have c4b0 : (t136 == 115) = true := beq_iff_eq.mpr c4
    have c4b1 : (t136 != 115) = false := bne_eq_false_iff_eq.mpr c4
    clear c4
    replace H := Option.bind_eq_some_iff.mp H
    obtain ⟨t137, A50, H⟩ := H
    replace H : (if 0 < (t137.length : Int) then (if (rdOf ByteArray.empty t137 0).toList = a1.toList then (if 1 < (t137.length : Int) then (if 2 < (t137.length : Int) then (some (rdOf ByteArray.empty t137 1, rdOf ByteArray.empty t137 2, 0)) else (none)) else (none)) else (some ((⟨#[]⟩ : ByteArray), (⟨#[]⟩ : ByteArray), 6))) else (none)) = some (r1, r2, r3) := H
    have A5 := Aside0.mk A50
    clear A50
    by_cases c6 : 0 < (t137.length : Int)
    · rw [if_pos c6] at H
      have c6b0 : decide (0 < (t137.length : Int)) = true := decide_eq_true c6
      have c6b1 : decide (0 < t137.length) = true := decide_eq_true (by omega)
      clear c6
      by_cases c7 : (rdOf ByteArray.empty t137 0).toList = a1.toList
      · rw [if_pos c7] at H
        have c7b0 : ((rdOf ByteArray.empty t137 0).toList == a1.toList) = true := beq_iff_eq.mpr c7
        have c7b1 : ((rdOf ByteArray.empty t137 0).toList != a1.toList) = false := bne_eq_false_iff_eq.mpr c7
        clear c7
        by_cases c8 : 1 < (t137.length : Int)
        · rw [if_pos c8] at H
          have c8b0 : decide (1 < (t137.length : Int)) = true := decide_eq_true c8
          have c8b1 : decide (1 < t137.length) = true := decide_eq_true (by omega)
          clear c8
          by_cases c9 : 2 < (t137.length : Int)
          · rw [if_pos c9] at H
            have c9b0 : decide (2 < (t137.length : Int)) = true := decide_eq_true c9
            have c9b1 : decide (2 < t137.length) = true := decide_eq_true (by omega)
            clear c9
            simp only [Option.some.injEq, Prod.mk.injEq] at H
            obtain ⟨rfl, rfl, rfl⟩ := H
            go_enter Try.func38, Try.ntmps38
            go_wp2_with (first | (go_at_call 72; (with_reducible refine (gemotref2_Kind.calls a0 t136 _ A3.out).mono ?_); rintro e w10 ⟨rfl, hb⟩; have n0_ := Aside0.mk (below_step (by repeat (first | (with_reducible first | exact HB.out | apply below_alloc | apply pw_below_drewN | apply below_drew1) | exact HB.out)) hb); clear HB; have HB := n0_; clear n0_; (try clear hb); (try clear hb2); (try clear hk); (try clear hi)) | (go_at_call 75; (with_reducible refine (gemotref2_Of.calls a0 t137 _ A5.out).mono ?_); rintro e w11 ⟨v138, rfl, ho0, hb⟩; have n0_ := Aside0.mk (Kd.R_lower ho0 (below_size (by repeat (first | (with_reducible first | exact HB.out | apply below_alloc | apply pw_below_drewN | apply below_drew1) | exact HB.out)))); have n1_ := Aside0.mk (below_step (by repeat (first | (with_reducible first | exact HB.out | apply below_alloc | apply pw_below_drewN | apply below_drew1) | exact HB.out)) hb); clear HB; have HO139 := n0_; have HB := n1_; clear n0_ n1_; (try clear hb); (try clear hb2); (try clear hk); (try clear hi); (try clear ho0); obtain ⟨Ao12, co12, eo12⟩ := Kd.R_slice HO139.out; subst eo12; have p140 : 0 ≤ (0 : Int) := (by omega); have q140 : 0 < (t137.length : Int) := of_decide_eq_true (by first | (with_reducible assumption) | assumption); obtain ⟨ad140, e140, hx140_0⟩ := Kd.at_string (Kd.R_reads' HO139.out).2.2 0 p140 q140; cases e140; have qi140 : (0 < t137.length) = True := eq_true (by omega); (try rw [show ((0 : Int)).toNat = 0 from rfl] at hx140_0); (try rw [Addr.add_zero'] at hx140_0); replace p140 := eq_true p140; replace q140 := eq_true q140; have p141 : 0 ≤ (1 : Int) := (by omega); have q141 : 1 < (t137.length : Int) := of_decide_eq_true (by first | (with_reducible assumption) | assumption); obtain ⟨ad141, e141, hx141_0⟩ := Kd.at_string (Kd.R_reads' HO139.out).2.2 1 p141 q141; obtain rfl : ad140 = ad141 := (by injection e141); (try simp only [show (1 : Int).toNat = 1 from rfl, Nat.reduceMul, Nat.reduceEqDiff, Go.Addr.add, ↓reduceIte] at hx141_0); have qi141 : (1 < t137.length) = True := eq_true (by omega); (try rw [show ((1 : Int)).toNat = 1 from rfl] at hx141_0); replace p141 := eq_true p141; replace q141 := eq_true q141; have p142 : 0 ≤ (2 : Int) := (by omega); have q142 : 2 < (t137.length : Int) := of_decide_eq_true (by first | (with_reducible assumption) | assumption); obtain ⟨ad142, e142, hx142_0⟩ := Kd.at_string (Kd.R_reads' HO139.out).2.2 2 p142 q142; obtain rfl : ad140 = ad142 := (by injection e142); (try simp only [show (2 : Int).toNat = 2 from rfl, Nat.reduceMul, Nat.reduceEqDiff, Go.Addr.add, ↓reduceIte] at hx142_0); have qi142 : (2 < t137.length) = True := eq_true (by omega); (try rw [show ((2 : Int)).toNat = 2 from rfl] at hx142_0); replace p142 := eq_true p142; replace q142 := eq_true q142))
            repeat (go_quiet (first | (go_at_call 72; (with_reducible refine (gemotref2_Kind.calls a0 t136 _ A3.out).mono ?_); rintro e w10 ⟨rfl, hb⟩; have n0_ := Aside0.mk (below_step (by repeat (first | (with_reducible first | exact HB.out | apply below_alloc | apply pw_below_drewN | apply below_drew1) | exact HB.out)) hb); clear HB; have HB := n0_; clear n0_; (try clear hb); (try clear hb2); (try clear hk); (try clear hi)) | (go_at_call 75; (with_reducible refine (gemotref2_Of.calls a0 t137 _ A5.out).mono ?_); rintro e w11 ⟨v138, rfl, ho0, hb⟩; have n0_ := Aside0.mk (Kd.R_lower ho0 (below_size (by repeat (first | (with_reducible first | exact HB.out | apply below_alloc | apply pw_below_drewN | apply below_drew1) | exact HB.out)))); have n1_ := Aside0.mk (below_step (by repeat (first | (with_reducible first | exact HB.out | apply below_alloc | apply pw_below_drewN | apply below_drew1) | exact HB.out)) hb); clear HB; have HO139 := n0_; have HB := n1_; clear n0_ n1_; (try clear hb); (try clear hb2); (try clear hk); (try clear hi); (try clear ho0); obtain ⟨Ao12, co12, eo12⟩ := Kd.R_slice HO139.out; subst eo12; have p140 : 0 ≤ (0 : Int) := (by omega); have q140 : 0 < (t137.length : Int) := of_decide_eq_true (by first | (with_reducible assumption) | assumption); obtain ⟨ad140, e140, hx140_0⟩ := Kd.at_string (Kd.R_reads' HO139.out).2.2 0 p140 q140; cases e140; have qi140 : (0 < t137.length) = True := eq_true (by omega); (try rw [show ((0 : Int)).toNat = 0 from rfl] at hx140_0); (try rw [Addr.add_zero'] at hx140_0); replace p140 := eq_true p140; replace q140 := eq_true q140; have p141 : 0 ≤ (1 : Int) := (by omega); have q141 : 1 < (t137.length : Int) := of_decide_eq_true (by first | (with_reducible assumption) | assumption); obtain ⟨ad141, e141, hx141_0⟩ := Kd.at_string (Kd.R_reads' HO139.out).2.2 1 p141 q141; obtain rfl : ad140 = ad141 := (by injection e141); (try simp only [show (1 : Int).toNat = 1 from rfl, Nat.reduceMul, Nat.reduceEqDiff, Go.Addr.add, ↓reduceIte] at hx141_0); have qi141 : (1 < t137.length) = True := eq_true (by omega); (try rw [show ((1 : Int)).toNat = 1 from rfl] at hx141_0); replace p141 := eq_true p141; replace q141 := eq_true q141; have p142 : 0 ≤ (2 : Int) := (by omega); have q142 : 2 < (t137.length : Int) := of_decide_eq_true (by first | (with_reducible assumption) | assumption); obtain ⟨ad142, e142, hx142_0⟩ := Kd.at_string (Kd.R_reads' HO139.out).2.2 2 p142 q142; obtain rfl : ad140 = ad142 := (by injection e142); (try simp only [show (2 : Int).toNat = 2 from rfl, Nat.reduceMul, Nat.reduceEqDiff, Go.Addr.add, ↓reduceIte] at hx142_0); have qi142 : (2 < t137.length) = True := eq_true (by omega); (try rw [show ((2 : Int)).toNat = 2 from rfl] at hx142_0); replace p142 := eq_true p142; replace q142 := eq_true q142)); try go_wp2_with (first | (go_at_call 72; (with_reducible refine (gemotref2_Kind.calls a0 t136 _ A3.out).mono ?_); rintro e w10 ⟨rfl, hb⟩; have n0_ := Aside0.mk (below_step (by repeat (first | (with_reducible first | exact HB.out | apply below_alloc | apply pw_below_drewN | apply below_drew1) | exact HB.out)) hb); clear HB; have HB := n0_; clear n0_; (try clear hb); (try clear hb2); (try clear hk); (try clear hi)) | (go_at_call 75; (with_reducible refine (gemotref2_Of.calls a0 t137 _ A5.out).mono ?_); rintro e w11 ⟨v138, rfl, ho0, hb⟩; have n0_ := Aside0.mk (Kd.R_lower ho0 (below_size (by repeat (first | (with_reducible first | exact HB.out | apply below_alloc | apply pw_below_drewN | apply below_drew1) | exact HB.out)))); have n1_ := Aside0.mk (below_step (by repeat (first | (with_reducible first | exact HB.out | apply below_alloc | apply pw_below_drewN | apply below_drew1) | exact HB.out)) hb); clear HB; have HO139 := n0_; have HB := n1_; clear n0_ n1_; (try clear hb); (try clear hb2); (try clear hk); (try clear hi); (try clear ho0); obtain ⟨Ao12, co12, eo12⟩ := Kd.R_slice HO139.out; subst eo12; have p140 : 0 ≤ (0 : Int) := (by omega); have q140 : 0 < (t137.length : Int) := of_decide_eq_true (by first | (with_reducible assumption) | assumption); obtain ⟨ad140, e140, hx140_0⟩ := Kd.at_string (Kd.R_reads' HO139.out).2.2 0 p140 q140; cases e140; have qi140 : (0 < t137.length) = True := eq_true (by omega); (try rw [show ((0 : Int)).toNat = 0 from rfl] at hx140_0); (try rw [Addr.add_zero'] at hx140_0); replace p140 := eq_true p140; replace q140 := eq_true q140; have p141 : 0 ≤ (1 : Int) := (by omega); have q141 : 1 < (t137.length : Int) := of_decide_eq_true (by first | (with_reducible assumption) | assumption); obtain ⟨ad141, e141, hx141_0⟩ := Kd.at_string (Kd.R_reads' HO139.out).2.2 1 p141 q141; obtain rfl : ad140 = ad141 := (by injection e141); (try simp only [show (1 : Int).toNat = 1 from rfl, Nat.reduceMul, Nat.reduceEqDiff, Go.Addr.add, ↓reduceIte] at hx141_0); have qi141 : (1 < t137.length) = True := eq_true (by omega); (try rw [show ((1 : Int)).toNat = 1 from rfl] at hx141_0); replace p141 := eq_true p141; replace q141 := eq_true q141; have p142 : 0 ≤ (2 : Int) := (by omega); have q142 : 2 < (t137.length : Int) := of_decide_eq_true (by first | (with_reducible assumption) | assumption); obtain ⟨ad142, e142, hx142_0⟩ := Kd.at_string (Kd.R_reads' HO139.out).2.2 2 p142 q142; obtain rfl : ad140 = ad142 := (by injection e142); (try simp only [show (2 : Int).toNat = 2 from rfl, Nat.reduceMul, Nat.reduceEqDiff, Go.Addr.add, ↓reduceIte] at hx142_0); have qi142 : (2 < t137.length) = True := eq_true (by omega); (try rw [show ((2 : Int)).toNat = 2 from rfl] at hx142_0); replace p142 := eq_true p142; replace q142 := eq_true q142)))
            go_ret3
            exact ⟨by first | rfl | (simp [errW_none, errW_some] <;> rfl) | (simp [*, errW_none, errW_some] <;> rfl), by repeat (first | (with_reducible first | exact HB.out | apply below_alloc | apply pw_below_drewN | apply below_drew1) | exact HB.out)⟩
          · rw [if_neg c9] at H
            exact absurd H (by simp)
        · rw [if_neg c8] at H
          exact absurd H (by simp)
      · rw [if_neg c7] at H
        have c7b0 : ((rdOf ByteArray.empty t137 0).toList == a1.toList) = false := beq_eq_false_iff_ne.mpr c7
        have c7b1 : ((rdOf ByteArray.empty t137 0).toList != a1.toList) = true := bne_iff_ne.mpr c7
        simp only [Option.some.injEq, Prod.mk.injEq] at H
        obtain ⟨rfl, rfl, rfl⟩ := H
        go_enter Try.func38, Try.ntmps38
        go_wp2_with (first | (go_at_call 72; (with_reducible refine (gemotref2_Kind.calls a0 t136 _ A3.out).mono ?_); rintro e w13 ⟨rfl, hb⟩; have n0_ := Aside0.mk (below_step (by repeat (first | (with_reducible first | exact HB.out | apply below_alloc | apply pw_below_drewN | apply below_drew1) | exact HB.out)) hb); clear HB; have HB := n0_; clear n0_; (try clear hb); (try clear hb2); (try clear hk); (try clear hi)) | (go_at_call 75; (with_reducible refine (gemotref2_Of.calls a0 t137 _ A5.out).mono ?_); rintro e w14 ⟨v138, rfl, ho0, hb⟩; have n0_ := Aside0.mk (Kd.R_lower ho0 (below_size (by repeat (first | (with_reducible first | exact HB.out | apply below_alloc | apply pw_below_drewN | apply below_drew1) | exact HB.out)))); have n1_ := Aside0.mk (below_step (by repeat (first | (with_reducible first | exact HB.out | apply below_alloc | apply pw_below_drewN | apply below_drew1) | exact HB.out)) hb); clear HB; have HO139 := n0_; have HB := n1_; clear n0_ n1_; (try clear hb); (try clear hb2); (try clear hk); (try clear hi); (try clear ho0); obtain ⟨Ao15, co15, eo15⟩ := Kd.R_slice HO139.out; subst eo15; have p140 : 0 ≤ (0 : Int) := (by omega); have q140 : 0 < (t137.length : Int) := of_decide_eq_true (by first | (with_reducible assumption) | assumption); obtain ⟨ad140, e140, hx140_0⟩ := Kd.at_string (Kd.R_reads' HO139.out).2.2 0 p140 q140; cases e140; have qi140 : (0 < t137.length) = True := eq_true (by omega); (try rw [show ((0 : Int)).toNat = 0 from rfl] at hx140_0); (try rw [Addr.add_zero'] at hx140_0); replace p140 := eq_true p140; replace q140 := eq_true q140))
        repeat (go_quiet (first | (go_at_call 72; (with_reducible refine (gemotref2_Kind.calls a0 t136 _ A3.out).mono ?_); rintro e w13 ⟨rfl, hb⟩; have n0_ := Aside0.mk (below_step (by repeat (first | (with_reducible first | exact HB.out | apply below_alloc | apply pw_below_drewN | apply below_drew1) | exact HB.out)) hb); clear HB; have HB := n0_; clear n0_; (try clear hb); (try clear hb2); (try clear hk); (try clear hi)) | (go_at_call 75; (with_reducible refine (gemotref2_Of.calls a0 t137 _ A5.out).mono ?_); rintro e w14 ⟨v138, rfl, ho0, hb⟩; have n0_ := Aside0.mk (Kd.R_lower ho0 (below_size (by repeat (first | (with_reducible first | exact HB.out | apply below_alloc | apply pw_below_drewN | apply below_drew1) | exact HB.out)))); have n1_ := Aside0.mk (below_step (by repeat (first | (with_reducible first | exact HB.out | apply below_alloc | apply pw_below_drewN | apply below_drew1) | exact HB.out)) hb); clear HB; have HO139 := n0_; have HB := n1_; clear n0_ n1_; (try clear hb); (try clear hb2); (try clear hk); (try clear hi); (try clear ho0); obtain ⟨Ao15, co15, eo15⟩ := Kd.R_slice HO139.out; subst eo15; have p140 : 0 ≤ (0 : Int) := (by omega); have q140 : 0 < (t137.length : Int) := of_decide_eq_true (by first | (with_reducible assumption) | assumption); obtain ⟨ad140, e140, hx140_0⟩ := Kd.at_string (Kd.R_reads' HO139.out).2.2 0 p140 q140; cases e140; have qi140 : (0 < t137.length) = True := eq_true (by omega); (try rw [show ((0 : Int)).toNat = 0 from rfl] at hx140_0); (try rw [Addr.add_zero'] at hx140_0); replace p140 := eq_true p140; replace q140 := eq_true q140)); try go_wp2_with (first | (go_at_call 72; (with_reducible refine (gemotref2_Kind.calls a0 t136 _ A3.out).mono ?_); rintro e w13 ⟨rfl, hb⟩; have n0_ := Aside0.mk (below_step (by repeat (first | (with_reducible first | exact HB.out | apply below_alloc | apply pw_below_drewN | apply below_drew1) | exact HB.out)) hb); clear HB; have HB := n0_; clear n0_; (try clear hb); (try clear hb2); (try clear hk); (try clear hi)) | (go_at_call 75; (with_reducible refine (gemotref2_Of.calls a0 t137 _ A5.out).mono ?_); rintro e w14 ⟨v138, rfl, ho0, hb⟩; have n0_ := Aside0.mk (Kd.R_lower ho0 (below_size (by repeat (first | (with_reducible first | exact HB.out | apply below_alloc | apply pw_below_drewN | apply below_drew1) | exact HB.out)))); have n1_ := Aside0.mk (below_step (by repeat (first | (with_reducible first | exact HB.out | apply below_alloc | apply pw_below_drewN | apply below_drew1) | exact HB.out)) hb); clear HB; have HO139 := n0_; have HB := n1_; clear n0_ n1_; (try clear hb); (try clear hb2); (try clear hk); (try clear hi); (try clear ho0); obtain ⟨Ao15, co15, eo15⟩ := Kd.R_slice HO139.out; subst eo15; have p140 : 0 ≤ (0 : Int) := (by omega); have q140 : 0 < (t137.length : Int) := of_decide_eq_true (by first | (with_reducible assumption) | assumption); obtain ⟨ad140, e140, hx140_0⟩ := Kd.at_string (Kd.R_reads' HO139.out).2.2 0 p140 q140; cases e140; have qi140 : (0 < t137.length) = True := eq_true (by omega); (try rw [show ((0 : Int)).toNat = 0 from rfl] at hx140_0); (try rw [Addr.add_zero'] at hx140_0); replace p140 := eq_true p140; replace q140 := eq_true q140)))
        go_ret3
        exact ⟨by first | rfl | (simp [errW_none, errW_some] <;> rfl) | (simp [*, errW_none, errW_some] <;> rfl), by repeat (first | (with_reducible first | exact HB.out | apply below_alloc | apply pw_below_drewN | apply below_drew1) | exact HB.out)⟩
    · rw [if_neg c6] at H
      exact absurd H (by simp)
  · rw [if_neg c4] at H
    have c4b0 : (t136 == 115) = false := beq_eq_false_iff_ne.mpr c4
    have c4b1 : (t136 != 115) = true := bne_iff_ne.mpr c4
    simp only [Option.some.injEq, Prod.mk.injEq] at H
    obtain ⟨rfl, rfl, rfl⟩ := H
    go_enter Try.func38, Try.ntmps38
    go_wp2_with (first | (go_at_call 72; (with_reducible refine (gemotref2_Kind.calls a0 t136 _ A3.out).mono ?_); rintro e w16 ⟨rfl, hb⟩; have n0_ := Aside0.mk (below_step (by repeat (first | (with_reducible first | exact HB.out | apply below_alloc | apply pw_below_drewN | apply below_drew1) | exact HB.out)) hb); clear HB; have HB := n0_; clear n0_; (try clear hb); (try clear hb2); (try clear hk); (try clear hi)))
    repeat (go_quiet (first | (go_at_call 72; (with_reducible refine (gemotref2_Kind.calls a0 t136 _ A3.out).mono ?_); rintro e w16 ⟨rfl, hb⟩; have n0_ := Aside0.mk (below_step (by repeat (first | (with_reducible first | exact HB.out | apply below_alloc | apply pw_below_drewN | apply below_drew1) | exact HB.out)) hb); clear HB; have HB := n0_; clear n0_; (try clear hb); (try clear hb2); (try clear hk); (try clear hi))); try go_wp2_with (first | (go_at_call 72; (with_reducible refine (gemotref2_Kind.calls a0 t136 _ A3.out).mono ?_); rintro e w16 ⟨rfl, hb⟩; have n0_ := Aside0.mk (below_step (by repeat (first | (with_reducible first | exact HB.out | apply below_alloc | apply pw_below_drewN | apply below_drew1) | exact HB.out)) hb); clear HB; have HB := n0_; clear n0_; (try clear hb); (try clear hb2); (try clear hk); (try clear hi))))
    go_ret3
    exact ⟨by first | rfl | (simp [errW_none, errW_some] <;> rfl) | (simp [*, errW_none, errW_some] <;> rfl), by repeat (first | (with_reducible first | exact HB.out | apply below_alloc | apply pw_below_drewN | apply below_drew1) | exact HB.out)⟩

open Go.Proofs.Ytpfpmjdifnoeoaa.Pure
def gemotref2_Open.f (t key : ByteArray) : Option (ByteArray × ByteArray × Int) := if t.size < 9223372036854770000 then some (openP t key) else none
theorem gemotref2_Open.eq (t key : ByteArray) (hs : t.size < 9223372036854770000) : gemotref2_Open_p.f t key = some (openP t key) := by
  unfold gemotref2_Open_p.f gemotref2_Kind.f gemotref2_Of.f openP
  simp only [if_pos hs, Option.bind_some]
  by_cases c : kindF t = 115
  · obtain ⟨hr, hb⟩ := kind_right c (by decide)
    obtain ⟨x, y, z, hk, _⟩ := kids_seal hr hb
    have hp : kidsP t = [x, y, z] := by unfold kidsP; rw [if_pos hr, hk]
    rw [if_pos c, if_pos c, hp, hk, if_pos (by simp)]
    have hx : rdOf ByteArray.empty [x, y, z] 0 = x := rfl
    rw [hx]
    by_cases d : x = key
    · rw [if_pos d, if_pos (by rw [d]), if_pos (by simp), if_pos (by simp)]
    · rw [if_neg d, if_neg (fun h => d (same_text h))]
  · rw [if_neg c, if_neg c]
theorem gemotref2_Open.calls (a0 : ByteArray) (a1 : ByteArray) (r1 : ByteArray) (r2 : ByteArray) (r3 : Int) (w : World) (h : gemotref2_Open.f a0 a1 = some (r1, r2, r3)) :
    Calls Try.prog 38 #[.string a0, .string a1] w fun e w' => e = .returned (.tuple #[.string r1, .string r2, .int .i64 r3]) ∧ Below w.heap.size w w' := by
  unfold gemotref2_Open.f at h
  split at h
  case isFalse => cases h
  rename_i hs
  exact gemotref2_Open_p.calls a0 a1 r1 r2 r3 w ((gemotref2_Open.eq a0 a1 hs).trans h)

end Go.Proofs.Ytpfpmjdifnoeoaa.F
namespace Go.Proofs.Ytpfpmjdifnoeoaa.F
open Go.RowKit Go.Proofs.YtpfpmjdifnoeoaaW.PrintWords Go.Proofs.YtpfpmjdifnoeoaaW.PrintLast Go.Proofs.YtpfpmjdifnoeoaaW.PrintMore
attribute [local go_sem] max2_int min2_int max_two min_two max_three min_three max_four min_four
set_option linter.unusedVariables false
set_option linter.unusedSimpArgs false

/-! ### gemotref1_Private: function 82 -/
/-! #### gemotref1_Private_p: function 82 -/
def gemotref1_Private_p.f (a0 : Int) : Option (ByteArray × Int) := if a0 < 1 then (some ((⟨#[]⟩ : ByteArray), 1)) else (if a0 > 8 then (some ((⟨#[]⟩ : ByteArray), 1)) else ((some (([(a0) % 256] : List Int) : List Int)).bind fun y154 => (if 1 + (strOfNums y154).size ≤ 9223372036854775807 then (some ((⟨#[105]⟩ : ByteArray) ++ (strOfNums y154), 0)) else (none))))
set_option maxHeartbeats 8000000 in
set_option maxRecDepth 100000 in
theorem gemotref1_Private_p.calls (a0 : Int) (r1 : ByteArray) (r2 : Int) (w : World) (h : gemotref1_Private_p.f a0 = some (r1, r2)) :
    Calls Try.prog 82 #[.int .i64 a0] w fun e w' => e = .returned (.tuple #[.string r1, .int .i64 r2]) ∧ Below w.heap.size w w' := by
  have HB := Aside0.mk (Below.refl w.heap.size w)
  have H : (if a0 < 1 then (some ((⟨#[]⟩ : ByteArray), 1)) else (if a0 > 8 then (some ((⟨#[]⟩ : ByteArray), 1)) else ((some (([(a0) % 256] : List Int) : List Int)).bind fun y154 => (if 1 + (strOfNums y154).size ≤ 9223372036854775807 then (some ((⟨#[105]⟩ : ByteArray) ++ (strOfNums y154), 0)) else (none))))) = some (r1, r2) := h
  clear h
  by_cases c2 : a0 < 1
  · rw [if_pos c2] at H
    have c2b0 : decide (a0 < 1) = true := decide_eq_true c2
    clear c2
    simp only [Option.some.injEq, Prod.mk.injEq] at H
    obtain ⟨rfl, rfl⟩ := H
    go_enter Try.func82, Try.ntmps82
    go_wp2
    go_ret2
    exact ⟨by first | rfl | (simp [errW_none, errW_some] <;> rfl) | (simp [*, errW_none, errW_some] <;> rfl), by repeat (first | (with_reducible first | exact HB.out | apply below_alloc | apply pw_below_drewN | apply below_drew1) | exact HB.out)⟩
  · rw [if_neg c2] at H
    have c2b0 : decide (a0 < 1) = false := decide_eq_false c2
    clear c2
    by_cases c3 : a0 > 8
    · rw [if_pos c3] at H
      have c3b0 : decide (8 < a0) = true := decide_eq_true c3
      clear c3
      simp only [Option.some.injEq, Prod.mk.injEq] at H
      obtain ⟨rfl, rfl⟩ := H
      go_enter Try.func82, Try.ntmps82
      go_wp2
      go_ret2
      exact ⟨by first | rfl | (simp [errW_none, errW_some] <;> rfl) | (simp [*, errW_none, errW_some] <;> rfl), by repeat (first | (with_reducible first | exact HB.out | apply below_alloc | apply pw_below_drewN | apply below_drew1) | exact HB.out)⟩
    · rw [if_neg c3] at H
      have c3b0 : decide (8 < a0) = false := decide_eq_false c3
      clear c3
      obtain ⟨y154, hy154⟩ : ∃ y_ : List Int, y_ = (([(a0) % 256] : List Int)) := ⟨_, rfl⟩
      replace H : (if 1 + (strOfNums y154).size ≤ 9223372036854775807 then (some ((⟨#[105]⟩ : ByteArray) ++ (strOfNums y154), 0)) else (none)) = some (r1, r2) := by first | (rw [hy154]; with_reducible exact H) | (have H2_ := (Option.bind_some _ _).symm.trans H; rw [hy154]; with_reducible exact H2_) | (have H2_ := (Option.bind_some _ _).symm.trans H; with_reducible exact H2_) | with_reducible exact H | (rw [hy154]; exact H) | exact H
      have Ny154 := Aside0.mk hy154
      clear hy154
      by_cases c4 : 1 + (strOfNums y154).size ≤ 9223372036854775807
      · rw [if_pos c4] at H
        have c4b0 := eq_true c4
        have c4b1 : decide (1 + (strOfNums y154).size ≤ 9223372036854775807) = true := decide_eq_true c4
        try have c4b2 : (9223372036854775807 < 1 + (strOfNums y154).size) = False := eq_false (Nat.not_lt.2 c4)
        simp only [Option.some.injEq, Prod.mk.injEq] at H
        obtain ⟨rfl, rfl⟩ := H
        go_enter Try.func82, Try.ntmps82
        go_wp2_with (first | ((with_reducible refine gate_dst (N := 13) rfl ?_); refine Kd.R_lit (Kd.int .u8) _ 5 ?hg (N := 13) ?hd (xs := ([(a0) % 256] : List Int)) (inner := [.int .u8 ((a0) % 256)]) (ok := fun _ => True) (okp := fun _ => True) ?hr ?hp (fun _ hk => hk) trivial (Below.refl _ _) (Nat.le_refl _) (by simp) ?_; (case hd => rfl); (case hg => rfl); (case hr => first | (go_simp; done) | (go_simp; rfl)); (case hp => exact (Reps.one (show Kd.M (Kd.int .u8) _ _ _ ((a0) % 256) [.int .u8 ((a0) % 256)] from rfl) (Reps.none _ _))); intro v155 w5 ho6 hb hg_ hnew_; clear hg_ hnew_; (first | rw [← Ny154.out] at ho6 | (simp only [Int.reduceToNat] at ho6; rw [← Ny154.out] at ho6)); have n0_ := Aside0.mk (Kd.R_lower ho6 (below_size (by repeat (first | (with_reducible first | exact HB.out | apply below_alloc | apply pw_below_drewN | apply below_drew1) | exact HB.out)))); have n1_ := Aside0.mk (below_step (by repeat (first | (with_reducible first | exact HB.out | apply below_alloc | apply pw_below_drewN | apply below_drew1) | exact HB.out)) hb); clear HB; have HO156 := n0_; have HB := n1_; clear n0_ n1_; clear hb ho6; have hcv7 := own_string (P := Try.prog) Try.underlying148 Try.underlying5 Try.underlying9 (Kd.own_of_R HO156.out)))
        go_ret2
        exact ⟨by first | rfl | (simp [errW_none, errW_some] <;> rfl) | (simp [*, errW_none, errW_some] <;> rfl), by repeat (first | (with_reducible first | exact HB.out | apply below_alloc | apply pw_below_drewN | apply below_drew1) | exact HB.out)⟩
      · rw [if_neg c4] at H
        exact absurd H (by simp)

def gemotref1_Private.f (p : Int) : Option (ByteArray × Int) := some (privF p)
theorem gemotref1_Private.eq (p : Int) : gemotref1_Private_p.f p = gemotref1_Private.f p := by
  unfold gemotref1_Private_p.f gemotref1_Private.f privF
  by_cases c : p < 1
  · rw [if_pos c, if_neg (by omega)]
  · rw [if_neg c]
    by_cases d : p > 8
    · rw [if_pos d, if_neg (by omega)]
    · rw [if_neg d, if_pos (by omega), show p % 256 = p by omega]
      simp only [Option.bind_some]
      rw [if_pos (by show 1 + 1 ≤ _; omega)]
      congr 2
theorem gemotref1_Private.calls (a0 : Int) (r1 : ByteArray) (r2 : Int) (w : World) (h : gemotref1_Private.f a0 = some (r1, r2)) :
    Calls Try.prog 82 #[.int .i64 a0] w fun e w' => e = .returned (.tuple #[.string r1, .int .i64 r2]) ∧ Below w.heap.size w w' :=
  gemotref1_Private_p.calls a0 r1 r2 w ((gemotref1_Private.eq a0).trans h)

end Go.Proofs.Ytpfpmjdifnoeoaa.F
namespace Go.Proofs.Ytpfpmjdifnoeoaa.F
open Go.RowKit Go.Proofs.YtpfpmjdifnoeoaaW.PrintWords Go.Proofs.YtpfpmjdifnoeoaaW.PrintLast Go.Proofs.YtpfpmjdifnoeoaaW.PrintMore
attribute [local go_sem] max2_int min2_int max_two min_two max_three min_three max_four min_four
set_option linter.unusedVariables false
set_option linter.unusedSimpArgs false

/-! ### gemotref2_Check: function 40 -/
/-! #### gemotref2_Check_p: function 40 -/
def gemotref2_Check_p.f (a0 : ByteArray) (a1 : Int) : Option (ByteArray × Int) := (gemotref2_Kind.f a0).bind fun t157 => (if t157 = 120 then ((gemotref2_Of.f a0).bind fun t158 => ((gemotref1_Private.f a1).bind fun bt161 => (if bt161.2 = 0 then (if 0 < (t158.length : Int) then (if (rdOf ByteArray.empty t158 0).toList = bt161.1.toList then (if 1 < (t158.length : Int) then (some (rdOf ByteArray.empty t158 1, 0)) else (none)) else (some ((⟨#[]⟩ : ByteArray), 6))) else (none)) else (some ((⟨#[]⟩ : ByteArray), 6))))) else (some ((⟨#[]⟩ : ByteArray), 2)))
set_option maxHeartbeats 8000000 in
set_option maxRecDepth 100000 in
theorem gemotref2_Check_p.calls (a0 : ByteArray) (a1 : Int) (r1 : ByteArray) (r2 : Int) (w : World) (h : gemotref2_Check_p.f a0 a1 = some (r1, r2)) :
    Calls Try.prog 40 #[.string a0, .int .i64 a1] w fun e w' => e = .returned (.tuple #[.string r1, .int .i64 r2]) ∧ Below w.heap.size w w' := by
  have HB := Aside0.mk (Below.refl w.heap.size w)
  have H : ((gemotref2_Kind.f a0).bind fun t157 => (if t157 = 120 then ((gemotref2_Of.f a0).bind fun t158 => ((gemotref1_Private.f a1).bind fun bt161 => (if bt161.2 = 0 then (if 0 < (t158.length : Int) then (if (rdOf ByteArray.empty t158 0).toList = bt161.1.toList then (if 1 < (t158.length : Int) then (some (rdOf ByteArray.empty t158 1, 0)) else (none)) else (some ((⟨#[]⟩ : ByteArray), 6))) else (none)) else (some ((⟨#[]⟩ : ByteArray), 6))))) else (some ((⟨#[]⟩ : ByteArray), 2)))) = some (r1, r2) := h
  clear h
  replace H := Option.bind_eq_some_iff.mp H
  obtain ⟨t157, A30, H⟩ := H
  replace H : (if t157 = 120 then ((gemotref2_Of.f a0).bind fun t158 => ((gemotref1_Private.f a1).bind fun bt161 => (if bt161.2 = 0 then (if 0 < (t158.length : Int) then (if (rdOf ByteArray.empty t158 0).toList = bt161.1.toList then (if 1 < (t158.length : Int) then (some (rdOf ByteArray.empty t158 1, 0)) else (none)) else (some ((⟨#[]⟩ : ByteArray), 6))) else (none)) else (some ((⟨#[]⟩ : ByteArray), 6))))) else (some ((⟨#[]⟩ : ByteArray), 2))) = some (r1, r2) := H
  have A3 := Aside0.mk A30
  clear A30
  by_cases c4 : t157 = 120
  · rw [if_pos c4] at H
    have c4b0 : (t157 == 120) = true := beq_iff_eq.mpr c4
    have c4b1 : (t157 != 120) = false := bne_eq_false_iff_eq.mpr c4
    clear c4
    replace H := Option.bind_eq_some_iff.mp H
    obtain ⟨t158, A50, H⟩ := H
    replace H : ((gemotref1_Private.f a1).bind fun bt161 => (if bt161.2 = 0 then (if 0 < (t158.length : Int) then (if (rdOf ByteArray.empty t158 0).toList = bt161.1.toList then (if 1 < (t158.length : Int) then (some (rdOf ByteArray.empty t158 1, 0)) else (none)) else (some ((⟨#[]⟩ : ByteArray), 6))) else (none)) else (some ((⟨#[]⟩ : ByteArray), 6)))) = some (r1, r2) := H
    have A5 := Aside0.mk A50
    clear A50
    replace H := Option.bind_eq_some_iff.mp H
    obtain ⟨⟨t161, t162⟩, A60, H⟩ := H
    replace H : (if t162 = 0 then (if 0 < (t158.length : Int) then (if (rdOf ByteArray.empty t158 0).toList = t161.toList then (if 1 < (t158.length : Int) then (some (rdOf ByteArray.empty t158 1, 0)) else (none)) else (some ((⟨#[]⟩ : ByteArray), 6))) else (none)) else (some ((⟨#[]⟩ : ByteArray), 6))) = some (r1, r2) := H
    have A6 := Aside0.mk A60
    clear A60
    by_cases c7 : t162 = 0
    · rw [if_pos c7] at H
      have c7b0 : (t162 == 0) = true := beq_iff_eq.mpr c7
      have c7b1 : (t162 != 0) = false := bne_eq_false_iff_eq.mpr c7
      clear c7
      by_cases c8 : 0 < (t158.length : Int)
      · rw [if_pos c8] at H
        have c8b0 : decide (0 < (t158.length : Int)) = true := decide_eq_true c8
        have c8b1 : decide (0 < t158.length) = true := decide_eq_true (by omega)
        clear c8
        by_cases c9 : (rdOf ByteArray.empty t158 0).toList = t161.toList
        · rw [if_pos c9] at H
          have c9b0 : ((rdOf ByteArray.empty t158 0).toList == t161.toList) = true := beq_iff_eq.mpr c9
          have c9b1 : ((rdOf ByteArray.empty t158 0).toList != t161.toList) = false := bne_eq_false_iff_eq.mpr c9
          clear c9
          by_cases c10 : 1 < (t158.length : Int)
          · rw [if_pos c10] at H
            have c10b0 : decide (1 < (t158.length : Int)) = true := decide_eq_true c10
            have c10b1 : decide (1 < t158.length) = true := decide_eq_true (by omega)
            clear c10
            simp only [Option.some.injEq, Prod.mk.injEq] at H
            obtain ⟨rfl, rfl⟩ := H
            go_enter Try.func40, Try.ntmps40
            go_wp2_with (first | ((with_reducible refine gate_callee (f := 72) rfl ?_); refine goesL_ (some 10) rfl rfl Try.func72 (by kernel_rfl) rfl #[.string a0] rfl (by (try simp only [List.map_toArray, List.map_cons, List.map_nil]); first | done | rfl | (simp only [List.length_drop, List.length_take]; rfl)) ?_; (with_reducible refine (gemotref2_Kind.calls a0 t157 _ A3.out).mono ?_); rintro e w11 ⟨rfl, hb⟩; refine ⟨_, rfl, ?_⟩; have n0_ := Aside0.mk (below_step (by repeat (first | (with_reducible first | exact HB.out | apply below_alloc | apply pw_below_drewN | apply below_drew1) | exact HB.out)) hb); clear HB; have HB := n0_; clear n0_; (try clear hb); (try clear hb2); (try clear hk); (try clear hi)) | ((with_reducible refine gate_callee (f := 75) rfl ?_); refine goesL_ (some 13) rfl rfl Try.func75 (by kernel_rfl) rfl #[.string a0] rfl (by (try simp only [List.map_toArray, List.map_cons, List.map_nil]); first | done | rfl | (simp only [List.length_drop, List.length_take]; rfl)) ?_; (with_reducible refine (gemotref2_Of.calls a0 t158 _ A5.out).mono ?_); rintro e w12 ⟨v159, rfl, ho0, hb⟩; refine ⟨_, rfl, ?_⟩; have n0_ := Aside0.mk (Kd.R_lower ho0 (below_size (by repeat (first | (with_reducible first | exact HB.out | apply below_alloc | apply pw_below_drewN | apply below_drew1) | exact HB.out)))); have n1_ := Aside0.mk (below_step (by repeat (first | (with_reducible first | exact HB.out | apply below_alloc | apply pw_below_drewN | apply below_drew1) | exact HB.out)) hb); clear HB; have HO160 := n0_; have HB := n1_; clear n0_ n1_; (try clear hb); (try clear hb2); (try clear hk); (try clear hi); (try clear ho0)) | ((with_reducible refine gate_callee (f := 82) rfl ?_); refine goesL_ (some 16) rfl rfl Try.func82 (by kernel_rfl) rfl #[.int .i64 a1] rfl (by (try simp only [List.map_toArray, List.map_cons, List.map_nil]); first | done | rfl | (simp only [List.length_drop, List.length_take]; rfl)) ?_; (with_reducible refine (gemotref1_Private.calls a1 t161 t162 _ A6.out).mono ?_); rintro e w13 ⟨rfl, hb⟩; refine ⟨_, rfl, ?_⟩; have n0_ := Aside0.mk (Kd.R_below (by (with_reducible repeat (first | apply Kd.R_alloc | apply Kd.R_drewN | apply Kd.R_drew)); exact HO160.out) hb); have n1_ := Aside0.mk (below_step (by repeat (first | (with_reducible first | exact HB.out | apply below_alloc | apply pw_below_drewN | apply below_drew1) | exact HB.out)) hb); clear HO160; clear HB; have HO160 := n0_; have HB := n1_; clear n0_ n1_; (try clear hb); (try clear hb2); (try clear hk); (try clear hi); obtain ⟨Ao14, co14, eo14⟩ := Kd.R_slice HO160.out; subst eo14; have p163 : 0 ≤ (0 : Int) := (by omega); have q163 : 0 < (t158.length : Int) := of_decide_eq_true (by first | (with_reducible assumption) | assumption); obtain ⟨ad163, e163, hx163_0⟩ := Kd.at_string (Kd.R_reads' HO160.out).2.2 0 p163 q163; cases e163; have qi163 : (0 < t158.length) = True := eq_true (by omega); (try rw [show ((0 : Int)).toNat = 0 from rfl] at hx163_0); (try rw [Addr.add_zero'] at hx163_0); replace p163 := eq_true p163; replace q163 := eq_true q163; have p164 : 0 ≤ (1 : Int) := (by omega); have q164 : 1 < (t158.length : Int) := of_decide_eq_true (by first | (with_reducible assumption) | assumption); obtain ⟨ad164, e164, hx164_0⟩ := Kd.at_string (Kd.R_reads' HO160.out).2.2 1 p164 q164; obtain rfl : ad163 = ad164 := (by injection e164); (try simp only [show (1 : Int).toNat = 1 from rfl, Nat.reduceMul, Nat.reduceEqDiff, Go.Addr.add, ↓reduceIte] at hx164_0); have qi164 : (1 < t158.length) = True := eq_true (by omega); (try rw [show ((1 : Int)).toNat = 1 from rfl] at hx164_0); replace p164 := eq_true p164; replace q164 := eq_true q164))
            go_ret2
            exact ⟨by first | rfl | (simp [errW_none, errW_some] <;> rfl) | (simp [*, errW_none, errW_some] <;> rfl), by repeat (first | (with_reducible first | exact HB.out | apply below_alloc | apply pw_below_drewN | apply below_drew1) | exact HB.out)⟩
          · rw [if_neg c10] at H
            exact absurd H (by simp)
        · rw [if_neg c9] at H
          have c9b0 : ((rdOf ByteArray.empty t158 0).toList == t161.toList) = false := beq_eq_false_iff_ne.mpr c9
          have c9b1 : ((rdOf ByteArray.empty t158 0).toList != t161.toList) = true := bne_iff_ne.mpr c9
          simp only [Option.some.injEq, Prod.mk.injEq] at H
          obtain ⟨rfl, rfl⟩ := H
          go_enter Try.func40, Try.ntmps40
          go_wp2_with (first | ((with_reducible refine gate_callee (f := 72) rfl ?_); refine goesL_ (some 10) rfl rfl Try.func72 (by kernel_rfl) rfl #[.string a0] rfl (by (try simp only [List.map_toArray, List.map_cons, List.map_nil]); first | done | rfl | (simp only [List.length_drop, List.length_take]; rfl)) ?_; (with_reducible refine (gemotref2_Kind.calls a0 t157 _ A3.out).mono ?_); rintro e w15 ⟨rfl, hb⟩; refine ⟨_, rfl, ?_⟩; have n0_ := Aside0.mk (below_step (by repeat (first | (with_reducible first | exact HB.out | apply below_alloc | apply pw_below_drewN | apply below_drew1) | exact HB.out)) hb); clear HB; have HB := n0_; clear n0_; (try clear hb); (try clear hb2); (try clear hk); (try clear hi)) | ((with_reducible refine gate_callee (f := 75) rfl ?_); refine goesL_ (some 13) rfl rfl Try.func75 (by kernel_rfl) rfl #[.string a0] rfl (by (try simp only [List.map_toArray, List.map_cons, List.map_nil]); first | done | rfl | (simp only [List.length_drop, List.length_take]; rfl)) ?_; (with_reducible refine (gemotref2_Of.calls a0 t158 _ A5.out).mono ?_); rintro e w16 ⟨v159, rfl, ho0, hb⟩; refine ⟨_, rfl, ?_⟩; have n0_ := Aside0.mk (Kd.R_lower ho0 (below_size (by repeat (first | (with_reducible first | exact HB.out | apply below_alloc | apply pw_below_drewN | apply below_drew1) | exact HB.out)))); have n1_ := Aside0.mk (below_step (by repeat (first | (with_reducible first | exact HB.out | apply below_alloc | apply pw_below_drewN | apply below_drew1) | exact HB.out)) hb); clear HB; have HO160 := n0_; have HB := n1_; clear n0_ n1_; (try clear hb); (try clear hb2); (try clear hk); (try clear hi); (try clear ho0)) | ((with_reducible refine gate_callee (f := 82) rfl ?_); refine goesL_ (some 16) rfl rfl Try.func82 (by kernel_rfl) rfl #[.int .i64 a1] rfl (by (try simp only [List.map_toArray, List.map_cons, List.map_nil]); first | done | rfl | (simp only [List.length_drop, List.length_take]; rfl)) ?_; (with_reducible refine (gemotref1_Private.calls a1 t161 t162 _ A6.out).mono ?_); rintro e w17 ⟨rfl, hb⟩; refine ⟨_, rfl, ?_⟩; have n0_ := Aside0.mk (Kd.R_below (by (with_reducible repeat (first | apply Kd.R_alloc | apply Kd.R_drewN | apply Kd.R_drew)); exact HO160.out) hb); have n1_ := Aside0.mk (below_step (by repeat (first | (with_reducible first | exact HB.out | apply below_alloc | apply pw_below_drewN | apply below_drew1) | exact HB.out)) hb); clear HO160; clear HB; have HO160 := n0_; have HB := n1_; clear n0_ n1_; (try clear hb); (try clear hb2); (try clear hk); (try clear hi); obtain ⟨Ao18, co18, eo18⟩ := Kd.R_slice HO160.out; subst eo18; have p163 : 0 ≤ (0 : Int) := (by omega); have q163 : 0 < (t158.length : Int) := of_decide_eq_true (by first | (with_reducible assumption) | assumption); obtain ⟨ad163, e163, hx163_0⟩ := Kd.at_string (Kd.R_reads' HO160.out).2.2 0 p163 q163; cases e163; have qi163 : (0 < t158.length) = True := eq_true (by omega); (try rw [show ((0 : Int)).toNat = 0 from rfl] at hx163_0); (try rw [Addr.add_zero'] at hx163_0); replace p163 := eq_true p163; replace q163 := eq_true q163))
          go_ret2
          exact ⟨by first | rfl | (simp [errW_none, errW_some] <;> rfl) | (simp [*, errW_none, errW_some] <;> rfl), by repeat (first | (with_reducible first | exact HB.out | apply below_alloc | apply pw_below_drewN | apply below_drew1) | exact HB.out)⟩
      · rw [if_neg c8] at H
        exact absurd H (by simp)
    · rw [if_neg c7] at H
      have c7b0 : (t162 == 0) = false := beq_eq_false_iff_ne.mpr c7
      have c7b1 : (t162 != 0) = true := bne_iff_ne.mpr c7
      simp only [Option.some.injEq, Prod.mk.injEq] at H
      obtain ⟨rfl, rfl⟩ := H
      go_enter Try.func40, Try.ntmps40
      go_wp2_with (first | ((with_reducible refine gate_callee (f := 72) rfl ?_); refine goesL_ (some 10) rfl rfl Try.func72 (by kernel_rfl) rfl #[.string a0] rfl (by (try simp only [List.map_toArray, List.map_cons, List.map_nil]); first | done | rfl | (simp only [List.length_drop, List.length_take]; rfl)) ?_; (with_reducible refine (gemotref2_Kind.calls a0 t157 _ A3.out).mono ?_); rintro e w19 ⟨rfl, hb⟩; refine ⟨_, rfl, ?_⟩; have n0_ := Aside0.mk (below_step (by repeat (first | (with_reducible first | exact HB.out | apply below_alloc | apply pw_below_drewN | apply below_drew1) | exact HB.out)) hb); clear HB; have HB := n0_; clear n0_; (try clear hb); (try clear hb2); (try clear hk); (try clear hi)) | ((with_reducible refine gate_callee (f := 75) rfl ?_); refine goesL_ (some 13) rfl rfl Try.func75 (by kernel_rfl) rfl #[.string a0] rfl (by (try simp only [List.map_toArray, List.map_cons, List.map_nil]); first | done | rfl | (simp only [List.length_drop, List.length_take]; rfl)) ?_; (with_reducible refine (gemotref2_Of.calls a0 t158 _ A5.out).mono ?_); rintro e w20 ⟨v159, rfl, ho0, hb⟩; refine ⟨_, rfl, ?_⟩; have n0_ := Aside0.mk (Kd.R_lower ho0 (below_size (by repeat (first | (with_reducible first | exact HB.out | apply below_alloc | apply pw_below_drewN | apply below_drew1) | exact HB.out)))); have n1_ := Aside0.mk (below_step (by repeat (first | (with_reducible first | exact HB.out | apply below_alloc | apply pw_below_drewN | apply below_drew1) | exact HB.out)) hb); clear HB; have HO160 := n0_; have HB := n1_; clear n0_ n1_; (try clear hb); (try clear hb2); (try clear hk); (try clear hi); (try clear ho0)) | ((with_reducible refine gate_callee (f := 82) rfl ?_); refine goesL_ (some 16) rfl rfl Try.func82 (by kernel_rfl) rfl #[.int .i64 a1] rfl (by (try simp only [List.map_toArray, List.map_cons, List.map_nil]); first | done | rfl | (simp only [List.length_drop, List.length_take]; rfl)) ?_; (with_reducible refine (gemotref1_Private.calls a1 t161 t162 _ A6.out).mono ?_); rintro e w21 ⟨rfl, hb⟩; refine ⟨_, rfl, ?_⟩; have n0_ := Aside0.mk (Kd.R_below (by (with_reducible repeat (first | apply Kd.R_alloc | apply Kd.R_drewN | apply Kd.R_drew)); exact HO160.out) hb); have n1_ := Aside0.mk (below_step (by repeat (first | (with_reducible first | exact HB.out | apply below_alloc | apply pw_below_drewN | apply below_drew1) | exact HB.out)) hb); clear HO160; clear HB; have HO160 := n0_; have HB := n1_; clear n0_ n1_; (try clear hb); (try clear hb2); (try clear hk); (try clear hi)))
      go_ret2
      exact ⟨by first | rfl | (simp [errW_none, errW_some] <;> rfl) | (simp [*, errW_none, errW_some] <;> rfl), by repeat (first | (with_reducible first | exact HB.out | apply below_alloc | apply pw_below_drewN | apply below_drew1) | exact HB.out)⟩
  · rw [if_neg c4] at H
    have c4b0 : (t157 == 120) = false := beq_eq_false_iff_ne.mpr c4
    have c4b1 : (t157 != 120) = true := bne_iff_ne.mpr c4
    simp only [Option.some.injEq, Prod.mk.injEq] at H
    obtain ⟨rfl, rfl⟩ := H
    go_enter Try.func40, Try.ntmps40
    go_wp2_with (first | ((with_reducible refine gate_callee (f := 72) rfl ?_); refine goesL_ (some 10) rfl rfl Try.func72 (by kernel_rfl) rfl #[.string a0] rfl (by (try simp only [List.map_toArray, List.map_cons, List.map_nil]); first | done | rfl | (simp only [List.length_drop, List.length_take]; rfl)) ?_; (with_reducible refine (gemotref2_Kind.calls a0 t157 _ A3.out).mono ?_); rintro e w22 ⟨rfl, hb⟩; refine ⟨_, rfl, ?_⟩; have n0_ := Aside0.mk (below_step (by repeat (first | (with_reducible first | exact HB.out | apply below_alloc | apply pw_below_drewN | apply below_drew1) | exact HB.out)) hb); clear HB; have HB := n0_; clear n0_; (try clear hb); (try clear hb2); (try clear hk); (try clear hi)))
    go_ret2
    exact ⟨by first | rfl | (simp [errW_none, errW_some] <;> rfl) | (simp [*, errW_none, errW_some] <;> rfl), by repeat (first | (with_reducible first | exact HB.out | apply below_alloc | apply pw_below_drewN | apply below_drew1) | exact HB.out)⟩

open Go.Proofs.Ytpfpmjdifnoeoaa.Pure
def gemotref2_Check.f (t : ByteArray) (p : Int) : Option (ByteArray × Int) := if t.size < 9223372036854770000 then some (checkP t p) else none
theorem gemotref2_Check.eq (t : ByteArray) (p : Int) (hs : t.size < 9223372036854770000) : gemotref2_Check_p.f t p = some (checkP t p) := by
  unfold gemotref2_Check_p.f gemotref2_Kind.f gemotref2_Of.f gemotref1_Private.f checkP
  simp only [if_pos hs, Option.bind_some]
  by_cases c : kindF t = 120
  · obtain ⟨hr, hb⟩ := kind_right c (by decide)
    obtain ⟨x, y, hk, _⟩ := kids_sign hr hb
    have hp : kidsP t = [x, y] := by unfold kidsP; rw [if_pos hr, hk]
    rw [if_pos c, if_pos c, hp, hk]
    have hx : rdOf ByteArray.empty [x, y] 0 = x := rfl
    rw [hx]
    by_cases d : (privF p).2 = 0
    · rw [if_pos d, if_pos (by simp)]
      by_cases g : x = (privF p).1
      · rw [if_pos (by rw [g]), if_pos (by simp), if_pos ⟨d, g⟩]
      · rw [if_neg (fun h => g (same_text h)), if_neg (fun h => g h.2)]
    · rw [if_neg d, if_neg (fun h => d h.1)]
  · rw [if_neg c, if_neg c]
theorem gemotref2_Check.calls (a0 : ByteArray) (a1 : Int) (r1 : ByteArray) (r2 : Int) (w : World) (h : gemotref2_Check.f a0 a1 = some (r1, r2)) :
    Calls Try.prog 40 #[.string a0, .int .i64 a1] w fun e w' => e = .returned (.tuple #[.string r1, .int .i64 r2]) ∧ Below w.heap.size w w' := by
  unfold gemotref2_Check.f at h
  split at h
  case isFalse => cases h
  rename_i hs
  exact gemotref2_Check_p.calls a0 a1 r1 r2 w ((gemotref2_Check.eq a0 a1 hs).trans h)

end Go.Proofs.Ytpfpmjdifnoeoaa.F
namespace Go.Proofs.Ytpfpmjdifnoeoaa.F
open Go.RowKit Go.Proofs.YtpfpmjdifnoeoaaW.PrintWords Go.Proofs.YtpfpmjdifnoeoaaW.PrintLast Go.Proofs.YtpfpmjdifnoeoaaW.PrintMore
attribute [local go_sem] max2_int min2_int max_two min_two max_three min_three max_four min_four
set_option linter.unusedVariables false
set_option linter.unusedSimpArgs false

/-! ### gemotlaw2_PartsOpened: function 3 -/
def gemotlaw2_PartsOpened.j0 : Nat → ByteArray → ByteArray → Int → Bool → Bool → Option (Bool)
  | 0, _, _, _, _, _ => none
  | k + 1, x0, x1, x2, x7, x30 => if x30 = true then (some x7) else ((parts_Open.f x0 x1).bind fun bt166 => ((gemotref2_Open.f x0 x1).bind fun bt169 => ((parts_Check.f x0 x2).bind fun bt172 => ((gemotref2_Check.f x0 x2).bind fun bt174 => (if bt166.1.toList = bt169.1.toList then (if bt166.2.1.toList = bt169.2.1.toList then (if bt166.2.2 = bt169.2.2 then (if bt172.1.toList = bt174.1.toList then (some (bt172.2 == bt174.2)) else (none)) else (none)) else (none)) else (none))))))
def gemotlaw2_PartsOpened.f (k : Nat) (a0 : ByteArray) (a1 : ByteArray) (a2 : Int) : Option (Bool) := (gemotlaw2_shown.f).bind fun t165 => (if t165 = true then (if (a0.size : Int) > 1500 then (gemotlaw2_PartsOpened.j0 k a0 a1 a2 t165 true) else (gemotlaw2_PartsOpened.j0 k a0 a1 a2 t165 (decide ((a1.size : Int) > 1500)))) else (gemotlaw2_PartsOpened.j0 k a0 a1 a2 t165 true))
theorem gemotlaw2_PartsOpened.mono_l : ∀ k, (∀ y0 y1 y2 y3 y4, LeO (gemotlaw2_PartsOpened.j0 k y0 y1 y2 y3 y4) (gemotlaw2_PartsOpened.j0 (k + 1) y0 y1 y2 y3 y4))
  | 0 => fun _ _ _ _ _ r h => by simp [gemotlaw2_PartsOpened.j0] at h
  | k + 1 => by
    have ih0 := gemotlaw2_PartsOpened.mono_l k
    · intro y0 y1 y2 y3 y4
      unfold gemotlaw2_PartsOpened.j0
      repeat' first
      | (with_reducible exact ih0 _ _ _ _ _)
      | (with_reducible exact LeO.refl _)
      | (with_reducible exact LeO.none _)
      | (with_reducible refine LeO.ite ?_ ?_)
      | (with_reducible refine LeO.bind ?_ (fun _ => ?_))
      | exact ih0 _ _ _ _ _
      | exact LeO.none _
      | refine LeO.ite ?_ ?_
      | refine LeO.bind ?_ (fun _ => ?_)
theorem gemotlaw2_PartsOpened.mono : ∀ a0 a1 a2 k, LeO (gemotlaw2_PartsOpened.f k a0 a1 a2) (gemotlaw2_PartsOpened.f (k + 1) a0 a1 a2) := by
  intro a0 a1 a2 k
  have ih0 := gemotlaw2_PartsOpened.mono_l k
  unfold gemotlaw2_PartsOpened.f
  repeat' first
      | (with_reducible exact ih0 _ _ _ _ _)
      | (with_reducible exact LeO.refl _)
      | (with_reducible exact LeO.none _)
      | (with_reducible refine LeO.ite ?_ ?_)
      | (with_reducible refine LeO.bind ?_ (fun _ => ?_))
      | exact ih0 _ _ _ _ _
      | exact LeO.none _
      | refine LeO.ite ?_ ?_
      | refine LeO.bind ?_ (fun _ => ?_)
set_option maxHeartbeats 8000000 in
set_option maxRecDepth 100000 in
theorem gemotlaw2_PartsOpened.calls (k : Nat) (a0 : ByteArray) (a1 : ByteArray) (a2 : Int) (r : Bool) (w : World) (h : gemotlaw2_PartsOpened.f k a0 a1 a2 = some r) :
    Calls Try.prog 3 #[.string a0, .string a1, .int .i64 a2] w fun e w' => e = .returned (.bool r) ∧ Below w.heap.size w w' := by
  have HB := Aside0.mk (Below.refl w.heap.size w)
  have H : ((gemotlaw2_shown.f).bind fun t165 => (if t165 = true then (if (a0.size : Int) > 1500 then (gemotlaw2_PartsOpened.j0 k a0 a1 a2 t165 true) else (gemotlaw2_PartsOpened.j0 k a0 a1 a2 t165 (decide ((a1.size : Int) > 1500)))) else (gemotlaw2_PartsOpened.j0 k a0 a1 a2 t165 true))) = some r := h
  clear h
  replace H := Option.bind_eq_some_iff.mp H
  obtain ⟨t165, A40, H⟩ := H
  replace H : (if t165 = true then (if (a0.size : Int) > 1500 then (gemotlaw2_PartsOpened.j0 k a0 a1 a2 t165 true) else (gemotlaw2_PartsOpened.j0 k a0 a1 a2 t165 (decide ((a1.size : Int) > 1500)))) else (gemotlaw2_PartsOpened.j0 k a0 a1 a2 t165 true)) = some r := H
  have A4 := Aside0.mk A40
  clear A40
  have HC5 := Aside0.mk H
  clear H
  go_enter Try.func3, Try.ntmps3
  go_upto_region 2 with (first | ((with_reducible refine gate_callee (f := 36) rfl ?_); refine goesL_ (some 18) rfl rfl Try.func36 (by kernel_rfl) rfl #[] rfl (by (try simp only [List.map_toArray, List.map_cons, List.map_nil]); first | done | rfl | (simp only [List.length_drop, List.length_take]; rfl)) ?_; (with_reducible refine (gemotlaw2_shown.calls  t165 _ A4.out).mono ?_); rintro e w6 ⟨rfl, hb⟩; refine ⟨_, rfl, ?_⟩; have n0_ := Aside0.mk (below_step (by repeat (first | (with_reducible first | exact HB.out | apply below_alloc | apply pw_below_drewN | apply below_drew1) | exact HB.out)) hb); clear HB; have HB := n0_; clear n0_; (try clear hb); (try clear hb2); (try clear hk); (try clear hi)))
  (try simp only [Act.put, List.setIfInBounds_toArray, List.set_cons_zero, List.set_cons_succ])
  go_cut [30] (fun v30 wc => ∃ (kq : Nat) (x30_4 : Bool), v30 = .bool x30_4 ∧ Aside0 (gemotlaw2_PartsOpened.j0 kq a0 a1 a2 t165 x30_4 = some r) ∧ Aside0 (kq ≤ k) ∧ Aside0 (Below w.heap.size w wc))
  case first =>
    have H := HC5.out
    clear HC5
    by_cases c7 : t165 = true
    · subst c7
      have H1 : (if (a0.size : Int) > 1500 then (gemotlaw2_PartsOpened.j0 k a0 a1 a2 true true) else (gemotlaw2_PartsOpened.j0 k a0 a1 a2 true (decide ((a1.size : Int) > 1500)))) = some r := by rw [if_pos rfl] at H; exact H
      clear H
      have H := H1
      clear H1
      by_cases c8 : (a0.size : Int) > 1500
      · rw [if_pos c8] at H
        have c8b0 : decide (1500 < (a0.size : Int)) = true := decide_eq_true c8
        have c8b1 : decide (1500 < a0.size) = true := decide_eq_true (by omega)
        clear c8
        (first | rw [c8b0] | (simp only [i64_w, i32_w]; rw [c8b0]) | skip)
        have H' := Aside0.mk H
        clear H
        go_wp2
        go_meet
        case rel => exact ⟨_, (true), (by first | rfl | (simp; done) | (simp [*]; done)), H', ⟨by first | omega | exact Nat.le_refl _⟩, ⟨by repeat (first | (with_reducible first | exact HB.out | apply below_alloc | apply pw_below_drewN | apply below_drew1) | exact HB.out)⟩⟩
      · rw [if_neg c8] at H
        have c8b0 : decide (1500 < (a0.size : Int)) = false := decide_eq_false c8
        have c8b1 : decide (1500 < a0.size) = false := decide_eq_false (by omega)
        clear c8
        (first | rw [c8b0] | (simp only [i64_w, i32_w]; rw [c8b0]) | skip)
        have H' := Aside0.mk H
        clear H
        go_wp2
        go_meet
        case rel => exact ⟨_, (decide ((a1.size : Int) > 1500)), (by first | rfl | (simp; done) | (simp [*]; done)), H', ⟨by first | omega | exact Nat.le_refl _⟩, ⟨by repeat (first | (with_reducible first | exact HB.out | apply below_alloc | apply pw_below_drewN | apply below_drew1) | exact HB.out)⟩⟩
    · replace c7 := Bool.eq_false_iff.mpr c7
      subst c7
      have H1 : (gemotlaw2_PartsOpened.j0 k a0 a1 a2 false true) = some r := by rw [if_neg (show ¬ (false = true) by decide)] at H; exact H
      clear H
      have H := H1
      clear H1
      have H' := Aside0.mk H
      clear H
      go_wp2
      go_meet
      case rel => exact ⟨_, (true), (by first | rfl | (simp; done) | (simp [*]; done)), H', ⟨by first | omega | exact Nat.le_refl _⟩, ⟨by repeat (first | (with_reducible first | exact HB.out | apply below_alloc | apply pw_below_drewN | apply below_drew1) | exact HB.out)⟩⟩
  case rest =>
    clear HC5
    try clear p2
    try clear c3
    try clear c7
    try clear c8
    try clear c8b0
    try clear c8b1
    obtain ⟨kq, x30_4, rfl, HA, HJ4, HB⟩ := hcut
    cases kq with
    | zero => exact absurd HA.out (by simp [gemotlaw2_PartsOpened.j0])
    | succ kj4 =>
      have H := HA.out
      clear HA
      simp only [gemotlaw2_PartsOpened.j0] at H
      by_cases c9 : x30_4 = true
      · subst c9
        have H1 : (some t165) = some r := by rw [if_pos rfl] at H; exact H
        clear H
        have H := H1
        clear H1
        obtain rfl := Option.some.inj H
        go_wp2
        go_ret
        exact ⟨by first | rfl | (simp [errW_none, errW_some] <;> rfl) | (simp [*, errW_none, errW_some] <;> rfl), by repeat (first | (with_reducible first | exact HB.out | apply below_alloc | apply pw_below_drewN | apply below_drew1) | exact HB.out)⟩
      · replace c9 := Bool.eq_false_iff.mpr c9
        subst c9
        have H1 : ((parts_Open.f a0 a1).bind fun bt166 => ((gemotref2_Open.f a0 a1).bind fun bt169 => ((parts_Check.f a0 a2).bind fun bt172 => ((gemotref2_Check.f a0 a2).bind fun bt174 => (if bt166.1.toList = bt169.1.toList then (if bt166.2.1.toList = bt169.2.1.toList then (if bt166.2.2 = bt169.2.2 then (if bt172.1.toList = bt174.1.toList then (some (bt172.2 == bt174.2)) else (none)) else (none)) else (none)) else (none)))))) = some r := by rw [if_neg (show ¬ (false = true) by decide)] at H; exact H
        clear H
        have H := H1
        clear H1
        replace H := Option.bind_eq_some_iff.mp H
        obtain ⟨⟨t166, t167, t168⟩, A100, H⟩ := H
        replace H : ((gemotref2_Open.f a0 a1).bind fun bt169 => ((parts_Check.f a0 a2).bind fun bt172 => ((gemotref2_Check.f a0 a2).bind fun bt174 => (if t166.toList = bt169.1.toList then (if t167.toList = bt169.2.1.toList then (if t168 = bt169.2.2 then (if bt172.1.toList = bt174.1.toList then (some (bt172.2 == bt174.2)) else (none)) else (none)) else (none)) else (none))))) = some r := H
        have A10 := Aside0.mk A100
        clear A100
        replace H := Option.bind_eq_some_iff.mp H
        obtain ⟨⟨t169, t170, t171⟩, A110, H⟩ := H
        replace H : ((parts_Check.f a0 a2).bind fun bt172 => ((gemotref2_Check.f a0 a2).bind fun bt174 => (if t166.toList = t169.toList then (if t167.toList = t170.toList then (if t168 = t171 then (if bt172.1.toList = bt174.1.toList then (some (bt172.2 == bt174.2)) else (none)) else (none)) else (none)) else (none)))) = some r := H
        have A11 := Aside0.mk A110
        clear A110
        replace H := Option.bind_eq_some_iff.mp H
        obtain ⟨⟨t172, t173⟩, A120, H⟩ := H
        replace H : ((gemotref2_Check.f a0 a2).bind fun bt174 => (if t166.toList = t169.toList then (if t167.toList = t170.toList then (if t168 = t171 then (if t172.toList = bt174.1.toList then (some (t173 == bt174.2)) else (none)) else (none)) else (none)) else (none))) = some r := H
        have A12 := Aside0.mk A120
        clear A120
        replace H := Option.bind_eq_some_iff.mp H
        obtain ⟨⟨t174, t175⟩, A130, H⟩ := H
        replace H : (if t166.toList = t169.toList then (if t167.toList = t170.toList then (if t168 = t171 then (if t172.toList = t174.toList then (some (t173 == t175)) else (none)) else (none)) else (none)) else (none)) = some r := H
        have A13 := Aside0.mk A130
        clear A130
        by_cases c14 : t166.toList = t169.toList
        · rw [if_pos c14] at H
          have c14b0 : (t166.toList == t169.toList) = true := beq_iff_eq.mpr c14
          have c14b1 : (t166.toList != t169.toList) = false := bne_eq_false_iff_eq.mpr c14
          clear c14
          by_cases c15 : t167.toList = t170.toList
          · rw [if_pos c15] at H
            have c15b0 : (t167.toList == t170.toList) = true := beq_iff_eq.mpr c15
            have c15b1 : (t167.toList != t170.toList) = false := bne_eq_false_iff_eq.mpr c15
            clear c15
            by_cases c16 : t168 = t171
            · rw [if_pos c16] at H
              have c16b0 : (t168 == t171) = true := beq_iff_eq.mpr c16
              have c16b1 : (t168 != t171) = false := bne_eq_false_iff_eq.mpr c16
              clear c16
              by_cases c17 : t172.toList = t174.toList
              · rw [if_pos c17] at H
                have c17b0 : (t172.toList == t174.toList) = true := beq_iff_eq.mpr c17
                have c17b1 : (t172.toList != t174.toList) = false := bne_eq_false_iff_eq.mpr c17
                clear c17
                obtain rfl := Option.some.inj H
                go_wp2_with (first | ((with_reducible refine gate_callee (f := 37) rfl ?_); refine goesL_ (some 35) rfl rfl Try.func37 (by kernel_rfl) rfl #[.string a0, .string a1] rfl (by (try simp only [List.map_toArray, List.map_cons, List.map_nil]); first | done | rfl | (simp only [List.length_drop, List.length_take]; rfl)) ?_; (with_reducible refine (parts_Open.calls a0 a1 t166 t167 t168 _ A10.out).mono ?_); rintro e w18 ⟨rfl, hb⟩; refine ⟨_, rfl, ?_⟩; have n0_ := Aside0.mk (below_step (by repeat (first | (with_reducible first | exact HB.out | apply below_alloc | apply pw_below_drewN | apply below_drew1) | exact HB.out)) hb); clear HB; have HB := n0_; clear n0_; (try clear hb); (try clear hb2); (try clear hk); (try clear hi)) | ((with_reducible refine gate_callee (f := 38) rfl ?_); refine goesL_ (some 42) rfl rfl Try.func38 (by kernel_rfl) rfl #[.string a0, .string a1] rfl (by (try simp only [List.map_toArray, List.map_cons, List.map_nil]); first | done | rfl | (simp only [List.length_drop, List.length_take]; rfl)) ?_; (with_reducible refine (gemotref2_Open.calls a0 a1 t169 t170 t171 _ A11.out).mono ?_); rintro e w19 ⟨rfl, hb⟩; refine ⟨_, rfl, ?_⟩; have n0_ := Aside0.mk (below_step (by repeat (first | (with_reducible first | exact HB.out | apply below_alloc | apply pw_below_drewN | apply below_drew1) | exact HB.out)) hb); clear HB; have HB := n0_; clear n0_; (try clear hb); (try clear hb2); (try clear hk); (try clear hi)) | ((with_reducible refine gate_callee (f := 39) rfl ?_); refine goesL_ (some 49) rfl rfl Try.func39 (by kernel_rfl) rfl #[.string a0, .int .i64 a2] rfl (by (try simp only [List.map_toArray, List.map_cons, List.map_nil]); first | done | rfl | (simp only [List.length_drop, List.length_take]; rfl)) ?_; (with_reducible refine (parts_Check.calls a0 a2 t172 t173 _ A12.out).mono ?_); rintro e w20 ⟨rfl, hb⟩; refine ⟨_, rfl, ?_⟩; have n0_ := Aside0.mk (below_step (by repeat (first | (with_reducible first | exact HB.out | apply below_alloc | apply pw_below_drewN | apply below_drew1) | exact HB.out)) hb); clear HB; have HB := n0_; clear n0_; (try clear hb); (try clear hb2); (try clear hk); (try clear hi)) | ((with_reducible refine gate_callee (f := 40) rfl ?_); refine goesL_ (some 55) rfl rfl Try.func40 (by kernel_rfl) rfl #[.string a0, .int .i64 a2] rfl (by (try simp only [List.map_toArray, List.map_cons, List.map_nil]); first | done | rfl | (simp only [List.length_drop, List.length_take]; rfl)) ?_; (with_reducible refine (gemotref2_Check.calls a0 a2 t174 t175 _ A13.out).mono ?_); rintro e w21 ⟨rfl, hb⟩; refine ⟨_, rfl, ?_⟩; have n0_ := Aside0.mk (below_step (by repeat (first | (with_reducible first | exact HB.out | apply below_alloc | apply pw_below_drewN | apply below_drew1) | exact HB.out)) hb); clear HB; have HB := n0_; clear n0_; (try clear hb); (try clear hb2); (try clear hk); (try clear hi)))
                go_ret
                exact ⟨by first | rfl | (simp [errW_none, errW_some] <;> rfl) | (simp [*, errW_none, errW_some] <;> rfl), by repeat (first | (with_reducible first | exact HB.out | apply below_alloc | apply pw_below_drewN | apply below_drew1) | exact HB.out)⟩
              · rw [if_neg c17] at H
                exact absurd H (by simp)
            · rw [if_neg c16] at H
              exact absurd H (by simp)
          · rw [if_neg c15] at H
            exact absurd H (by simp)
        · rw [if_neg c14] at H
          exact absurd H (by simp)

/-- THE ONE PURE STATEMENT of gemotlaw2_PartsOpened: yours. -/
def gemotlaw2_PartsOpened.Pure : Prop := ∀ (a0 : ByteArray) (a1 : ByteArray) (a2 : Int), a0.size ≤ 140737488351232 → a1.size ≤ 140737488351232 → (Lit.int .i64 a2).wf = true → ∃ k, gemotlaw2_PartsOpened.f k a0 a1 a2 = some true
theorem gemotlaw2_PartsOpened.walk (P : gemotlaw2_PartsOpened.Pure) (a0 : ByteArray) (a1 : ByteArray) (a2 : Int) (w : World) (w0 : a0.size ≤ 140737488351232) (w1 : a1.size ≤ 140737488351232) (w2 : (Lit.int .i64 a2).wf = true) :
    Calls Try.prog 3 #[.string a0, .string a1, .int .i64 a2] w fun e w' => e = .returned (.bool true) ∧ Below w.heap.size w w' := by
  obtain ⟨k, h⟩ := P a0 a1 a2 w0 w1 w2
  refine (gemotlaw2_PartsOpened.calls k a0 a1 a2 true w h).mono ?_
  rintro e w' ⟨rfl, hd⟩
  exact ⟨rfl, hd⟩

end Go.Proofs.Ytpfpmjdifnoeoaa.F
namespace Go.Proofs.Ytpfpmjdifnoeoaa.F
open Go.RowKit Go.Proofs.YtpfpmjdifnoeoaaW.PrintWords Go.Proofs.YtpfpmjdifnoeoaaW.PrintLast Go.Proofs.YtpfpmjdifnoeoaaW.PrintMore
attribute [local go_sem] max2_int min2_int max_two min_two max_three min_three max_four min_four
set_option linter.unusedVariables false
set_option linter.unusedSimpArgs false

/-! ### term_Depth: function 87 -/
/-! #### term_Depth_p: function 87 -/
def term_Depth_p.f (a0 : ByteArray) : Option (Int) := (term_Right.f a0).bind fun t808 => (if t808 = true then ((term_scan.f a0).bind fun bt809 => (some bt809.2.1)) else (some 0))
set_option maxHeartbeats 8000000 in
set_option maxRecDepth 100000 in
theorem term_Depth_p.calls (a0 : ByteArray) (r : Int) (w : World) (h : term_Depth_p.f a0 = some r) :
    Calls Try.prog 87 #[.string a0] w fun e w' => e = .returned (.int .i64 r) ∧ Below w.heap.size w w' := by
  have HB := Aside0.mk (Below.refl w.heap.size w)
  have H : ((term_Right.f a0).bind fun t808 => (if t808 = true then ((term_scan.f a0).bind fun bt809 => (some bt809.2.1)) else (some 0))) = some r := h
  clear h
  replace H := Option.bind_eq_some_iff.mp H
  obtain ⟨t808, A20, H⟩ := H
  replace H : (if t808 = true then ((term_scan.f a0).bind fun bt809 => (some bt809.2.1)) else (some 0)) = some r := H
  have A2 := Aside0.mk A20
  clear A20
  by_cases c3 : t808 = true
  · subst c3
    have H1 : ((term_scan.f a0).bind fun bt809 => (some bt809.2.1)) = some r := by rw [if_pos rfl] at H; exact H
    clear H
    have H := H1
    clear H1
    replace H := Option.bind_eq_some_iff.mp H
    obtain ⟨⟨t809, t810, t811⟩, A40, H⟩ := H
    replace H : (some t810) = some r := H
    have A4 := Aside0.mk A40
    clear A40
    obtain rfl := Option.some.inj H
    go_enter Try.func87, Try.ntmps87
    go_wp2_with (first | ((with_reducible refine gate_callee (f := 66) rfl ?_); refine goesL_ (some 7) rfl rfl Try.func66 (by kernel_rfl) rfl #[.string a0] rfl (by (try simp only [List.map_toArray, List.map_cons, List.map_nil]); first | done | rfl | (simp only [List.length_drop, List.length_take]; rfl)) ?_; (with_reducible refine (term_Right.calls a0 true _ A2.out).mono ?_); rintro e w5 ⟨rfl, hb⟩; refine ⟨_, rfl, ?_⟩; have n0_ := Aside0.mk (below_step (by repeat (first | (with_reducible first | exact HB.out | apply below_alloc | apply pw_below_drewN | apply below_drew1) | exact HB.out)) hb); clear HB; have HB := n0_; clear n0_; (try clear hb); (try clear hb2); (try clear hk); (try clear hi)) | ((with_reducible refine gate_callee (f := 131) rfl ?_); refine goesL_ (some 11) rfl rfl Try.func131 (by kernel_rfl) rfl #[.string a0] rfl (by (try simp only [List.map_toArray, List.map_cons, List.map_nil]); first | done | rfl | (simp only [List.length_drop, List.length_take]; rfl)) ?_; (with_reducible refine (term_scan.calls a0 t809 t810 t811 _ A4.out).mono ?_); rintro e w6 ⟨rfl, hb⟩; refine ⟨_, rfl, ?_⟩; have n0_ := Aside0.mk (below_step (by repeat (first | (with_reducible first | exact HB.out | apply below_alloc | apply pw_below_drewN | apply below_drew1) | exact HB.out)) hb); clear HB; have HB := n0_; clear n0_; (try clear hb); (try clear hb2); (try clear hk); (try clear hi)))
    go_ret
    exact ⟨by first | rfl | (simp [errW_none, errW_some] <;> rfl) | (simp [*, errW_none, errW_some] <;> rfl), by repeat (first | (with_reducible first | exact HB.out | apply below_alloc | apply pw_below_drewN | apply below_drew1) | exact HB.out)⟩
  · replace c3 := Bool.eq_false_iff.mpr c3
    subst c3
    have H1 : (some 0) = some r := by rw [if_neg (show ¬ (false = true) by decide)] at H; exact H
    clear H
    have H := H1
    clear H1
    obtain rfl := Option.some.inj H
    go_enter Try.func87, Try.ntmps87
    go_wp2_with (first | ((with_reducible refine gate_callee (f := 66) rfl ?_); refine goesL_ (some 7) rfl rfl Try.func66 (by kernel_rfl) rfl #[.string a0] rfl (by (try simp only [List.map_toArray, List.map_cons, List.map_nil]); first | done | rfl | (simp only [List.length_drop, List.length_take]; rfl)) ?_; (with_reducible refine (term_Right.calls a0 false _ A2.out).mono ?_); rintro e w7 ⟨rfl, hb⟩; refine ⟨_, rfl, ?_⟩; have n0_ := Aside0.mk (below_step (by repeat (first | (with_reducible first | exact HB.out | apply below_alloc | apply pw_below_drewN | apply below_drew1) | exact HB.out)) hb); clear HB; have HB := n0_; clear n0_; (try clear hb); (try clear hb2); (try clear hk); (try clear hi)))
    go_ret
    exact ⟨by first | rfl | (simp [errW_none, errW_some] <;> rfl) | (simp [*, errW_none, errW_some] <;> rfl), by repeat (first | (with_reducible first | exact HB.out | apply below_alloc | apply pw_below_drewN | apply below_drew1) | exact HB.out)⟩

def depthF (t : ByteArray) : Int := if rightB t = true then (scanF t).2.1 else 0
def term_Depth.f (t : ByteArray) : Option Int := if t.size < 9223372036854775000 then some (depthF t) else none
theorem term_Depth.eq (t : ByteArray) (hs : t.size < 9223372036854775000) : term_Depth_p.f t = term_Depth.f t := by
  unfold term_Depth_p.f term_Right.f term_scan.f term_Depth.f depthF
  rw [if_pos hs, if_pos hs, if_pos hs]
  simp only [Option.bind_some]
  split <;> rfl
theorem term_Depth.calls (a0 : ByteArray) (r : Int) (w : World) (h : term_Depth.f a0 = some r) :
    Calls Try.prog 87 #[.string a0] w fun e w' => e = .returned (.int .i64 r) ∧ Below w.heap.size w w' := by
  have hs : a0.size < 9223372036854775000 := by
    unfold term_Depth.f at h
    split at h
    · assumption
    · cases h
  exact term_Depth_p.calls a0 r w ((term_Depth.eq a0 hs).trans h)

end Go.Proofs.Ytpfpmjdifnoeoaa.F
namespace Go.Proofs.Ytpfpmjdifnoeoaa.Pure
set_option linter.unusedVariables false
set_option linter.unusedSimpArgs false
open Go.RowKit Go.Proofs.Ytpfpmjdifnoeoaa.F Go.Proofs.YtpfpmjdifnoeoaaW.PrintWords Go.Proofs.YtpfpmjdifnoeoaaW.PrintLast Go.Proofs.YtpfpmjdifnoeoaaW.PrintMore

theorem rg64 {a : Int} (h : (Lit.int .i64 a).wf = true) : -9223372036854775808 ≤ a ∧ a ≤ 9223372036854775807 := by
  simp only [Lit.wf, IntKind.min, IntKind.max, IntKind.signed, IntKind.bits, Bool.and_eq_true, decide_eq_true_eq, if_true, Bool.false_eq_true, if_false] at h
  omega
theorem rgu64 {a : Int} (h : (Lit.int .u64 a).wf = true) : 0 ≤ a ∧ a < 18446744073709551616 := by
  simp only [Lit.wf, IntKind.min, IntKind.max, IntKind.signed, IntKind.bits, Bool.and_eq_true, decide_eq_true_eq, if_true, Bool.false_eq_true, if_false] at h
  omega
theorem tl_eq {a b : ByteArray} : a.toList = b.toList ↔ a = b :=
  ⟨fun h => by rw [ByteArray.toList_eq, ByteArray.toList_eq] at h; exact ByteArray.ext (Array.ext' h), fun h => by rw [h]⟩
theorem tl_beq {a b c d : ByteArray} (h : a = b ↔ c = d) : (a.toList == b.toList) = (c.toList == d.toList) := by
  rw [Bool.eq_iff_iff, beq_iff_eq, beq_iff_eq, tl_eq, tl_eq]; exact h
theorem tl_beq_int {a b : ByteArray} {x y : Int} (h : a = b ↔ x = y) : (a.toList == b.toList) = (x == y) := by
  rw [Bool.eq_iff_iff, beq_iff_eq, beq_iff_eq, tl_eq]; exact h
theorem ne_bt {a b : ByteArray} (h : bt a 0 ≠ bt b 0) : ¬ a.toList = b.toList := fun q => h (by rw [tl_eq.mp q])
theorem tl_nil {a : ByteArray} : a.toList = ([] : List UInt8) ↔ a = ⟨#[]⟩ := by
  have : (⟨#[]⟩ : ByteArray).toList = [] := by rw [ByteArray.toList_eq]
  constructor
  · intro h; exact tl_eq.mp (h.trans this.symm)
  · intro h; rw [h, this]
theorem depth_right {t : ByteArray} (h : rightB t = true) : depthF t = depF t := by
  have ht := ((right_iff t).mp h).1
  unfold depthF scanF
  rw [if_pos h, if_pos ht.1]; rfl
theorem depth_not {t : ByteArray} (h : rightB t = false) : depthF t = 0 := by
  unfold depthF
  rw [if_neg (by rw [h]; simp)]
theorem leaf_dep {t : ByteArray} (h : Leaf t) (hs : t.size ≤ 20000) : depthF t = 1 := by rw [depth_right (h.right hs), h.tm.2]
theorem Part.dep1 {m : Int} {t : ByteArray} (h : Part m t) : 1 ≤ depF t := h.tm.dep.1
/-! ### Eight bytes say a number -/
theorem cnt_byte {a b : Int} (h : UInt8.ofNat (a % 256).toNat = UInt8.ofNat (b % 256).toNat) : a % 256 = b % 256 := by
  have := congrArg UInt8.toNat h
  rw [UInt8.toNat_ofNat_of_lt' (by show (a % 256).toNat < 256; omega), UInt8.toNat_ofNat_of_lt' (by show (b % 256).toNat < 256; omega)] at this
  omega
theorem cnt_inj {c a b : Int} (ha : 0 ≤ a ∧ a < 18446744073709551616) (hb : 0 ≤ b ∧ b < 18446744073709551616) (h : countF c a = countF c b) : a = b := by
  have h1 := congrArg (fun x => x.data.toList) h
  simp only [countF, strOfNums, eightL, List.map_cons, List.map_nil, List.toList_toArray, List.cons.injEq, and_true, true_and] at h1
  obtain ⟨h7, h6, h5, h4, h3, h2, h1, h0⟩ := h1
  replace h7 := cnt_byte h7
  replace h6 := cnt_byte h6
  replace h5 := cnt_byte h5
  replace h4 := cnt_byte h4
  replace h3 := cnt_byte h3
  replace h2 := cnt_byte h2
  replace h1 := cnt_byte h1
  replace h0 := cnt_byte h0
  have s : ∀ (x : Int) (j : Nat), j ≤ 64 → shr .u64 x (j : Int) = x / ((2 ^ j : Nat) : Int) := by
    intro x j hj
    unfold shr
    rw [Nat.min_eq_left (by show ((j : Int)).toNat ≤ 64; omega), Int.toNat_natCast]
    congr 1
  have t : ∀ (x : Int) (j : Nat), j ≤ 56 → shr .u64 x ((j + 8 : Nat) : Int) = shr .u64 x (j : Int) / 256 := by
    intro x j hj
    rw [s x _ (by omega), s x _ (by omega), Int.ediv_ediv_of_nonneg (Int.natCast_nonneg _), Nat.pow_add]
    simp
  have step : ∀ j : Nat, j ≤ 56 → shr .u64 a (j : Int) % 256 = shr .u64 b (j : Int) % 256 → shr .u64 a ((j + 8 : Nat) : Int) = shr .u64 b ((j + 8 : Nat) : Int) → shr .u64 a (j : Int) = shr .u64 b (j : Int) := by
    intro j hj e1 e2
    rw [t a j hj, t b j hj] at e2
    omega
  have top : shr .u64 a ((64 : Nat) : Int) = shr .u64 b ((64 : Nat) : Int) := by
    rw [s a 64 (by omega), s b 64 (by omega)]
    have : ((2 ^ 64 : Nat) : Int) = 18446744073709551616 := by decide
    rw [this]
    omega
  have r := step 0 (by omega) h0 (step 8 (by omega) h1 (step 16 (by omega) h2 (step 24 (by omega) h3 (step 32 (by omega) h4 (step 40 (by omega) h5 (step 48 (by omega) h6 (step 56 (by omega) h7 top)))))))
  rw [s a 0 (by omega), s b 0 (by omega)] at r
  simpa using r
theorem text_inj {s t : ByteArray} (hs : s.size ≤ 100) (ht : t.size ≤ 100) (h : (textF s).1 = (textF t).1) : s = t := by
  rw [(text_ok hs).1, (text_ok ht).1] at h
  have h2 := congrArg bl h
  rw [bl_app, bl_app] at h2
  exact bl_inj (List.append_inj h2 rfl).2
end Go.Proofs.Ytpfpmjdifnoeoaa.Pure
namespace Go.Proofs.Ytpfpmjdifnoeoaa.Pure
set_option linter.unusedVariables false
set_option linter.unusedSimpArgs false
open Go.RowKit Go.Proofs.Ytpfpmjdifnoeoaa.F Go.Proofs.YtpfpmjdifnoeoaaW.PrintWords Go.Proofs.YtpfpmjdifnoeoaaW.PrintLast Go.Proofs.YtpfpmjdifnoeoaaW.PrintMore

theorem PartsOpened : ∀ (a0 : ByteArray) (a1 : ByteArray) (a2 : Int), (a0.size ≤ 9223372036854775807) → (a1.size ≤ 9223372036854775807) → ((Lit.int .i64 a2).wf = true) → ∃ k, gemotlaw2_PartsOpened.f k a0 a1 a2 = some true := by
  intro a0 a1 a2 _ _ _
  refine ⟨1, ?_⟩
  unfold gemotlaw2_PartsOpened.f gemotlaw2_shown.f
  simp only [Option.bind_some, if_true]
  by_cases c : (a0.size : Int) > 1500
  · rw [if_pos c]
    simp only [gemotlaw2_PartsOpened.j0]
    rw [if_pos trivial]
  · rw [if_neg c]
    by_cases d : (a1.size : Int) > 1500
    · rw [decide_eq_true d]
      simp only [gemotlaw2_PartsOpened.j0]
      rw [if_pos trivial]
    · rw [decide_eq_false d]
      simp only [gemotlaw2_PartsOpened.j0]
      unfold parts_Open.f gemotref2_Open.f parts_Check.f gemotref2_Check.f
      rw [if_neg (by decide), if_pos (by omega), if_pos (by omega), if_pos (by omega), if_pos (by omega)]
      simp only [Option.bind_some, if_true]
      rw [beq_self_eq_true]
end Go.Proofs.Ytpfpmjdifnoeoaa.Pure
namespace Go.Proofs.Ytpfpmjdifnoeoaa.partsOpened
open Go.ChangeShapes Go.WideShapes Go.ChangeAt Go.RowKit Go.Proofs.Ytpfpmjdifnoeoaa.F Go.Proofs.YtpfpmjdifnoeoaaW.PrintWords Go.Proofs.YtpfpmjdifnoeoaaW.PrintLast Go.Proofs.YtpfpmjdifnoeoaaW.PrintMore
open Go.ChangeMaps (open_string shut_string)
set_option linter.unusedVariables false
set_option linter.unusedSimpArgs false
theorem own : ownKnob Try.prog.godebug = none := by kernel_rfl
theorem laidOut : laidOutB Try.prog = true := by kernel_rfl
set_option maxRecDepth 100000 in
theorem lifted (os : Os) (started : os.Started) (H : Type) (enc : TypeId × Value → H) :
    ReturnsInHanded {} Try.checked os 3 .any (Rows.partsOpenedSpec.pre6 enc Try.prog Try.f3 Rows.partsOpenedRow.domain false) (Rows.partsOpenedSpec.post enc Try.prog Try.f3 false true false false) := by
  refine returnsInHanded_of_change_sized (C := Try.checked) own started (by kernel_rfl) Try.func3
    (ChangeSpec.witness6 (enc := enc) (C := Try.checked) false ⟨#[], #[.string ByteArray.empty, .string ByteArray.empty, .int .i64 0], []⟩ 8 (by kernel_rfl) (by kernel_rfl) (by kernel_rfl) (by kernel_rfl)) ?_
  intro W base args ds gs before hval0 hW hcnd hsz0 _
  have hval : ∀ (j : Nat) t v, Try.f3.params[j]? = some t → args[j]? = some v → Value.okWide Try.prog W .any base t v := hval0
  have hW' := hW
  obtain ⟨p, q, hA0, hV, rfl, hfz, hnd⟩ := hW
  have hA : DataW.TrodAll enc Try.prog W 0 (fun _ => true) true Try.f3.params.toList args.toList ds p := hA0
  rw [Try.params3] at hA hval
  obtain ⟨v0, vs0, d0, ds0, p0, q0, hargs, rfl, rfl, h0, r0⟩ := trodAll_cons hA
  obtain ⟨v1, vs1, d1, ds1, p1, q1, rfl, rfl, rfl, h1, r1⟩ := trodAll_cons r0
  obtain ⟨v2, vs2, d2, ds2, p2, q2, rfl, rfl, rfl, h2, r2⟩ := trodAll_cons r1
  obtain ⟨rfl, rfl, rfl⟩ := trodAll_nil r2
  obtain rfl : args = #[v0, v1, v2] := by cases args; simp_all
  obtain ⟨rfl, rfl⟩ := trodVars_none hV
  have k0 := h0
  have lt0 : ∀ x ∈ p0, x.block < W.heap.size := by obtain ⟨m, hm⟩ := k0; exact DataW.trod_lt m _ _ _ hm
  obtain ⟨a0, rfl, _, _, w0⟩ := open_string Try.underlying9 (hval 0 9 v0 rfl rfl) h0
  have k1 := h1
  have lt1 : ∀ x ∈ p1, x.block < W.heap.size := by obtain ⟨m, hm⟩ := k1; exact DataW.trod_lt m _ _ _ hm
  obtain ⟨a1, rfl, _, _, w1⟩ := open_string Try.underlying9 (hval 1 9 v1 rfl rfl) h1
  have k2 := h2
  have lt2 : ∀ x ∈ p2, x.block < W.heap.size := by obtain ⟨m, hm⟩ := k2; exact DataW.trod_lt m _ _ _ hm
  obtain ⟨a2, rfl, _, _, w2⟩ := open_int Try.underlying3 (hval 2 3 v2 rfl rfl) h2
  obtain ⟨k, hp⟩ := Pure.PartsOpened a0 a1 a2 w0 w1 w2
  refine (gemotlaw2_PartsOpened.calls k a0 a1 a2 true W  hp).mono fun e W' he => ?_
  obtain ⟨he, hb⟩ := he
  subst he
  have bel : Below W.heap.size W W' := hb
  exact ⟨_, rfl, _, _, _, [], _, [], hW', trodAll_mk1 (shut_bool Try.underlying4 _), (trodAll_cons_mk (Below.trod laidOut (by kernel_rfl) (of_decide_eq_true (by kernel_rfl)) k0 bel lt0) (trodAll_cons_mk (Below.trod laidOut (by kernel_rfl) (of_decide_eq_true (by kernel_rfl)) k1 bel lt1) (trodAll_cons_mk (Below.trod laidOut (by kernel_rfl) (of_decide_eq_true (by kernel_rfl)) k2 bel lt2) trodAll_mk0))), rfl, bel.frame _, fun h => by cases h⟩
theorem j0 : (Rows.partsOpenedRow.wf (OpenSpec.ofChange Rows.partsOpenedSpec)) = true := by kernel_rfl
theorem j1 : (laidOutB Try.pinned.checked.prog) = true := rowfact_laidOut
theorem j2 : (mapsRowed Try.pinned.checked.prog) = true := rowfact_mapsRowed
theorem j3 : (Try.f3.params.all (Try.pinned.checked.prog.readableRec ·)) = true := by kernel_rfl
theorem j4 : (namedTie Try.pinned.checked.prog Rows.partsOpenedRow.named Rows.partsOpenedSpec.vars) = true := by kernel_rfl
theorem j5 : ((Rows.partsOpenedRow.stops == [])) = true := by kernel_rfl
theorem j6 : ((Try.pinned.checked.prog.stops == [])) = true := by kernel_rfl
theorem j7 : ((Rows.partsOpenedRow.knobs == [])) = true := by kernel_rfl
theorem j8 : ((Try.pinned.checked.prog.stopKnobs == [])) = true := by kernel_rfl
theorem j9 : ((Rows.partsOpenedRow.inPlace == Try.pinned.checked.prog.inPlace 3)) = true := by kernel_rfl
theorem j10 : ((Rows.partsOpenedRow.unfollowed == Try.pinned.checked.prog.unfollowed 3)) = true := by kernel_rfl
theorem j11 : ((Rows.partsOpenedRow.recurses == Try.pinned.checked.prog.recurses 3)) = true := by kernel_rfl
theorem j12 : ((Rows.partsOpenedRow.named == Try.pinned.checked.prog.varsNamed 3)) = true := by kernel_rfl
theorem j13 : ((Rows.partsOpenedRow.maps == (Try.f3.params.toList ++ Rows.partsOpenedSpec.plain.varTypes Try.pinned.checked.prog).any (Try.pinned.checked.prog.mapsRec ·))) = true := by kernel_rfl
theorem j14 : ((Rows.partsOpenedRow.ifaces == (Try.f3.params.toList ++ Rows.partsOpenedSpec.plain.varTypes Try.pinned.checked.prog).any (Try.pinned.checked.prog.ifacesRec ·))) = true := by kernel_rfl
theorem j15 : ((Rows.partsOpenedRow.mapsOut == Try.pinned.checked.prog.mapsAmong Try.f3.resultTypes.toList)) = true := by kernel_rfl
theorem j16 : ((Rows.partsOpenedRow.loops == (Try.f3.params.toList ++ Rows.partsOpenedSpec.plain.varTypes Try.pinned.checked.prog).any (Try.pinned.checked.prog.loopsFrom ·))) = true := by kernel_rfl
theorem j17 : ((Rows.partsOpenedRow.wideKeys == (Try.f3.params.toList ++ Rows.partsOpenedSpec.plain.varTypes Try.pinned.checked.prog ++ Try.f3.resultTypes.toList).any (Try.pinned.checked.prog.wideKeysFrom ·))) = true := by kernel_rfl
theorem j18 : (Rows.partsOpenedSpec.vars.all (Try.pinned.checked.prog.varReadable ·)) = true := by kernel_rfl
theorem j19 : (Try.f3.resultTypes.all (fun t => Try.pinned.checked.prog.readableRec t && decide (t < Try.pinned.checked.prog.types.size))) = true := by kernel_rfl
theorem j20 : ((Rows.partsOpenedRow.ifacesOut == Try.f3.resultTypes.toList.any (Try.pinned.checked.prog.ifacesRec ·))) = true := by kernel_rfl
theorem j21 : ((Rows.partsOpenedRow.loopsOut == Try.f3.resultTypes.toList.any (Try.pinned.checked.prog.loopsFrom ·))) = true := by kernel_rfl
theorem j22 : ((Rows.partsOpenedRow.plainKeys == Try.pinned.checked.prog.plainKeys)) = true := by kernel_rfl
theorem j23 : (Rows.partsOpenedRow.shortTexts.isNone) = true := by kernel_rfl
theorem j24 : (Try.pinned.checked.prog.stopsHeard) = true := rowfact_stopsHeard
theorem j25 : (Try.pinned.checked.prog.mayEnter) = true := rowfact_mayEnter
theorem j26 : ((Rows.partsOpenedRow.lifted == Try.pinned.checked.prog.liftsFinal)) = true := by rw [rowfact_lifts]; kernel_rfl
theorem j27 : ((Try.pinned.checked.prog.make == some Rows.partsOpenedRow.make)) = true := by rw [rowfact_make]; kernel_rfl
theorem j28 : ((Rows.partsOpenedRow.kinds == (if Rows.partsOpenedRow.domain.isEmpty then [] else Try.f3.params.toList.map fun t => match Try.pinned.checked.prog.underlying t with | some (.int k) => some k | _ => none))) = true := by kernel_rfl
theorem j29 : ((Rows.partsOpenedRow.pinned == Rows.partsOpenedRow.pinnedBy)) = true := by kernel_rfl
theorem j30 : ((Rows.partsOpenedRow.veiled == (Try.f3.params.toList ++ Rows.partsOpenedSpec.plain.varTypes Try.pinned.checked.prog ++ Try.f3.resultTypes.toList).any (Try.pinned.checked.prog.veiledRec ·))) = true := by kernel_rfl
theorem j31 : (Rows.partsOpenedRow.veiledFits Try.pinned.checked.prog Try.f3.params.toList (Try.f3.params.toList ++ Rows.partsOpenedSpec.plain.varTypes Try.pinned.checked.prog ++ Try.f3.resultTypes.toList)) = true := by kernel_rfl
set_option maxRecDepth 100000 in
theorem closed : joinedFacts Try.pinned.checked.prog 3 Try.f3 Rows.partsOpenedSpec Rows.partsOpenedRow = true := gen_closed _ _ _ _ _ j0 j1 j2 j3 j4 j5 j6 j7 j8 j9 j10 j11 j12 j13 j14 j15 j16 j17 j18 j19 j20 j21 j22 j23 j24 j25 j26 j27 j28 j29 j30 j31
theorem over : Rows.partsOpenedRow.holds Try.pinned (OpenSpec.ofChange Rows.partsOpenedSpec) :=
  OpenClaim.holds_of_wide 3 Try.f3 rfl rfl rfl rfl rfl rfl rfl ⟨rfl, rfl, rfl, rfl, rfl⟩ rfl rfl rfl rfl rfl (by kernel_rfl) Try.func3 closed
    (of_decide_eq_true (by kernel_rfl)) (by unfold Func.isWrapper; first | (rw [if_pos (by decide +kernel)]; kernel_rfl) | (rw [if_neg (by decide +kernel)]; exact ⟨rfl, rfl⟩))
    (fun os started H enc _ => lifted os started H enc)
end Go.Proofs.Ytpfpmjdifnoeoaa.partsOpened
namespace Go.Proofs.Ytpfpmjdifnoeoaa
/-- The given statement, proved. -/
theorem partsOpened_holds : Rows.PartsOpenedSaid := partsOpened.over
#print axioms partsOpened_holds
end Go.Proofs.Ytpfpmjdifnoeoaa
