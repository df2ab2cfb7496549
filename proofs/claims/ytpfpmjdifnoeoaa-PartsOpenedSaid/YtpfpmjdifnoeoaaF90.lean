-- Laid by mk.py (a program of this session) over the seat's translation.
import Derived.Test.YtpfpmjdifnoeoaaF0
import Derived.Test.YtpfpmjdifnoeoaaF132
import Derived.Test.YtpfpmjdifnoeoaaF135
namespace Go.Proofs.Ytpfpmjdifnoeoaa.F
open Go.RowKit Go.Proofs.YtpfpmjdifnoeoaaW.PrintWords Go.Proofs.YtpfpmjdifnoeoaaW.PrintLast Go.Proofs.YtpfpmjdifnoeoaaW.PrintMore
attribute [local go_sem] max2_int min2_int max_two min_two max_three min_three max_four min_four
set_option linter.unusedVariables false
set_option linter.unusedSimpArgs false

/-! ### term_Key: function 90 -/
/-! #### term_Key_p: function 90 -/
def term_Key_p.f (a0 : ByteArray) : Option (ByteArray × Int) := (term_element.f a0).bind fun t875 => (if t875 = true then (if 1 + a0.size ≤ 9223372036854775807 then ((term_whole.f ((⟨#[107]⟩ : ByteArray) ++ a0)).bind fun bt876 => (some (bt876.1, bt876.2))) else (none)) else (some ((⟨#[]⟩ : ByteArray), 1)))
set_option maxHeartbeats 8000000 in
set_option maxRecDepth 100000 in
theorem term_Key_p.calls (a0 : ByteArray) (r1 : ByteArray) (r2 : Int) (w : World) (h : term_Key_p.f a0 = some (r1, r2)) :
    Calls Try.prog 90 #[.string a0] w fun e w' => e = .returned (.tuple #[.string r1, .int .i64 r2]) ∧ Below w.heap.size w w' := by
  have HB := Aside0.mk (Below.refl w.heap.size w)
  have H : ((term_element.f a0).bind fun t875 => (if t875 = true then (if 1 + a0.size ≤ 9223372036854775807 then ((term_whole.f ((⟨#[107]⟩ : ByteArray) ++ a0)).bind fun bt876 => (some (bt876.1, bt876.2))) else (none)) else (some ((⟨#[]⟩ : ByteArray), 1)))) = some (r1, r2) := h
  clear h
  replace H := Option.bind_eq_some_iff.mp H
  obtain ⟨t875, A20, H⟩ := H
  replace H : (if t875 = true then (if 1 + a0.size ≤ 9223372036854775807 then ((term_whole.f ((⟨#[107]⟩ : ByteArray) ++ a0)).bind fun bt876 => (some (bt876.1, bt876.2))) else (none)) else (some ((⟨#[]⟩ : ByteArray), 1))) = some (r1, r2) := H
  have A2 := Aside0.mk A20
  clear A20
  by_cases c3 : t875 = true
  · subst c3
    have H1 : (if 1 + a0.size ≤ 9223372036854775807 then ((term_whole.f ((⟨#[107]⟩ : ByteArray) ++ a0)).bind fun bt876 => (some (bt876.1, bt876.2))) else (none)) = some (r1, r2) := by rw [if_pos rfl] at H; exact H
    clear H
    have H := H1
    clear H1
    by_cases c4 : 1 + a0.size ≤ 9223372036854775807
    · rw [if_pos c4] at H
      have c4b0 := eq_true c4
      have c4b1 : decide (1 + a0.size ≤ 9223372036854775807) = true := decide_eq_true c4
      try have c4b2 : (9223372036854775807 < 1 + a0.size) = False := eq_false (Nat.not_lt.2 c4)
      replace H := Option.bind_eq_some_iff.mp H
      obtain ⟨⟨t876, t877⟩, A50, H⟩ := H
      replace H : (some (t876, t877)) = some (r1, r2) := H
      have A5 := Aside0.mk A50
      clear A50
      simp only [Option.some.injEq, Prod.mk.injEq] at H
      obtain ⟨rfl, rfl⟩ := H
      go_enter Try.func90, Try.ntmps90
      go_wp2_with (first | ((with_reducible refine gate_callee (f := 132) rfl ?_); refine goesL_ (some 5) rfl rfl Try.func132 (by kernel_rfl) rfl #[.string a0] rfl (by (try simp only [List.map_toArray, List.map_cons, List.map_nil]); first | done | rfl | (simp only [List.length_drop, List.length_take]; rfl)) ?_; (with_reducible refine (term_element.calls a0 true _ A2.out).mono ?_); rintro e w6 ⟨rfl, hb⟩; refine ⟨_, rfl, ?_⟩; have n0_ := Aside0.mk (below_step (by repeat (first | (with_reducible first | exact HB.out | apply below_alloc | apply pw_below_drewN | apply below_drew1) | exact HB.out)) hb); clear HB; have HB := n0_; clear n0_; (try clear hb); (try clear hb2); (try clear hk); (try clear hi)) | ((with_reducible refine gate_callee (f := 135) rfl ?_); refine goesL_ (some 9) rfl rfl Try.func135 (by kernel_rfl) rfl #[.string ((⟨#[107]⟩ : ByteArray) ++ a0)] rfl (by (try simp only [List.map_toArray, List.map_cons, List.map_nil]); first | done | rfl | (simp only [List.length_drop, List.length_take]; rfl)) ?_; (with_reducible refine (term_whole.calls ((⟨#[107]⟩ : ByteArray) ++ a0) t876 t877 _ A5.out).mono ?_); rintro e w7 ⟨rfl, hb⟩; refine ⟨_, rfl, ?_⟩; have n0_ := Aside0.mk (below_step (by repeat (first | (with_reducible first | exact HB.out | apply below_alloc | apply pw_below_drewN | apply below_drew1) | exact HB.out)) hb); clear HB; have HB := n0_; clear n0_; (try clear hb); (try clear hb2); (try clear hk); (try clear hi)))
      go_ret2
      exact ⟨by first | rfl | (simp [errW_none, errW_some] <;> rfl) | (simp [*, errW_none, errW_some] <;> rfl), by repeat (first | (with_reducible first | exact HB.out | apply below_alloc | apply pw_below_drewN | apply below_drew1) | exact HB.out)⟩
    · rw [if_neg c4] at H
      exact absurd H (by simp)
  · replace c3 := Bool.eq_false_iff.mpr c3
    subst c3
    have H1 : (some ((⟨#[]⟩ : ByteArray), 1)) = some (r1, r2) := by rw [if_neg (show ¬ (false = true) by decide)] at H; exact H
    clear H
    have H := H1
    clear H1
    simp only [Option.some.injEq, Prod.mk.injEq] at H
    obtain ⟨rfl, rfl⟩ := H
    go_enter Try.func90, Try.ntmps90
    go_wp2_with (first | ((with_reducible refine gate_callee (f := 132) rfl ?_); refine goesL_ (some 5) rfl rfl Try.func132 (by kernel_rfl) rfl #[.string a0] rfl (by (try simp only [List.map_toArray, List.map_cons, List.map_nil]); first | done | rfl | (simp only [List.length_drop, List.length_take]; rfl)) ?_; (with_reducible refine (term_element.calls a0 false _ A2.out).mono ?_); rintro e w8 ⟨rfl, hb⟩; refine ⟨_, rfl, ?_⟩; have n0_ := Aside0.mk (below_step (by repeat (first | (with_reducible first | exact HB.out | apply below_alloc | apply pw_below_drewN | apply below_drew1) | exact HB.out)) hb); clear HB; have HB := n0_; clear n0_; (try clear hb); (try clear hb2); (try clear hk); (try clear hi)))
    go_ret2
    exact ⟨by first | rfl | (simp [errW_none, errW_some] <;> rfl) | (simp [*, errW_none, errW_some] <;> rfl), by repeat (first | (with_reducible first | exact HB.out | apply below_alloc | apply pw_below_drewN | apply below_drew1) | exact HB.out)⟩

def keyF (t : ByteArray) : ByteArray × Int := if elemB t = true then wholeF ((⟨#[107]⟩ : ByteArray) ++ t) else (⟨#[]⟩, 1)
def term_Key.f (t : ByteArray) : Option (ByteArray × Int) := if t.size < 9223372036854775000 then some (keyF t) else none
theorem term_Key.eq (t : ByteArray) (hs : t.size < 9223372036854775000) : term_Key_p.f t = term_Key.f t := by
  unfold term_Key_p.f term_element.f term_Key.f keyF
  rw [if_pos hs, if_pos hs]
  simp only [Option.bind_some]
  split
  · rw [if_pos (by omega)]; rfl
  · rfl
theorem term_Key.calls (a0 : ByteArray) (r1 : ByteArray) (r2 : Int) (w : World) (h : term_Key.f a0 = some (r1, r2)) :
    Calls Try.prog 90 #[.string a0] w fun e w' => e = .returned (.tuple #[.string r1, .int .i64 r2]) ∧ Below w.heap.size w w' := by
  have hs : a0.size < 9223372036854775000 := by
    unfold term_Key.f at h
    split at h
    · assumption
    · cases h
  exact term_Key_p.calls a0 r1 r2 w ((term_Key.eq a0 hs).trans h)

end Go.Proofs.Ytpfpmjdifnoeoaa.F
