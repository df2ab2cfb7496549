-- Laid by mk.py (a program of this session) over the seat's translation.
import Derived.Test.YtpfpmjdifnoeoaaF0
namespace Go.Proofs.Ytpfpmjdifnoeoaa.F
open Go.RowKit Go.Proofs.YtpfpmjdifnoeoaaW.PrintWords Go.Proofs.YtpfpmjdifnoeoaaW.PrintLast Go.Proofs.YtpfpmjdifnoeoaaW.PrintMore
attribute [local go_sem] max2_int min2_int max_two min_two max_three min_three max_four min_four
set_option linter.unusedVariables false
set_option linter.unusedSimpArgs false

/-! ### term_Text: function 79 -/
/-! #### term_Text_p: function 79 -/
def term_Text_p.f (a0 : ByteArray) : Option (ByteArray × Int) := if (a0.size : Int) > 100 then (some ((⟨#[]⟩ : ByteArray), 3)) else ((some (([116, 0, ((a0.size : Int)) % 256] : List Int) : List Int)).bind fun y390 => (if (strOfNums y390).size + a0.size ≤ 9223372036854775807 then (some ((strOfNums y390) ++ a0, 0)) else (none)))
set_option maxHeartbeats 8000000 in
set_option maxRecDepth 100000 in
theorem term_Text_p.calls (a0 : ByteArray) (r1 : ByteArray) (r2 : Int) (w : World) (h : term_Text_p.f a0 = some (r1, r2)) :
    Calls Try.prog 79 #[.string a0] w fun e w' => e = .returned (.tuple #[.string r1, .int .i64 r2]) ∧ Below w.heap.size w w' := by
  have HB := Aside0.mk (Below.refl w.heap.size w)
  have H : (if (a0.size : Int) > 100 then (some ((⟨#[]⟩ : ByteArray), 3)) else ((some (([116, 0, ((a0.size : Int)) % 256] : List Int) : List Int)).bind fun y390 => (if (strOfNums y390).size + a0.size ≤ 9223372036854775807 then (some ((strOfNums y390) ++ a0, 0)) else (none)))) = some (r1, r2) := h
  clear h
  by_cases c2 : (a0.size : Int) > 100
  · rw [if_pos c2] at H
    have c2b0 : decide (100 < (a0.size : Int)) = true := decide_eq_true c2
    have c2b1 : decide (100 < a0.size) = true := decide_eq_true (by omega)
    clear c2
    simp only [Option.some.injEq, Prod.mk.injEq] at H
    obtain ⟨rfl, rfl⟩ := H
    go_enter Try.func79, Try.ntmps79
    go_wp2
    go_ret2
    exact ⟨by first | rfl | (simp [errW_none, errW_some] <;> rfl) | (simp [*, errW_none, errW_some] <;> rfl), by repeat (first | (with_reducible first | exact HB.out | apply below_alloc | apply pw_below_drewN | apply below_drew1) | exact HB.out)⟩
  · rw [if_neg c2] at H
    have c2b0 : decide (100 < (a0.size : Int)) = false := decide_eq_false c2
    have c2b1 : decide (100 < a0.size) = false := decide_eq_false (by omega)
    clear c2
    obtain ⟨y390, hy390⟩ : ∃ y_ : List Int, y_ = (([116, 0, ((a0.size : Int)) % 256] : List Int)) := ⟨_, rfl⟩
    replace H : (if (strOfNums y390).size + a0.size ≤ 9223372036854775807 then (some ((strOfNums y390) ++ a0, 0)) else (none)) = some (r1, r2) := by first | (rw [hy390]; with_reducible exact H) | (have H2_ := (Option.bind_some _ _).symm.trans H; rw [hy390]; with_reducible exact H2_) | (have H2_ := (Option.bind_some _ _).symm.trans H; with_reducible exact H2_) | with_reducible exact H | (rw [hy390]; exact H) | exact H
    have Ny390 := Aside0.mk hy390
    clear hy390
    by_cases c3 : (strOfNums y390).size + a0.size ≤ 9223372036854775807
    · rw [if_pos c3] at H
      have c3b0 := eq_true c3
      have c3b1 : decide ((strOfNums y390).size + a0.size ≤ 9223372036854775807) = true := decide_eq_true c3
      try have c3b2 : (9223372036854775807 < (strOfNums y390).size + a0.size) = False := eq_false (Nat.not_lt.2 c3)
      simp only [Option.some.injEq, Prod.mk.injEq] at H
      obtain ⟨rfl, rfl⟩ := H
      go_enter Try.func79, Try.ntmps79
      go_wp2_with (first | ((with_reducible refine gate_dst (N := 10) rfl ?_); refine Kd.R_lit (Kd.int .u8) _ 5 ?hg (N := 10) ?hd (xs := ([116, 0, ((a0.size : Int)) % 256] : List Int)) (inner := [.int .u8 116, .int .u8 0, .int .u8 (((a0.size : Int)) % 256)]) (ok := fun _ => True) (okp := fun _ => True) ?hr ?hp (fun _ hk => hk) trivial (Below.refl _ _) (Nat.le_refl _) (by simp) ?_; (case hd => rfl); (case hg => rfl); (case hr => first | (go_simp; done) | (go_simp; rfl)); (case hp => exact (Reps.one (show Kd.M (Kd.int .u8) _ _ _ 116 [.int .u8 116] from rfl) (Reps.one (show Kd.M (Kd.int .u8) _ _ _ 0 [.int .u8 0] from rfl) (Reps.one (show Kd.M (Kd.int .u8) _ _ _ (((a0.size : Int)) % 256) [.int .u8 (((a0.size : Int)) % 256)] from rfl) (Reps.none _ _))))); intro v391 w4 ho5 hb hg_ hnew_; clear hg_ hnew_; (first | rw [← Ny390.out] at ho5 | (simp only [Int.reduceToNat] at ho5; rw [← Ny390.out] at ho5)); have n0_ := Aside0.mk (Kd.R_lower ho5 (below_size (by repeat (first | (with_reducible first | exact HB.out | apply below_alloc | apply pw_below_drewN | apply below_drew1) | exact HB.out)))); have n1_ := Aside0.mk (below_step (by repeat (first | (with_reducible first | exact HB.out | apply below_alloc | apply pw_below_drewN | apply below_drew1) | exact HB.out)) hb); clear HB; have HO392 := n0_; have HB := n1_; clear n0_ n1_; clear hb ho5; have hcv6 := own_string (P := Try.prog) Try.underlying148 Try.underlying5 Try.underlying23 (Kd.own_of_R HO392.out)))
      go_ret2
      exact ⟨by first | rfl | (simp [errW_none, errW_some] <;> rfl) | (simp [*, errW_none, errW_some] <;> rfl), by repeat (first | (with_reducible first | exact HB.out | apply below_alloc | apply pw_below_drewN | apply below_drew1) | exact HB.out)⟩
    · rw [if_neg c3] at H
      exact absurd H (by simp)

def textF (s : ByteArray) : ByteArray × Int := if 100 < s.size then (⟨#[]⟩, 3) else (strOfNums [116, 0, s.size] ++ s, 0)
def term_Text.f (s : ByteArray) : Option (ByteArray × Int) := some (textF s)
theorem term_Text.eq (s : ByteArray) : term_Text_p.f s = term_Text.f s := by
  unfold term_Text_p.f term_Text.f textF
  by_cases c : 100 < s.size
  · rw [if_pos c, if_pos (by omega)]
  · rw [if_neg c, if_neg (by omega), show ((s.size : Int)) % 256 = s.size by omega]
    simp only [Option.bind_some]
    rw [if_pos (by show 3 + _ ≤ _; omega)]
theorem term_Text.calls (a0 : ByteArray) (r1 : ByteArray) (r2 : Int) (w : World) (h : term_Text.f a0 = some (r1, r2)) :
    Calls Try.prog 79 #[.string a0] w fun e w' => e = .returned (.tuple #[.string r1, .int .i64 r2]) ∧ Below w.heap.size w w' :=
  term_Text_p.calls a0 r1 r2 w ((term_Text.eq a0).trans h)

end Go.Proofs.Ytpfpmjdifnoeoaa.F
