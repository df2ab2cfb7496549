-- Laid by mk.py (a program of this session) over the seat's translation.
import Derived.Test.YtpfpmjdifnoeoaaF0
import Derived.Test.YtpfpmjdifnoeoaaF79
import Derived.Test.YtpfpmjdifnoeoaaF79
namespace Go.Proofs.Ytpfpmjdifnoeoaa.F
open Go.RowKit Go.Proofs.YtpfpmjdifnoeoaaW.PrintWords Go.Proofs.YtpfpmjdifnoeoaaW.PrintLast Go.Proofs.YtpfpmjdifnoeoaaW.PrintMore
attribute [local go_sem] max2_int min2_int max_two min_two max_three min_three max_four min_four
set_option linter.unusedVariables false
set_option linter.unusedSimpArgs false

/-! ### gemotref1_Text: function 80 -/
/-! #### gemotref1_Text_p: function 80 -/
def gemotref1_Text_p.f (a0 : ByteArray) : Option (ByteArray × Int) := if (a0.size : Int) > 100 then (some ((⟨#[]⟩ : ByteArray), 3)) else ((some (([0, ((a0.size : Int)) % 256] : List Int) : List Int)).bind fun y461 => (if 1 + (strOfNums y461).size ≤ 9223372036854775807 then (if ((⟨#[116]⟩ : ByteArray) ++ (strOfNums y461)).size + a0.size ≤ 9223372036854775807 then (some (((⟨#[116]⟩ : ByteArray) ++ (strOfNums y461)) ++ a0, 0)) else (none)) else (none)))
set_option maxHeartbeats 8000000 in
set_option maxRecDepth 100000 in
theorem gemotref1_Text_p.calls (a0 : ByteArray) (r1 : ByteArray) (r2 : Int) (w : World) (h : gemotref1_Text_p.f a0 = some (r1, r2)) :
    Calls Try.prog 80 #[.string a0] w fun e w' => e = .returned (.tuple #[.string r1, .int .i64 r2]) ∧ Below w.heap.size w w' := by
  have HB := Aside0.mk (Below.refl w.heap.size w)
  have H : (if (a0.size : Int) > 100 then (some ((⟨#[]⟩ : ByteArray), 3)) else ((some (([0, ((a0.size : Int)) % 256] : List Int) : List Int)).bind fun y461 => (if 1 + (strOfNums y461).size ≤ 9223372036854775807 then (if ((⟨#[116]⟩ : ByteArray) ++ (strOfNums y461)).size + a0.size ≤ 9223372036854775807 then (some (((⟨#[116]⟩ : ByteArray) ++ (strOfNums y461)) ++ a0, 0)) else (none)) else (none)))) = some (r1, r2) := h
  clear h
  by_cases c2 : (a0.size : Int) > 100
  · rw [if_pos c2] at H
    have c2b0 : decide (100 < (a0.size : Int)) = true := decide_eq_true c2
    have c2b1 : decide (100 < a0.size) = true := decide_eq_true (by omega)
    clear c2
    simp only [Option.some.injEq, Prod.mk.injEq] at H
    obtain ⟨rfl, rfl⟩ := H
    go_enter Try.func80, Try.ntmps80
    go_wp2
    go_ret2
    exact ⟨by first | rfl | (simp [errW_none, errW_some] <;> rfl) | (simp [*, errW_none, errW_some] <;> rfl), by repeat (first | (with_reducible first | exact HB.out | apply below_alloc | apply pw_below_drewN | apply below_drew1) | exact HB.out)⟩
  · rw [if_neg c2] at H
    have c2b0 : decide (100 < (a0.size : Int)) = false := decide_eq_false c2
    have c2b1 : decide (100 < a0.size) = false := decide_eq_false (by omega)
    clear c2
    obtain ⟨y461, hy461⟩ : ∃ y_ : List Int, y_ = (([0, ((a0.size : Int)) % 256] : List Int)) := ⟨_, rfl⟩
    replace H : (if 1 + (strOfNums y461).size ≤ 9223372036854775807 then (if ((⟨#[116]⟩ : ByteArray) ++ (strOfNums y461)).size + a0.size ≤ 9223372036854775807 then (some (((⟨#[116]⟩ : ByteArray) ++ (strOfNums y461)) ++ a0, 0)) else (none)) else (none)) = some (r1, r2) := by first | (rw [hy461]; with_reducible exact H) | (have H2_ := (Option.bind_some _ _).symm.trans H; rw [hy461]; with_reducible exact H2_) | (have H2_ := (Option.bind_some _ _).symm.trans H; with_reducible exact H2_) | with_reducible exact H | (rw [hy461]; exact H) | exact H
    have Ny461 := Aside0.mk hy461
    clear hy461
    by_cases c3 : 1 + (strOfNums y461).size ≤ 9223372036854775807
    · rw [if_pos c3] at H
      have c3b0 := eq_true c3
      have c3b1 : decide (1 + (strOfNums y461).size ≤ 9223372036854775807) = true := decide_eq_true c3
      try have c3b2 : (9223372036854775807 < 1 + (strOfNums y461).size) = False := eq_false (Nat.not_lt.2 c3)
      by_cases c4 : ((⟨#[116]⟩ : ByteArray) ++ (strOfNums y461)).size + a0.size ≤ 9223372036854775807
      · rw [if_pos c4] at H
        have c4b0 := eq_true c4
        have c4b1 : decide (((⟨#[116]⟩ : ByteArray) ++ (strOfNums y461)).size + a0.size ≤ 9223372036854775807) = true := decide_eq_true c4
        try have c4b2 : (9223372036854775807 < ((⟨#[116]⟩ : ByteArray) ++ (strOfNums y461)).size + a0.size) = False := eq_false (Nat.not_lt.2 c4)
        simp only [Option.some.injEq, Prod.mk.injEq] at H
        obtain ⟨rfl, rfl⟩ := H
        go_enter Try.func80, Try.ntmps80
        go_wp2_with (first | ((with_reducible refine gate_dst (N := 11) rfl ?_); refine Kd.R_lit (Kd.int .u8) _ 5 ?hg (N := 11) ?hd (xs := ([0, ((a0.size : Int)) % 256] : List Int)) (inner := [.int .u8 0, .int .u8 (((a0.size : Int)) % 256)]) (ok := fun _ => True) (okp := fun _ => True) ?hr ?hp (fun _ hk => hk) trivial (Below.refl _ _) (Nat.le_refl _) (by simp) ?_; (case hd => rfl); (case hg => rfl); (case hr => first | (go_simp; done) | (go_simp; rfl)); (case hp => exact (Reps.one (show Kd.M (Kd.int .u8) _ _ _ 0 [.int .u8 0] from rfl) (Reps.one (show Kd.M (Kd.int .u8) _ _ _ (((a0.size : Int)) % 256) [.int .u8 (((a0.size : Int)) % 256)] from rfl) (Reps.none _ _)))); intro v462 w5 ho6 hb hg_ hnew_; clear hg_ hnew_; (first | rw [← Ny461.out] at ho6 | (simp only [Int.reduceToNat] at ho6; rw [← Ny461.out] at ho6)); have n0_ := Aside0.mk (Kd.R_lower ho6 (below_size (by repeat (first | (with_reducible first | exact HB.out | apply below_alloc | apply pw_below_drewN | apply below_drew1) | exact HB.out)))); have n1_ := Aside0.mk (below_step (by repeat (first | (with_reducible first | exact HB.out | apply below_alloc | apply pw_below_drewN | apply below_drew1) | exact HB.out)) hb); clear HB; have HO463 := n0_; have HB := n1_; clear n0_ n1_; clear hb ho6; have hcv7 := own_string (P := Try.prog) Try.underlying148 Try.underlying5 Try.underlying9 (Kd.own_of_R HO463.out)))
        go_ret2
        exact ⟨by first | rfl | (simp [errW_none, errW_some] <;> rfl) | (simp [*, errW_none, errW_some] <;> rfl), by repeat (first | (with_reducible first | exact HB.out | apply below_alloc | apply pw_below_drewN | apply below_drew1) | exact HB.out)⟩
      · rw [if_neg c4] at H
        exact absurd H (by simp)
    · rw [if_neg c3] at H
      exact absurd H (by simp)

def gemotref1_Text.f (s : ByteArray) : Option (ByteArray × Int) := some (textF s)
theorem gemotref1_Text.eq (s : ByteArray) : gemotref1_Text_p.f s = gemotref1_Text.f s := by
  unfold gemotref1_Text_p.f gemotref1_Text.f textF
  by_cases c : 100 < s.size
  · rw [if_pos c, if_pos (by omega)]
  · rw [if_neg c, if_neg (by omega), show ((s.size : Int)) % 256 = s.size by omega]
    simp only [Option.bind_some]
    rw [if_pos (by show 1 + 2 ≤ _; omega), if_pos (by rw [ByteArray.size_append]; show (1 + 2) + _ ≤ _; omega)]
    congr 2
theorem gemotref1_Text.calls (a0 : ByteArray) (r1 : ByteArray) (r2 : Int) (w : World) (h : gemotref1_Text.f a0 = some (r1, r2)) :
    Calls Try.prog 80 #[.string a0] w fun e w' => e = .returned (.tuple #[.string r1, .int .i64 r2]) ∧ Below w.heap.size w w' :=
  gemotref1_Text_p.calls a0 r1 r2 w ((gemotref1_Text.eq a0).trans h)

end Go.Proofs.Ytpfpmjdifnoeoaa.F
