/- The document's functions that put terms together; no condition. -/
import Derived.Test.YtpfpmjdifnoeoaaMSealClosesF0
import Derived.Test.YtpfpmjdifnoeoaaMSealClosesB4
import Derived.Test.YtpfpmjdifnoeoaaMSealClosesB2
import Derived.Test.YtpfpmjdifnoeoaaMSealClosesB1
namespace Go.Proofs.Ytpfpmjdifnoeoaa.F
open Go.RowKit Go.Proofs.YtpfpmjdifnoeoaaW.PrintWords Go.Proofs.YtpfpmjdifnoeoaaW.PrintLast Go.Proofs.YtpfpmjdifnoeoaaW.PrintMore
attribute [local go_sem] max2_int min2_int max_two min_two max_three min_three max_four min_four
set_option linter.unusedVariables false
set_option linter.unusedSimpArgs false
end Go.Proofs.Ytpfpmjdifnoeoaa.F
namespace Go.Proofs.Ytpfpmjdifnoeoaa.F
open Go.RowKit Go.Proofs.YtpfpmjdifnoeoaaW.PrintWords Go.Proofs.YtpfpmjdifnoeoaaW.PrintLast Go.Proofs.YtpfpmjdifnoeoaaW.PrintMore
attribute [local go_sem] max2_int min2_int max_two min_two max_three min_three max_four min_four
set_option linter.unusedVariables false
set_option linter.unusedSimpArgs false
open Go.Proofs.Ytpfpmjdifnoeoaa.Pure
end Go.Proofs.Ytpfpmjdifnoeoaa.F
namespace Go.Proofs.Ytpfpmjdifnoeoaa.F
open Go.RowKit Go.Proofs.YtpfpmjdifnoeoaaW.PrintWords Go.Proofs.YtpfpmjdifnoeoaaW.PrintLast Go.Proofs.YtpfpmjdifnoeoaaW.PrintMore
attribute [local go_sem] max2_int min2_int max_two min_two max_three min_three max_four min_four
set_option linter.unusedVariables false
set_option linter.unusedSimpArgs false
def gemotref1_made_p.f (a0 : ByteArray) : Option (ByteArray × Int) := if (a0.size : Int) > 20000 then (some ((⟨#[]⟩ : ByteArray), 3)) else ((gemotref1_Right.f a0).bind fun t1001 => (if t1001 = true then (some (a0, 0)) else (some ((⟨#[]⟩ : ByteArray), 4))))
set_option maxHeartbeats 8000000 in
set_option maxRecDepth 100000 in
theorem gemotref1_made_p.calls (a0 : ByteArray) (r1 : ByteArray) (r2 : Int) (w : World) (h : gemotref1_made_p.f a0 = some (r1, r2)) :
    Calls Try.prog 139 #[.string a0] w fun e w' => e = .returned (.tuple #[.string r1, .int .i64 r2]) ∧ Below w.heap.size w w' := by
  have HB := Aside0.mk (Below.refl w.heap.size w)
  have H : (if (a0.size : Int) > 20000 then (some ((⟨#[]⟩ : ByteArray), 3)) else ((gemotref1_Right.f a0).bind fun t1001 => (if t1001 = true then (some (a0, 0)) else (some ((⟨#[]⟩ : ByteArray), 4))))) = some (r1, r2) := h
  clear h
  by_cases c2 : (a0.size : Int) > 20000
  · rw [if_pos c2] at H
    have c2b0 : decide (20000 < (a0.size : Int)) = true := decide_eq_true c2
    have c2b1 : decide (20000 < a0.size) = true := decide_eq_true (by omega)
    clear c2
    simp only [Option.some.injEq, Prod.mk.injEq] at H
    obtain ⟨rfl, rfl⟩ := H
    go_enter Try.func139, Try.ntmps139
    go_wp2
    go_ret2
    exact ⟨by first | rfl | (simp [errW_none, errW_some] <;> rfl) | (simp [*, errW_none, errW_some] <;> rfl), by repeat (first | (with_reducible first | exact HB.out | apply below_alloc | apply pw_below_drewN | apply below_drew1) | exact HB.out)⟩
  · rw [if_neg c2] at H
    have c2b0 : decide (20000 < (a0.size : Int)) = false := decide_eq_false c2
    have c2b1 : decide (20000 < a0.size) = false := decide_eq_false (by omega)
    clear c2
    replace H := Option.bind_eq_some_iff.mp H
    obtain ⟨t1001, A30, H⟩ := H
    replace H : (if t1001 = true then (some (a0, 0)) else (some ((⟨#[]⟩ : ByteArray), 4))) = some (r1, r2) := H
    have A3 := Aside0.mk A30
    clear A30
    by_cases c4 : t1001 = true
    · subst c4
      have H1 : (some (a0, 0)) = some (r1, r2) := by rw [if_pos rfl] at H; exact H
      clear H
      have H := H1
      clear H1
      simp only [Option.some.injEq, Prod.mk.injEq] at H
      obtain ⟨rfl, rfl⟩ := H
      go_enter Try.func139, Try.ntmps139
      go_wp2_with (first | ((with_reducible refine gate_callee (f := 114) rfl ?_); refine goesL_ (some 8) rfl rfl Try.func114 (by kernel_rfl) rfl #[.string a0] rfl (by simp only [List.map_toArray, List.map_cons, List.map_nil] <;> rfl) ?_; (with_reducible refine (gemotref1_Right.calls a0 true _ A3.out).mono ?_); rintro e w5 ⟨rfl, hb⟩; refine ⟨_, rfl, ?_⟩; have n0_ := Aside0.mk (below_step (by repeat with_reducible first | exact HB.out | apply below_alloc | apply pw_below_drewN | apply below_drew1) hb); clear HB; have HB := n0_; clear n0_; (try clear hb)))
      go_ret2
      exact ⟨by first | rfl | (simp [errW_none, errW_some] <;> rfl) | (simp [*, errW_none, errW_some] <;> rfl), by repeat (first | (with_reducible first | exact HB.out | apply below_alloc | apply pw_below_drewN | apply below_drew1) | exact HB.out)⟩
    · replace c4 := Bool.eq_false_iff.mpr c4
      subst c4
      have H1 : (some ((⟨#[]⟩ : ByteArray), 4)) = some (r1, r2) := by rw [if_neg (show ¬ (false = true) by decide)] at H; exact H
      clear H
      have H := H1
      clear H1
      simp only [Option.some.injEq, Prod.mk.injEq] at H
      obtain ⟨rfl, rfl⟩ := H
      go_enter Try.func139, Try.ntmps139
      go_wp2_with (first | ((with_reducible refine gate_callee (f := 114) rfl ?_); refine goesL_ (some 8) rfl rfl Try.func114 (by kernel_rfl) rfl #[.string a0] rfl (by simp only [List.map_toArray, List.map_cons, List.map_nil] <;> rfl) ?_; (with_reducible refine (gemotref1_Right.calls a0 false _ A3.out).mono ?_); rintro e w6 ⟨rfl, hb⟩; refine ⟨_, rfl, ?_⟩; have n0_ := Aside0.mk (below_step (by repeat with_reducible first | exact HB.out | apply below_alloc | apply pw_below_drewN | apply below_drew1) hb); clear HB; have HB := n0_; clear n0_; (try clear hb)))
      go_ret2
      exact ⟨by first | rfl | (simp [errW_none, errW_some] <;> rfl) | (simp [*, errW_none, errW_some] <;> rfl), by repeat (first | (with_reducible first | exact HB.out | apply below_alloc | apply pw_below_drewN | apply below_drew1) | exact HB.out)⟩
def gemotref1_made.f (t : ByteArray) : Option (ByteArray × Int) := some (wholeF t)
theorem gemotref1_made.eq (t : ByteArray) : gemotref1_made_p.f t = gemotref1_made.f t := by
  unfold gemotref1_made_p.f gemotref1_Right.f gemotref1_made.f wholeF
  by_cases c : 20000 < t.size
  · rw [if_pos c, if_pos (by omega)]
  · rw [if_neg c, if_neg (by omega), if_pos (by omega)]
    simp only [Option.bind_some]
    split <;> rfl
theorem gemotref1_made.calls (a0 : ByteArray) (r1 : ByteArray) (r2 : Int) (w : World) (h : gemotref1_made.f a0 = some (r1, r2)) :
    Calls Try.prog 139 #[.string a0] w fun e w' => e = .returned (.tuple #[.string r1, .int .i64 r2]) ∧ Below w.heap.size w w' :=
  gemotref1_made_p.calls a0 r1 r2 w ((gemotref1_made.eq a0).trans h)
end Go.Proofs.Ytpfpmjdifnoeoaa.F
namespace Go.Proofs.Ytpfpmjdifnoeoaa.F
open Go.RowKit Go.Proofs.YtpfpmjdifnoeoaaW.PrintWords Go.Proofs.YtpfpmjdifnoeoaaW.PrintLast Go.Proofs.YtpfpmjdifnoeoaaW.PrintMore
attribute [local go_sem] max2_int min2_int max_two min_two max_three min_three max_four min_four
set_option linter.unusedVariables false
set_option linter.unusedSimpArgs false
open Go.Proofs.Ytpfpmjdifnoeoaa.Pure
end Go.Proofs.Ytpfpmjdifnoeoaa.F
namespace Go.Proofs.Ytpfpmjdifnoeoaa.F
open Go.RowKit Go.Proofs.YtpfpmjdifnoeoaaW.PrintWords Go.Proofs.YtpfpmjdifnoeoaaW.PrintLast Go.Proofs.YtpfpmjdifnoeoaaW.PrintMore
attribute [local go_sem] max2_int min2_int max_two min_two max_three min_three max_four min_four
set_option linter.unusedVariables false
set_option linter.unusedSimpArgs false
open Go.Proofs.Ytpfpmjdifnoeoaa.Pure
end Go.Proofs.Ytpfpmjdifnoeoaa.F
namespace Go.Proofs.Ytpfpmjdifnoeoaa.F
open Go.RowKit Go.Proofs.YtpfpmjdifnoeoaaW.PrintWords Go.Proofs.YtpfpmjdifnoeoaaW.PrintLast Go.Proofs.YtpfpmjdifnoeoaaW.PrintMore
attribute [local go_sem] max2_int min2_int max_two min_two max_three min_three max_four min_four
set_option linter.unusedVariables false
set_option linter.unusedSimpArgs false
end Go.Proofs.Ytpfpmjdifnoeoaa.F
namespace Go.Proofs.Ytpfpmjdifnoeoaa.F
open Go.RowKit Go.Proofs.YtpfpmjdifnoeoaaW.PrintWords Go.Proofs.YtpfpmjdifnoeoaaW.PrintLast Go.Proofs.YtpfpmjdifnoeoaaW.PrintMore
attribute [local go_sem] max2_int min2_int max_two min_two max_three min_three max_four min_four
set_option linter.unusedVariables false
set_option linter.unusedSimpArgs false
def gemotref1_Of_p.l0 : Nat → List ByteArray → ByteArray → Int → Option (ByteArray × Int)
  | 0, _, _, _ => none
  | k + 1, x1, x6, x7 => if x7 < (x1.length : Int) then (if 0 ≤ x7 then ((gemotref1_Right.f (rdOf ByteArray.empty x1 x7)).bind fun t1002 => (if t1002 = true then (if x6.size + (rdOf ByteArray.empty x1 x7).size ≤ 9223372036854775807 then (gemotref1_Of_p.l0 k x1 (x6 ++ (rdOf ByteArray.empty x1 x7)) (wrap64 (x7 + 1))) else (none)) else (some ((⟨#[]⟩ : ByteArray), 1)))) else (none)) else ((gemotref1_made.f x6).bind fun bt1004 => (some (bt1004.1, bt1004.2)))
def gemotref1_Of_p.f (k : Nat) (a0 : ByteArray) (l1 : List ByteArray) : Option (ByteArray × Int) := gemotref1_Of_p.l0 k l1 a0 0
set_option maxHeartbeats 8000000 in
set_option maxRecDepth 100000 in
theorem gemotref1_Of_p.calls (k : Nat) (a0 : ByteArray) (A1 : Option Addr) (c1 : Nat) (l1 : List ByteArray) (r1 : ByteArray) (r2 : Int) (w : World) (hr1 : Kd.C Kd.string w A1 l1.length l1) (hc1 : l1.length ≤ c1) (h : gemotref1_Of_p.f k a0 l1 = some (r1, r2)) :
    Calls Try.prog 93 #[.string a0, .slice A1 l1.length c1] w fun e w' => e = .returned (.tuple #[.string r1, .int .i64 r2]) ∧ Below w.heap.size w w' := by
  have HR1 := Aside0.mk hr1
  have HC1 := Aside0.mk hc1
  clear hr1 hc1
  have HB := Aside0.mk (Below.refl w.heap.size w)
  have H : (gemotref1_Of_p.l0 k l1 a0 0) = some (r1, r2) := h
  clear h
  have H' := Aside0.mk H
  clear H
  go_enter Try.func93, Try.ntmps93
  go_wp2
  go_loopg [6, 7] k (fun kq v6 v7 w' => ∃ (x6_1 : ByteArray) (x7_1 : Int), v6 = .string x6_1 ∧ v7 = .int .i64 x7_1 ∧ Aside0 (gemotref1_Of_p.l0 kq l1 x6_1 x7_1 = some (r1, r2)) ∧ Aside0 (kq ≤ k) ∧ Aside0 (Below w.heap.size w w'))
  case atStart => exact ⟨(a0), (0), (by first | rfl | (simp; done) | (simp [*]; done)), (by first | rfl | (simp; done) | (simp [*]; done)), H', ⟨Nat.le_refl _⟩, ⟨by repeat (first | (with_reducible first | exact HB.out | apply below_alloc | apply pw_below_drewN | apply below_drew1) | exact HB.out)⟩⟩
  case round =>
    clear H'
    try clear c1
    try clear p2
    obtain ⟨x6_1, x7_1, rfl, rfl, HA, HK1, HB⟩ := hrel
    cases gk with
    | zero => exact absurd HA.out (by simp [gemotref1_Of_p.l0])
    | succ k1 =>
      have H := HA.out
      clear HA
      simp only [gemotref1_Of_p.l0] at H
      by_cases c3 : x7_1 < (l1.length : Int)
      · rw [if_pos c3] at H
        have c3b0 : decide (x7_1 < (l1.length : Int)) = true := decide_eq_true c3
        clear c3
        by_cases c4 : 0 ≤ x7_1
        · rw [if_pos c4] at H
          have c4b0 : decide (0 ≤ x7_1) = true := decide_eq_true c4
          clear c4
          replace H := Option.bind_eq_some_iff.mp H
          obtain ⟨t1002, A50, H⟩ := H
          replace H : (if t1002 = true then (if x6_1.size + (rdOf ByteArray.empty l1 x7_1).size ≤ 9223372036854775807 then (gemotref1_Of_p.l0 k1 l1 (x6_1 ++ (rdOf ByteArray.empty l1 x7_1)) (wrap64 (x7_1 + 1))) else (none)) else (some ((⟨#[]⟩ : ByteArray), 1))) = some (r1, r2) := H
          have A5 := Aside0.mk A50
          clear A50
          by_cases c6 : t1002 = true
          · subst c6
            have H1 : (if x6_1.size + (rdOf ByteArray.empty l1 x7_1).size ≤ 9223372036854775807 then (gemotref1_Of_p.l0 k1 l1 (x6_1 ++ (rdOf ByteArray.empty l1 x7_1)) (wrap64 (x7_1 + 1))) else (none)) = some (r1, r2) := by rw [if_pos rfl] at H; exact H
            clear H
            have H := H1
            clear H1
            by_cases c7 : x6_1.size + (rdOf ByteArray.empty l1 x7_1).size ≤ 9223372036854775807
            · rw [if_pos c7] at H
              have c7b0 := eq_true c7
              have c7b1 : decide (x6_1.size + (rdOf ByteArray.empty l1 x7_1).size ≤ 9223372036854775807) = true := decide_eq_true c7
              try have c7b2 : (9223372036854775807 < x6_1.size + (rdOf ByteArray.empty l1 x7_1).size) = False := eq_false (Nat.not_lt.2 c7)
              have H' := Aside0.mk H
              clear H
              have p1001 : 0 ≤ (x7_1 : Int) := of_decide_eq_true (by first | (with_reducible assumption) | assumption)
              have q1001 : x7_1 < (l1.length : Int) := of_decide_eq_true (by first | (with_reducible assumption) | assumption)
              obtain ⟨ad1001, e1001, hx1001_0⟩ := Kd.at_string HR1.out x7_1 p1001 q1001
              cases e1001
              replace hx1001_0 := (HB.out.cell (World.block_lt_of_cell? w _ hx1001_0)).trans hx1001_0
              replace p1001 := eq_true p1001
              replace q1001 := eq_true q1001
              go_wp2_with (first | ((with_reducible refine gate_callee (f := 114) rfl ?_); refine goesL_ (some 19) rfl rfl Try.func114 (by kernel_rfl) rfl #[.string (rdOf ByteArray.empty l1 x7_1)] rfl (by simp only [List.map_toArray, List.map_cons, List.map_nil] <;> rfl) ?_; (with_reducible refine (gemotref1_Right.calls (rdOf ByteArray.empty l1 x7_1) true _ A5.out).mono ?_); rintro e w8 ⟨rfl, hb⟩; refine ⟨_, rfl, ?_⟩; have n0_ := Aside0.mk (below_step (by repeat with_reducible first | exact HB.out | apply below_alloc | apply pw_below_drewN | apply below_drew1) hb); clear HB; have HB := n0_; clear n0_; (try clear hb); have p1003 : 0 ≤ (x7_1 : Int) := of_decide_eq_true (by assumption); have q1003 : x7_1 < (l1.length : Int) := of_decide_eq_true (by assumption); obtain ⟨ad1003, e1003, hx1003_0⟩ := Kd.at_string HR1.out x7_1 p1003 q1003; obtain rfl : ad1001 = ad1003 := (by injection e1003); replace hx1003_0 := (HB.out.cell (World.block_lt_of_cell? w _ hx1003_0)).trans hx1003_0; replace p1003 := eq_true p1003; replace q1003 := eq_true q1003))
              go_roundg k1
              case measure => have := HK1.out; omega
              case rel => exact ⟨(x6_1 ++ (rdOf ByteArray.empty l1 x7_1)), (wrap64 (x7_1 + 1)), (by first | rfl | (simp; done) | (simp [*]; done)), (by first | rfl | (simp; done) | (simp [*]; done)), H', ⟨by have := HK1.out; omega⟩, ⟨by repeat (first | (with_reducible first | exact HB.out | apply below_alloc | apply pw_below_drewN | apply below_drew1) | exact HB.out)⟩⟩
            · rw [if_neg c7] at H
              exact absurd H (by simp)
          · replace c6 := Bool.eq_false_iff.mpr c6
            subst c6
            have H1 : (some ((⟨#[]⟩ : ByteArray), 1)) = some (r1, r2) := by rw [if_neg (show ¬ (false = true) by decide)] at H; exact H
            clear H
            have H := H1
            clear H1
            simp only [Option.some.injEq, Prod.mk.injEq] at H
            obtain ⟨rfl, rfl⟩ := H
            have p1001 : 0 ≤ (x7_1 : Int) := of_decide_eq_true (by first | (with_reducible assumption) | assumption)
            have q1001 : x7_1 < (l1.length : Int) := of_decide_eq_true (by first | (with_reducible assumption) | assumption)
            obtain ⟨ad1001, e1001, hx1001_0⟩ := Kd.at_string HR1.out x7_1 p1001 q1001
            cases e1001
            replace hx1001_0 := (HB.out.cell (World.block_lt_of_cell? w _ hx1001_0)).trans hx1001_0
            replace p1001 := eq_true p1001
            replace q1001 := eq_true q1001
            go_wp2_with (first | ((with_reducible refine gate_callee (f := 114) rfl ?_); refine goesL_ (some 19) rfl rfl Try.func114 (by kernel_rfl) rfl #[.string (rdOf ByteArray.empty l1 x7_1)] rfl (by simp only [List.map_toArray, List.map_cons, List.map_nil] <;> rfl) ?_; (with_reducible refine (gemotref1_Right.calls (rdOf ByteArray.empty l1 x7_1) false _ A5.out).mono ?_); rintro e w9 ⟨rfl, hb⟩; refine ⟨_, rfl, ?_⟩; have n0_ := Aside0.mk (below_step (by repeat with_reducible first | exact HB.out | apply below_alloc | apply pw_below_drewN | apply below_drew1) hb); clear HB; have HB := n0_; clear n0_; (try clear hb)))
            go_ret2
            exact ⟨by first | rfl | (simp [errW_none, errW_some] <;> rfl) | (simp [*, errW_none, errW_some] <;> rfl), by repeat (first | (with_reducible first | exact HB.out | apply below_alloc | apply pw_below_drewN | apply below_drew1) | exact HB.out)⟩
        · rw [if_neg c4] at H
          exact absurd H (by simp)
      · rw [if_neg c3] at H
        have c3b0 : decide (x7_1 < (l1.length : Int)) = false := decide_eq_false c3
        clear c3
        replace H := Option.bind_eq_some_iff.mp H
        obtain ⟨⟨t1004, t1005⟩, A100, H⟩ := H
        replace H : (some (t1004, t1005)) = some (r1, r2) := H
        have A10 := Aside0.mk A100
        clear A100
        simp only [Option.some.injEq, Prod.mk.injEq] at H
        obtain ⟨rfl, rfl⟩ := H
        go_wp2_with (first | ((with_reducible refine gate_callee (f := 139) rfl ?_); refine goesL_ (some 28) rfl rfl Try.func139 (by kernel_rfl) rfl #[.string x6_1] rfl (by simp only [List.map_toArray, List.map_cons, List.map_nil] <;> rfl) ?_; (with_reducible refine (gemotref1_made.calls x6_1 t1004 t1005 _ A10.out).mono ?_); rintro e w11 ⟨rfl, hb⟩; refine ⟨_, rfl, ?_⟩; have n0_ := Aside0.mk (below_step (by repeat with_reducible first | exact HB.out | apply below_alloc | apply pw_below_drewN | apply below_drew1) hb); clear HB; have HB := n0_; clear n0_; (try clear hb)))
        go_ret2
        exact ⟨by first | rfl | (simp [errW_none, errW_some] <;> rfl) | (simp [*, errW_none, errW_some] <;> rfl), by repeat (first | (with_reducible first | exact HB.out | apply below_alloc | apply pw_below_drewN | apply below_drew1) | exact HB.out)⟩
def gemotref1_Of.f (h : ByteArray) (l : List ByteArray) : Option (ByteArray × Int) := if h.size ≤ 100 ∧ l.length ≤ 3 ∧ ∀ x ∈ l, x.size < 9223372036854775808 then some (ofF h l) else none
theorem gemotref1_Of.loop (l : List ByteArray) (hl : l.length ≤ 3) (hx : ∀ x ∈ l, x.size < 9223372036854775808) : ∀ (d k i : Nat) (h : ByteArray), i + d = l.length → d < k → h.size ≤ 100 + i * 20000 →
    gemotref1_Of_p.l0 k l h i = some (ofF h (l.drop i))
  | d, 0, _, _, _, hk, _ => by omega
  | 0, k + 1, i, h, hi, _, _ => by
    simp only [gemotref1_Of_p.l0]
    rw [if_neg (by omega), List.drop_eq_nil_of_le (by omega)]
    unfold gemotref1_made.f
    rfl
  | d + 1, k + 1, i, h, hi, hk, hs => by
    simp only [gemotref1_Of_p.l0]
    have hil : i < l.length := by omega
    have e : rdOf ByteArray.empty l (i : Int) = l[i] := by simp [rdOf, List.getD_eq_getElem?_getD, hil]
    rw [if_pos (by omega), if_pos (by omega), e, List.drop_eq_getElem_cons hil]
    unfold gemotref1_Right.f
    rw [if_pos (hx _ (List.getElem_mem hil))]
    simp only [Option.bind_some]
    unfold ofF
    rw [List.all_cons]
    by_cases c : rightB l[i] = true
    · have := right_pos c
      rw [if_pos c, if_pos (by omega), show wrap64 ((i : Int) + 1) = ((i + 1 : Nat) : Int) by unfold wrap64; omega, gemotref1_Of.loop l hl hx d k (i + 1) _ (by omega) (by omega) (by rw [ByteArray.size_append]; omega), c]
      rfl
    · have c' : rightB l[i] = false := by simpa using c
      rw [if_neg c, c']
      rfl
theorem gemotref1_Of.eq (h : ByteArray) (l : List ByteArray) (r : ByteArray × Int) (e : gemotref1_Of.f h l = some r) : gemotref1_Of_p.f 5 h l = some r := by
  unfold gemotref1_Of.f at e
  split at e
  case isFalse => cases e
  rename_i hs
  rw [← e]
  unfold gemotref1_Of_p.f
  have := gemotref1_Of.loop l hs.2.1 hs.2.2 l.length 5 0 h (by omega) (by omega) (by omega)
  rwa [List.drop_zero] at this
theorem gemotref1_Of.calls (a0 : ByteArray) (A1 : Option Addr) (c1 : Nat) (l1 : List ByteArray) (r1 : ByteArray) (r2 : Int) (w : World) (hr1 : Kd.C Kd.string w A1 l1.length l1) (hc1 : l1.length ≤ c1) (h : gemotref1_Of.f a0 l1 = some (r1, r2)) :
    Calls Try.prog 93 #[.string a0, .slice A1 l1.length c1] w fun e w' => e = .returned (.tuple #[.string r1, .int .i64 r2]) ∧ Below w.heap.size w w' :=
  gemotref1_Of_p.calls 5 a0 A1 c1 l1 r1 r2 w hr1 hc1 (gemotref1_Of.eq a0 l1 _ h)
end Go.Proofs.Ytpfpmjdifnoeoaa.F
