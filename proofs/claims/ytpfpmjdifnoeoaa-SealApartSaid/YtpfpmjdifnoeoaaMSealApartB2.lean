/- The program's functions that put terms together, and plain facts about these; no condition. -/
import Derived.Test.YtpfpmjdifnoeoaaMSealApartF0
import Derived.Test.YtpfpmjdifnoeoaaMSealApartB1
import Derived.Deep.RegionWith
import Derived.Test.YtpfpmjdifnoeoaaMSealApartShelf
import Derived.Sort.OwnSorted
import Derived.Lib.OwnBridge
import Derived.Sort.Walk0
namespace Go.Proofs.Ytpfpmjdifnoeoaa.F
open Go.RowKit Go.Proofs.YtpfpmjdifnoeoaaW.PrintWords Go.Proofs.YtpfpmjdifnoeoaaW.PrintLast Go.Proofs.YtpfpmjdifnoeoaaW.PrintMore
attribute [local go_sem] max2_int min2_int max_two min_two max_three min_three max_four min_four
set_option linter.unusedVariables false
set_option linter.unusedSimpArgs false
theorem right_pos {t : ByteArray} (h : rightB t = true) : 0 < t.size ∧ t.size ≤ 20000 := by
  unfold rightB at h
  rw [decide_eq_true_eq] at h
  have := scanF_end h.1
  omega
end Go.Proofs.Ytpfpmjdifnoeoaa.F
namespace Go.Proofs.Ytpfpmjdifnoeoaa.F
open Go.RowKit Go.Proofs.YtpfpmjdifnoeoaaW.PrintWords Go.Proofs.YtpfpmjdifnoeoaaW.PrintLast Go.Proofs.YtpfpmjdifnoeoaaW.PrintMore
attribute [local go_sem] max2_int min2_int max_two min_two max_three min_three max_four min_four
set_option linter.unusedVariables false
set_option linter.unusedSimpArgs false
end Go.Proofs.Ytpfpmjdifnoeoaa.F
namespace Go.Proofs.Ytpfpmjdifnoeoaa.F
open Go.RowKit Go.Proofs.YtpfpmjdifnoeoaaW.PrintWords Go.Proofs.YtpfpmjdifnoeoaaW.PrintLast Go.Proofs.YtpfpmjdifnoeoaaW.PrintMore
attribute [local go_sem] max2_int min2_int max_two min_two max_three min_three max_four min_four
set_option linter.unusedVariables false
set_option linter.unusedSimpArgs false
def term_whole_p.f (a0 : ByteArray) : Option (ByteArray × Int) := if (a0.size : Int) > 20000 then (some ((⟨#[]⟩ : ByteArray), 3)) else ((term_Right.f a0).bind fun t1001 => (if t1001 = true then (some (a0, 0)) else (some ((⟨#[]⟩ : ByteArray), 4))))
set_option maxHeartbeats 8000000 in
set_option maxRecDepth 100000 in
theorem term_whole_p.calls (a0 : ByteArray) (r1 : ByteArray) (r2 : Int) (w : World) (h : term_whole_p.f a0 = some (r1, r2)) :
    Calls Try.prog 135 #[.string a0] w fun e w' => e = .returned (.tuple #[.string r1, .int .i64 r2]) ∧ Below w.heap.size w w' := by
  have HB := Aside0.mk (Below.refl w.heap.size w)
  have H : (if (a0.size : Int) > 20000 then (some ((⟨#[]⟩ : ByteArray), 3)) else ((term_Right.f a0).bind fun t1001 => (if t1001 = true then (some (a0, 0)) else (some ((⟨#[]⟩ : ByteArray), 4))))) = some (r1, r2) := h
  clear h
  by_cases c2 : (a0.size : Int) > 20000
  · rw [if_pos c2] at H
    have c2b0 : decide (20000 < (a0.size : Int)) = true := decide_eq_true c2
    have c2b1 : decide (20000 < a0.size) = true := decide_eq_true (by omega)
    clear c2
    simp only [Option.some.injEq, Prod.mk.injEq] at H
    obtain ⟨rfl, rfl⟩ := H
    go_enter Try.func135, Try.ntmps135
    go_wp2
    go_ret2
    exact ⟨by first | rfl | (simp [errW_none, errW_some] <;> rfl) | (simp [*, errW_none, errW_some] <;> rfl), by repeat (first | (with_reducible first | exact HB.out | apply below_alloc | apply pw_below_drewN | apply below_drew1) | exact HB.out)⟩
  · rw [if_neg c2] at H
    have c2b0 : decide (20000 < (a0.size : Int)) = false := decide_eq_false c2
    have c2b1 : decide (20000 < a0.size) = false := decide_eq_false (by omega)
    clear c2
    replace H := Option.bind_eq_some_iff.mp H
    obtain ⟨t1001, A30, H⟩ := H
    replace H : (if t1001 = true then (some (a0, 0)) else (some ((⟨#[]⟩ : ByteArray), 4))) = some (r1, r2) := H
    have A3 := Aside0.mk A30
    clear A30
    by_cases c4 : t1001 = true
    · subst c4
      have H1 : (some (a0, 0)) = some (r1, r2) := by rw [if_pos rfl] at H; exact H
      clear H
      have H := H1
      clear H1
      simp only [Option.some.injEq, Prod.mk.injEq] at H
      obtain ⟨rfl, rfl⟩ := H
      go_enter Try.func135, Try.ntmps135
      go_wp2_with (first | ((with_reducible refine gate_callee (f := 66) rfl ?_); refine goesL_ (some 8) rfl rfl Try.func66 (by kernel_rfl) rfl #[.string a0] rfl (by simp only [List.map_toArray, List.map_cons, List.map_nil] <;> rfl) ?_; (with_reducible refine (term_Right.calls a0 true _ A3.out).mono ?_); rintro e w5 ⟨rfl, hb⟩; refine ⟨_, rfl, ?_⟩; have n0_ := Aside0.mk (below_step (by repeat with_reducible first | exact HB.out | apply below_alloc | apply pw_below_drewN | apply below_drew1) hb); clear HB; have HB := n0_; clear n0_; (try clear hb)))
      go_ret2
      exact ⟨by first | rfl | (simp [errW_none, errW_some] <;> rfl) | (simp [*, errW_none, errW_some] <;> rfl), by repeat (first | (with_reducible first | exact HB.out | apply below_alloc | apply pw_below_drewN | apply below_drew1) | exact HB.out)⟩
    · replace c4 := Bool.eq_false_iff.mpr c4
      subst c4
      have H1 : (some ((⟨#[]⟩ : ByteArray), 4)) = some (r1, r2) := by rw [if_neg (show ¬ (false = true) by decide)] at H; exact H
      clear H
      have H := H1
      clear H1
      simp only [Option.some.injEq, Prod.mk.injEq] at H
      obtain ⟨rfl, rfl⟩ := H
      go_enter Try.func135, Try.ntmps135
      go_wp2_with (first | ((with_reducible refine gate_callee (f := 66) rfl ?_); refine goesL_ (some 8) rfl rfl Try.func66 (by kernel_rfl) rfl #[.string a0] rfl (by simp only [List.map_toArray, List.map_cons, List.map_nil] <;> rfl) ?_; (with_reducible refine (term_Right.calls a0 false _ A3.out).mono ?_); rintro e w6 ⟨rfl, hb⟩; refine ⟨_, rfl, ?_⟩; have n0_ := Aside0.mk (below_step (by repeat with_reducible first | exact HB.out | apply below_alloc | apply pw_below_drewN | apply below_drew1) hb); clear HB; have HB := n0_; clear n0_; (try clear hb)))
      go_ret2
      exact ⟨by first | rfl | (simp [errW_none, errW_some] <;> rfl) | (simp [*, errW_none, errW_some] <;> rfl), by repeat (first | (with_reducible first | exact HB.out | apply below_alloc | apply pw_below_drewN | apply below_drew1) | exact HB.out)⟩
def wholeF (t : ByteArray) : ByteArray × Int := if 20000 < t.size then (⟨#[]⟩, 3) else if rightB t = true then (t, 0) else (⟨#[]⟩, 4)
def term_whole.f (t : ByteArray) : Option (ByteArray × Int) := some (wholeF t)
theorem term_whole.eq (t : ByteArray) : term_whole_p.f t = term_whole.f t := by
  unfold term_whole_p.f term_Right.f term_whole.f wholeF
  by_cases c : 20000 < t.size
  · rw [if_pos c, if_pos (by omega)]
  · rw [if_neg c, if_neg (by omega), if_pos (by omega)]
    simp only [Option.bind_some]
    split <;> rfl
theorem term_whole.calls (a0 : ByteArray) (r1 : ByteArray) (r2 : Int) (w : World) (h : term_whole.f a0 = some (r1, r2)) :
    Calls Try.prog 135 #[.string a0] w fun e w' => e = .returned (.tuple #[.string r1, .int .i64 r2]) ∧ Below w.heap.size w w' :=
  term_whole_p.calls a0 r1 r2 w ((term_whole.eq a0).trans h)
end Go.Proofs.Ytpfpmjdifnoeoaa.F
namespace Go.Proofs.Ytpfpmjdifnoeoaa.F
open Go.RowKit Go.Proofs.YtpfpmjdifnoeoaaW.PrintWords Go.Proofs.YtpfpmjdifnoeoaaW.PrintLast Go.Proofs.YtpfpmjdifnoeoaaW.PrintMore
attribute [local go_sem] max2_int min2_int max_two min_two max_three min_three max_four min_four
set_option linter.unusedVariables false
set_option linter.unusedSimpArgs false
end Go.Proofs.Ytpfpmjdifnoeoaa.F
namespace Go.Proofs.Ytpfpmjdifnoeoaa.F
open Go.RowKit Go.Proofs.YtpfpmjdifnoeoaaW.PrintWords Go.Proofs.YtpfpmjdifnoeoaaW.PrintLast Go.Proofs.YtpfpmjdifnoeoaaW.PrintMore
attribute [local go_sem] max2_int min2_int max_two min_two max_three min_three max_four min_four
set_option linter.unusedVariables false
set_option linter.unusedSimpArgs false
end Go.Proofs.Ytpfpmjdifnoeoaa.F
namespace Go.Proofs.Ytpfpmjdifnoeoaa.F
open Go.RowKit Go.Proofs.YtpfpmjdifnoeoaaW.PrintWords Go.Proofs.YtpfpmjdifnoeoaaW.PrintLast Go.Proofs.YtpfpmjdifnoeoaaW.PrintMore
attribute [local go_sem] max2_int min2_int max_two min_two max_three min_three max_four min_four
set_option linter.unusedVariables false
set_option linter.unusedSimpArgs false
def term_of_p.l0 : Nat → ByteArray → List ByteArray → Int → Int → Option (ByteArray × Int)
  | 0, _, _, _, _ => none
  | k + 1, x0, x8, x9, x10 => if x10 < x9 then (if 0 ≤ x10 then (if x10 < (x8.length : Int) then ((term_Right.f (rdOf ByteArray.empty x8 x10)).bind fun t1002 => (if t1002 = true then (if x0.size + (rdOf ByteArray.empty x8 x10).size ≤ 9223372036854775807 then (term_of_p.l0 k (x0 ++ (rdOf ByteArray.empty x8 x10)) x8 x9 (wrap64 (x10 + 1))) else (none)) else (some ((⟨#[]⟩ : ByteArray), 1)))) else (none)) else (none)) else ((term_whole.f x0).bind fun bt1003 => (some (bt1003.1, bt1003.2)))
def term_of_p.f (k : Nat) (a0 : ByteArray) (l1 : List ByteArray) : Option (ByteArray × Int) := term_of_p.l0 k a0 l1 (l1.length : Int) 0
set_option maxHeartbeats 8000000 in
set_option maxRecDepth 100000 in
theorem term_of_p.calls (k : Nat) (a0 : ByteArray) (A1 : Option Addr) (c1 : Nat) (l1 : List ByteArray) (r1 : ByteArray) (r2 : Int) (w : World) (hr1 : Kd.C Kd.string w A1 l1.length l1) (hc1 : l1.length ≤ c1) (h : term_of_p.f k a0 l1 = some (r1, r2)) :
    Calls Try.prog 141 #[.string a0, .slice A1 l1.length c1] w fun e w' => e = .returned (.tuple #[.string r1, .int .i64 r2]) ∧ Below w.heap.size w w' := by
  have HR1 := Aside0.mk hr1
  have HC1 := Aside0.mk hc1
  clear hr1 hc1
  have HB := Aside0.mk (Below.refl w.heap.size w)
  have H : (term_of_p.l0 k a0 l1 (l1.length : Int) 0) = some (r1, r2) := h
  clear h
  have H' := Aside0.mk H
  clear H
  go_enter Try.func141, Try.ntmps141
  go_wp2
  go_loopg [0, 10] k (fun kq v0 v10 w' => ∃ (x0_1 : ByteArray) (x10_1 : Int), v0 = .string x0_1 ∧ v10 = .int .i64 x10_1 ∧ Aside0 (term_of_p.l0 kq x0_1 l1 (l1.length : Int) x10_1 = some (r1, r2)) ∧ Aside0 (kq ≤ k) ∧ Aside0 (Below w.heap.size w w'))
  case atStart => exact ⟨(a0), (0), (by first | rfl | (simp; done) | (simp [*]; done)), (by first | rfl | (simp; done) | (simp [*]; done)), H', ⟨Nat.le_refl _⟩, ⟨by repeat (first | (with_reducible first | exact HB.out | apply below_alloc | apply pw_below_drewN | apply below_drew1) | exact HB.out)⟩⟩
  case round =>
    clear H'
    try clear c1
    try clear p2
    obtain ⟨x0_1, x10_1, rfl, rfl, HA, HK1, HB⟩ := hrel
    cases gk with
    | zero => exact absurd HA.out (by simp [term_of_p.l0])
    | succ k1 =>
      have H := HA.out
      clear HA
      simp only [term_of_p.l0] at H
      by_cases c3 : x10_1 < (l1.length : Int)
      · rw [if_pos c3] at H
        have c3b0 : decide (x10_1 < (l1.length : Int)) = true := decide_eq_true c3
        clear c3
        by_cases c4 : 0 ≤ x10_1
        · rw [if_pos c4] at H
          have c4b0 : decide (0 ≤ x10_1) = true := decide_eq_true c4
          clear c4
          by_cases c5 : x10_1 < (l1.length : Int)
          · rw [if_pos c5] at H
            have c5b0 : decide (x10_1 < (l1.length : Int)) = true := decide_eq_true c5
            clear c5
            replace H := Option.bind_eq_some_iff.mp H
            obtain ⟨t1002, A60, H⟩ := H
            replace H : (if t1002 = true then (if x0_1.size + (rdOf ByteArray.empty l1 x10_1).size ≤ 9223372036854775807 then (term_of_p.l0 k1 (x0_1 ++ (rdOf ByteArray.empty l1 x10_1)) l1 (l1.length : Int) (wrap64 (x10_1 + 1))) else (none)) else (some ((⟨#[]⟩ : ByteArray), 1))) = some (r1, r2) := H
            have A6 := Aside0.mk A60
            clear A60
            by_cases c7 : t1002 = true
            · subst c7
              have H1 : (if x0_1.size + (rdOf ByteArray.empty l1 x10_1).size ≤ 9223372036854775807 then (term_of_p.l0 k1 (x0_1 ++ (rdOf ByteArray.empty l1 x10_1)) l1 (l1.length : Int) (wrap64 (x10_1 + 1))) else (none)) = some (r1, r2) := by rw [if_pos rfl] at H; exact H
              clear H
              have H := H1
              clear H1
              by_cases c8 : x0_1.size + (rdOf ByteArray.empty l1 x10_1).size ≤ 9223372036854775807
              · rw [if_pos c8] at H
                have c8b0 := eq_true c8
                have c8b1 : decide (x0_1.size + (rdOf ByteArray.empty l1 x10_1).size ≤ 9223372036854775807) = true := decide_eq_true c8
                try have c8b2 : (9223372036854775807 < x0_1.size + (rdOf ByteArray.empty l1 x10_1).size) = False := eq_false (Nat.not_lt.2 c8)
                have H' := Aside0.mk H
                clear H
                have p1001 : 0 ≤ (x10_1 : Int) := of_decide_eq_true (by first | (with_reducible assumption) | assumption)
                have q1001 : x10_1 < (l1.length : Int) := of_decide_eq_true (by first | (with_reducible assumption) | assumption)
                obtain ⟨ad1001, e1001, hx1001_0⟩ := Kd.at_string HR1.out x10_1 p1001 q1001
                cases e1001
                replace hx1001_0 := (HB.out.cell (World.block_lt_of_cell? w _ hx1001_0)).trans hx1001_0
                replace p1001 := eq_true p1001
                replace q1001 := eq_true q1001
                go_wp2_with (first | ((with_reducible refine gate_callee (f := 66) rfl ?_); refine goesL_ (some 15) rfl rfl Try.func66 (by kernel_rfl) rfl #[.string (rdOf ByteArray.empty l1 x10_1)] rfl (by simp only [List.map_toArray, List.map_cons, List.map_nil] <;> rfl) ?_; (with_reducible refine (term_Right.calls (rdOf ByteArray.empty l1 x10_1) true _ A6.out).mono ?_); rintro e w9 ⟨rfl, hb⟩; refine ⟨_, rfl, ?_⟩; have n0_ := Aside0.mk (below_step (by repeat with_reducible first | exact HB.out | apply below_alloc | apply pw_below_drewN | apply below_drew1) hb); clear HB; have HB := n0_; clear n0_; (try clear hb)))
                go_roundg k1
                case measure => have := HK1.out; omega
                case rel => exact ⟨(x0_1 ++ (rdOf ByteArray.empty l1 x10_1)), (wrap64 (x10_1 + 1)), (by first | rfl | (simp; done) | (simp [*]; done)), (by first | rfl | (simp; done) | (simp [*]; done)), H', ⟨by have := HK1.out; omega⟩, ⟨by repeat (first | (with_reducible first | exact HB.out | apply below_alloc | apply pw_below_drewN | apply below_drew1) | exact HB.out)⟩⟩
              · rw [if_neg c8] at H
                exact absurd H (by simp)
            · replace c7 := Bool.eq_false_iff.mpr c7
              subst c7
              have H1 : (some ((⟨#[]⟩ : ByteArray), 1)) = some (r1, r2) := by rw [if_neg (show ¬ (false = true) by decide)] at H; exact H
              clear H
              have H := H1
              clear H1
              simp only [Option.some.injEq, Prod.mk.injEq] at H
              obtain ⟨rfl, rfl⟩ := H
              have p1001 : 0 ≤ (x10_1 : Int) := of_decide_eq_true (by first | (with_reducible assumption) | assumption)
              have q1001 : x10_1 < (l1.length : Int) := of_decide_eq_true (by first | (with_reducible assumption) | assumption)
              obtain ⟨ad1001, e1001, hx1001_0⟩ := Kd.at_string HR1.out x10_1 p1001 q1001
              cases e1001
              replace hx1001_0 := (HB.out.cell (World.block_lt_of_cell? w _ hx1001_0)).trans hx1001_0
              replace p1001 := eq_true p1001
              replace q1001 := eq_true q1001
              go_wp2_with (first | ((with_reducible refine gate_callee (f := 66) rfl ?_); refine goesL_ (some 15) rfl rfl Try.func66 (by kernel_rfl) rfl #[.string (rdOf ByteArray.empty l1 x10_1)] rfl (by simp only [List.map_toArray, List.map_cons, List.map_nil] <;> rfl) ?_; (with_reducible refine (term_Right.calls (rdOf ByteArray.empty l1 x10_1) false _ A6.out).mono ?_); rintro e w10 ⟨rfl, hb⟩; refine ⟨_, rfl, ?_⟩; have n0_ := Aside0.mk (below_step (by repeat with_reducible first | exact HB.out | apply below_alloc | apply pw_below_drewN | apply below_drew1) hb); clear HB; have HB := n0_; clear n0_; (try clear hb)))
              go_ret2
              exact ⟨by first | rfl | (simp [errW_none, errW_some] <;> rfl) | (simp [*, errW_none, errW_some] <;> rfl), by repeat (first | (with_reducible first | exact HB.out | apply below_alloc | apply pw_below_drewN | apply below_drew1) | exact HB.out)⟩
          · rw [if_neg c5] at H
            exact absurd H (by simp)
        · rw [if_neg c4] at H
          exact absurd H (by simp)
      · rw [if_neg c3] at H
        have c3b0 : decide (x10_1 < (l1.length : Int)) = false := decide_eq_false c3
        clear c3
        replace H := Option.bind_eq_some_iff.mp H
        obtain ⟨⟨t1003, t1004⟩, A110, H⟩ := H
        replace H : (some (t1003, t1004)) = some (r1, r2) := H
        have A11 := Aside0.mk A110
        clear A110
        simp only [Option.some.injEq, Prod.mk.injEq] at H
        obtain ⟨rfl, rfl⟩ := H
        go_wp2_with (first | ((with_reducible refine gate_callee (f := 135) rfl ?_); refine goesL_ (some 22) rfl rfl Try.func135 (by kernel_rfl) rfl #[.string x0_1] rfl (by simp only [List.map_toArray, List.map_cons, List.map_nil] <;> rfl) ?_; (with_reducible refine (term_whole.calls x0_1 t1003 t1004 _ A11.out).mono ?_); rintro e w12 ⟨rfl, hb⟩; refine ⟨_, rfl, ?_⟩; have n0_ := Aside0.mk (below_step (by repeat with_reducible first | exact HB.out | apply below_alloc | apply pw_below_drewN | apply below_drew1) hb); clear HB; have HB := n0_; clear n0_; (try clear hb)))
        go_ret2
        exact ⟨by first | rfl | (simp [errW_none, errW_some] <;> rfl) | (simp [*, errW_none, errW_some] <;> rfl), by repeat (first | (with_reducible first | exact HB.out | apply below_alloc | apply pw_below_drewN | apply below_drew1) | exact HB.out)⟩
def addF (h : ByteArray) (l : List ByteArray) : ByteArray := l.foldl (· ++ ·) h
def ofF (h : ByteArray) (l : List ByteArray) : ByteArray × Int := if l.all rightB = true then wholeF (addF h l) else (⟨#[]⟩, 1)
def term_of.f (h : ByteArray) (l : List ByteArray) : Option (ByteArray × Int) := if h.size ≤ 100 ∧ l.length ≤ 3 ∧ ∀ x ∈ l, x.size < 9223372036854775808 then some (ofF h l) else none
theorem term_of.loop (l : List ByteArray) (hl : l.length ≤ 3) (hx : ∀ x ∈ l, x.size < 9223372036854775808) : ∀ (d k i : Nat) (h : ByteArray), i + d = l.length → d < k → h.size ≤ 100 + i * 20000 →
    term_of_p.l0 k h l (l.length : Int) i = some (ofF h (l.drop i))
  | d, 0, _, _, _, hk, _ => by omega
  | 0, k + 1, i, h, hi, _, _ => by
    simp only [term_of_p.l0]
    rw [if_neg (by omega), List.drop_eq_nil_of_le (by omega)]
    unfold term_whole.f
    rfl
  | d + 1, k + 1, i, h, hi, hk, hs => by
    simp only [term_of_p.l0]
    have hil : i < l.length := by omega
    have e : rdOf ByteArray.empty l (i : Int) = l[i] := by simp [rdOf, List.getD_eq_getElem?_getD, hil]
    rw [if_pos (by omega), if_pos (by omega), if_pos (by omega), e, List.drop_eq_getElem_cons hil]
    unfold term_Right.f
    rw [if_pos (hx _ (List.getElem_mem hil))]
    simp only [Option.bind_some]
    unfold ofF
    rw [List.all_cons]
    by_cases c : rightB l[i] = true
    · have := right_pos c
      rw [if_pos c, if_pos (by omega), show wrap64 ((i : Int) + 1) = ((i + 1 : Nat) : Int) by unfold wrap64; omega, term_of.loop l hl hx d k (i + 1) _ (by omega) (by omega) (by rw [ByteArray.size_append]; omega), c]
      rfl
    · have c' : rightB l[i] = false := by simpa using c
      rw [if_neg c, c']
      rfl
theorem term_of.eq (h : ByteArray) (l : List ByteArray) (r : ByteArray × Int) (e : term_of.f h l = some r) : term_of_p.f 5 h l = some r := by
  unfold term_of.f at e
  split at e
  case isFalse => cases e
  rename_i hs
  rw [← e]
  unfold term_of_p.f
  have := term_of.loop l hs.2.1 hs.2.2 l.length 5 0 h (by omega) (by omega) (by omega)
  rwa [List.drop_zero] at this
theorem term_of.calls (a0 : ByteArray) (A1 : Option Addr) (c1 : Nat) (l1 : List ByteArray) (r1 : ByteArray) (r2 : Int) (w : World) (hr1 : Kd.C Kd.string w A1 l1.length l1) (hc1 : l1.length ≤ c1) (h : term_of.f a0 l1 = some (r1, r2)) :
    Calls Try.prog 141 #[.string a0, .slice A1 l1.length c1] w fun e w' => e = .returned (.tuple #[.string r1, .int .i64 r2]) ∧ Below w.heap.size w w' :=
  term_of_p.calls 5 a0 A1 c1 l1 r1 r2 w hr1 hc1 (term_of.eq a0 l1 _ h)
end Go.Proofs.Ytpfpmjdifnoeoaa.F
namespace Go.Proofs.Ytpfpmjdifnoeoaa.F
open Go.RowKit Go.Proofs.YtpfpmjdifnoeoaaW.PrintWords Go.Proofs.YtpfpmjdifnoeoaaW.PrintLast Go.Proofs.YtpfpmjdifnoeoaaW.PrintMore
attribute [local go_sem] max2_int min2_int max_two min_two max_three min_three max_four min_four
set_option linter.unusedVariables false
set_option linter.unusedSimpArgs false
def term_Pair_p.f (a0 : ByteArray) (a1 : ByteArray) : Option (ByteArray × Int) := (term_of.f (⟨#[112]⟩ : ByteArray) (([a0, a1] : List ByteArray))).bind fun bt1004 => (some (bt1004.1, bt1004.2))
set_option maxHeartbeats 8000000 in
set_option maxRecDepth 100000 in
theorem term_Pair_p.calls (a0 : ByteArray) (a1 : ByteArray) (r1 : ByteArray) (r2 : Int) (w : World) (h : term_Pair_p.f a0 a1 = some (r1, r2)) :
    Calls Try.prog 92 #[.string a0, .string a1] w fun e w' => e = .returned (.tuple #[.string r1, .int .i64 r2]) ∧ Below w.heap.size w w' := by
  have HB := Aside0.mk (Below.refl w.heap.size w)
  have H : ((term_of.f (⟨#[112]⟩ : ByteArray) (([a0, a1] : List ByteArray))).bind fun bt1004 => (some (bt1004.1, bt1004.2))) = some (r1, r2) := h
  clear h
  obtain ⟨y1001, hy1001⟩ : ∃ y_ : List ByteArray, y_ = (([a0, a1] : List ByteArray)) := ⟨_, rfl⟩
  replace H : ((term_of.f (⟨#[112]⟩ : ByteArray) y1001).bind fun bt1004 => (some (bt1004.1, bt1004.2))) = some (r1, r2) := by first | (rw [hy1001]; with_reducible exact H) | (have H2_ := (Option.bind_some _ _).symm.trans H; rw [hy1001]; with_reducible exact H2_) | (have H2_ := (Option.bind_some _ _).symm.trans H; with_reducible exact H2_) | with_reducible exact H | (rw [hy1001]; exact H) | exact H
  have Ny1001 := Aside0.mk hy1001
  clear hy1001
  replace H := Option.bind_eq_some_iff.mp H
  obtain ⟨⟨t1004, t1005⟩, A30, H⟩ := H
  replace H : (some (t1004, t1005)) = some (r1, r2) := H
  have A3 := Aside0.mk A30
  clear A30
  simp only [Option.some.injEq, Prod.mk.injEq] at H
  obtain ⟨rfl, rfl⟩ := H
  go_enter Try.func92, Try.ntmps92
  go_wp2_with (first | ((with_reducible refine gate_dst (N := 8) rfl ?_); refine Kd.R_lit Kd.string _ 23 ?hg (N := 8) ?hd (xs := ([a0, a1] : List ByteArray)) (inner := [.string a0, .string a1]) (ok := fun _ => True) (okp := fun _ => True) ?hr ?hp (fun _ hk => hk) trivial (Below.refl _ _) (Nat.le_refl _) (by simp) ?_; (case hd => rfl); (case hg => rfl); (case hr => first | (go_simp; done) | (go_simp; rfl)); (case hp => exact (Reps.one (show Kd.M Kd.string _ _ _ a0 [.string a0] from rfl) (Reps.one (show Kd.M Kd.string _ _ _ a1 [.string a1] from rfl) (Reps.none _ _)))); intro v1002 w4 ho5 hb hg_ hnew_; clear hg_ hnew_; (first | rw [← Ny1001.out] at ho5 | (simp only [Int.reduceToNat] at ho5; rw [← Ny1001.out] at ho5)); have n0_ := Aside0.mk (Kd.R_lower ho5 (below_size (by repeat with_reducible first | exact HB.out | apply below_alloc | apply pw_below_drewN | apply below_drew1))); have n1_ := Aside0.mk (below_step (by repeat with_reducible first | exact HB.out | apply below_alloc | apply pw_below_drewN | apply below_drew1) hb); clear HB; have HO1003 := n0_; have HB := n1_; clear n0_ n1_; clear hb ho5; obtain ⟨Ao6, co6, eo6⟩ := Kd.R_slice HO1003.out; subst eo6) | ((with_reducible refine gate_callee (f := 141) rfl ?_); refine goesL_ (some 9) rfl rfl Try.func141 (by kernel_rfl) rfl #[.string (⟨#[112]⟩ : ByteArray), .slice Ao6 y1001.length co6] rfl (by (try simp only [List.map_toArray, List.map_cons, List.map_nil]); first | done | rfl | (simp only [List.length_drop, List.length_take]; rfl)) ?_; (with_reducible refine (term_of.calls (⟨#[112]⟩ : ByteArray) _ _ y1001 t1004 t1005 _ ?side1 ?side2 A3.out).mono ?_); (case side1 => repeat (first | exact (Kd.R_reads' HO1003.out).2.2 | (with_reducible refine Kd.C_alloc ?_ _) | (with_reducible refine Kd.C_drewN ?_ _) | (with_reducible refine Kd.C_drew ?_))); (case side2 => exact (Kd.R_reads' HO1003.out).2.1); rintro e w7 ⟨rfl, hb⟩; refine ⟨_, rfl, ?_⟩; have n0_ := Aside0.mk (Kd.R_below (by (with_reducible repeat (first | apply Kd.R_alloc | apply Kd.R_drewN | apply Kd.R_drew)); exact HO1003.out) hb); have n1_ := Aside0.mk (below_step (by repeat with_reducible first | exact HB.out | apply below_alloc | apply pw_below_drewN | apply below_drew1) hb); clear HO1003; clear HB; have HO1003 := n0_; have HB := n1_; clear n0_ n1_; (try clear hb)))
  go_ret2
  exact ⟨by first | rfl | (simp [errW_none, errW_some] <;> rfl) | (simp [*, errW_none, errW_some] <;> rfl), by repeat (first | (with_reducible first | exact HB.out | apply below_alloc | apply pw_below_drewN | apply below_drew1) | exact HB.out)⟩
def pairF (a0 : ByteArray) (a1 : ByteArray) : ByteArray × Int := ofF ⟨#[112]⟩ [a0, a1]
def term_Pair.f (a0 : ByteArray) (a1 : ByteArray) : Option (ByteArray × Int) := if a0.size < 9223372036854775808 ∧ a1.size < 9223372036854775808 then some (pairF a0 a1) else none
theorem term_Pair.eq (a0 : ByteArray) (a1 : ByteArray) (h : a0.size < 9223372036854775808 ∧ a1.size < 9223372036854775808) : term_Pair_p.f a0 a1 = term_Pair.f a0 a1 := by
  unfold term_Pair_p.f term_of.f term_Pair.f
  rw [if_pos h, if_pos ⟨by show 1 ≤ 100; omega, by simp, by simp; omega⟩]
  rfl
theorem term_Pair.calls (a0 : ByteArray) (a1 : ByteArray) (r1 : ByteArray) (r2 : Int) (w : World) (h : term_Pair.f a0 a1 = some (r1, r2)) :
    Calls Try.prog 92 #[.string a0, .string a1] w fun e w' => e = .returned (.tuple #[.string r1, .int .i64 r2]) ∧ Below w.heap.size w w' := by
  have hs : a0.size < 9223372036854775808 ∧ a1.size < 9223372036854775808 := by
    unfold term_Pair.f at h
    split at h
    · assumption
    · cases h
  exact term_Pair_p.calls a0 a1 r1 r2 w ((term_Pair.eq a0 a1 hs).trans h)
end Go.Proofs.Ytpfpmjdifnoeoaa.F
namespace Go.Proofs.Ytpfpmjdifnoeoaa.F
open Go.RowKit Go.Proofs.YtpfpmjdifnoeoaaW.PrintWords Go.Proofs.YtpfpmjdifnoeoaaW.PrintLast Go.Proofs.YtpfpmjdifnoeoaaW.PrintMore
attribute [local go_sem] max2_int min2_int max_two min_two max_three min_three max_four min_four
set_option linter.unusedVariables false
set_option linter.unusedSimpArgs false
end Go.Proofs.Ytpfpmjdifnoeoaa.F
namespace Go.Proofs.Ytpfpmjdifnoeoaa.F
open Go.RowKit Go.Proofs.YtpfpmjdifnoeoaaW.PrintWords Go.Proofs.YtpfpmjdifnoeoaaW.PrintLast Go.Proofs.YtpfpmjdifnoeoaaW.PrintMore
attribute [local go_sem] max2_int min2_int max_two min_two max_three min_three max_four min_four
set_option linter.unusedVariables false
set_option linter.unusedSimpArgs false
def term_Seal_p.f (a0 : ByteArray) (a1 : ByteArray) (a2 : ByteArray) : Option (ByteArray × Int) := (term_of.f (⟨#[115]⟩ : ByteArray) (([a0, a1, a2] : List ByteArray))).bind fun bt1004 => (some (bt1004.1, bt1004.2))
set_option maxHeartbeats 8000000 in
set_option maxRecDepth 100000 in
theorem term_Seal_p.calls (a0 : ByteArray) (a1 : ByteArray) (a2 : ByteArray) (r1 : ByteArray) (r2 : Int) (w : World) (h : term_Seal_p.f a0 a1 a2 = some (r1, r2)) :
    Calls Try.prog 95 #[.string a0, .string a1, .string a2] w fun e w' => e = .returned (.tuple #[.string r1, .int .i64 r2]) ∧ Below w.heap.size w w' := by
  have HB := Aside0.mk (Below.refl w.heap.size w)
  have H : ((term_of.f (⟨#[115]⟩ : ByteArray) (([a0, a1, a2] : List ByteArray))).bind fun bt1004 => (some (bt1004.1, bt1004.2))) = some (r1, r2) := h
  clear h
  obtain ⟨y1001, hy1001⟩ : ∃ y_ : List ByteArray, y_ = (([a0, a1, a2] : List ByteArray)) := ⟨_, rfl⟩
  replace H : ((term_of.f (⟨#[115]⟩ : ByteArray) y1001).bind fun bt1004 => (some (bt1004.1, bt1004.2))) = some (r1, r2) := by first | (rw [hy1001]; with_reducible exact H) | (have H2_ := (Option.bind_some _ _).symm.trans H; rw [hy1001]; with_reducible exact H2_) | (have H2_ := (Option.bind_some _ _).symm.trans H; with_reducible exact H2_) | with_reducible exact H | (rw [hy1001]; exact H) | exact H
  have Ny1001 := Aside0.mk hy1001
  clear hy1001
  replace H := Option.bind_eq_some_iff.mp H
  obtain ⟨⟨t1004, t1005⟩, A40, H⟩ := H
  replace H : (some (t1004, t1005)) = some (r1, r2) := H
  have A4 := Aside0.mk A40
  clear A40
  simp only [Option.some.injEq, Prod.mk.injEq] at H
  obtain ⟨rfl, rfl⟩ := H
  go_enter Try.func95, Try.ntmps95
  go_wp2_with (first | ((with_reducible refine gate_dst (N := 11) rfl ?_); refine Kd.R_lit Kd.string _ 23 ?hg (N := 11) ?hd (xs := ([a0, a1, a2] : List ByteArray)) (inner := [.string a0, .string a1, .string a2]) (ok := fun _ => True) (okp := fun _ => True) ?hr ?hp (fun _ hk => hk) trivial (Below.refl _ _) (Nat.le_refl _) (by simp) ?_; (case hd => rfl); (case hg => rfl); (case hr => first | (go_simp; done) | (go_simp; rfl)); (case hp => exact (Reps.one (show Kd.M Kd.string _ _ _ a0 [.string a0] from rfl) (Reps.one (show Kd.M Kd.string _ _ _ a1 [.string a1] from rfl) (Reps.one (show Kd.M Kd.string _ _ _ a2 [.string a2] from rfl) (Reps.none _ _))))); intro v1002 w5 ho6 hb hg_ hnew_; clear hg_ hnew_; (first | rw [← Ny1001.out] at ho6 | (simp only [Int.reduceToNat] at ho6; rw [← Ny1001.out] at ho6)); have n0_ := Aside0.mk (Kd.R_lower ho6 (below_size (by repeat with_reducible first | exact HB.out | apply below_alloc | apply pw_below_drewN | apply below_drew1))); have n1_ := Aside0.mk (below_step (by repeat with_reducible first | exact HB.out | apply below_alloc | apply pw_below_drewN | apply below_drew1) hb); clear HB; have HO1003 := n0_; have HB := n1_; clear n0_ n1_; clear hb ho6; obtain ⟨Ao7, co7, eo7⟩ := Kd.R_slice HO1003.out; subst eo7) | ((with_reducible refine gate_callee (f := 141) rfl ?_); refine goesL_ (some 12) rfl rfl Try.func141 (by kernel_rfl) rfl #[.string (⟨#[115]⟩ : ByteArray), .slice Ao7 y1001.length co7] rfl (by (try simp only [List.map_toArray, List.map_cons, List.map_nil]); first | done | rfl | (simp only [List.length_drop, List.length_take]; rfl)) ?_; (with_reducible refine (term_of.calls (⟨#[115]⟩ : ByteArray) _ _ y1001 t1004 t1005 _ ?side1 ?side2 A4.out).mono ?_); (case side1 => repeat (first | exact (Kd.R_reads' HO1003.out).2.2 | (with_reducible refine Kd.C_alloc ?_ _) | (with_reducible refine Kd.C_drewN ?_ _) | (with_reducible refine Kd.C_drew ?_))); (case side2 => exact (Kd.R_reads' HO1003.out).2.1); rintro e w8 ⟨rfl, hb⟩; refine ⟨_, rfl, ?_⟩; have n0_ := Aside0.mk (Kd.R_below (by (with_reducible repeat (first | apply Kd.R_alloc | apply Kd.R_drewN | apply Kd.R_drew)); exact HO1003.out) hb); have n1_ := Aside0.mk (below_step (by repeat with_reducible first | exact HB.out | apply below_alloc | apply pw_below_drewN | apply below_drew1) hb); clear HO1003; clear HB; have HO1003 := n0_; have HB := n1_; clear n0_ n1_; (try clear hb)))
  go_ret2
  exact ⟨by first | rfl | (simp [errW_none, errW_some] <;> rfl) | (simp [*, errW_none, errW_some] <;> rfl), by repeat (first | (with_reducible first | exact HB.out | apply below_alloc | apply pw_below_drewN | apply below_drew1) | exact HB.out)⟩
def sealF (a0 : ByteArray) (a1 : ByteArray) (a2 : ByteArray) : ByteArray × Int := ofF ⟨#[115]⟩ [a0, a1, a2]
def term_Seal.f (a0 : ByteArray) (a1 : ByteArray) (a2 : ByteArray) : Option (ByteArray × Int) := if a0.size < 9223372036854775808 ∧ a1.size < 9223372036854775808 ∧ a2.size < 9223372036854775808 then some (sealF a0 a1 a2) else none
theorem term_Seal.eq (a0 : ByteArray) (a1 : ByteArray) (a2 : ByteArray) (h : a0.size < 9223372036854775808 ∧ a1.size < 9223372036854775808 ∧ a2.size < 9223372036854775808) : term_Seal_p.f a0 a1 a2 = term_Seal.f a0 a1 a2 := by
  unfold term_Seal_p.f term_of.f term_Seal.f
  rw [if_pos h, if_pos ⟨by show 1 ≤ 100; omega, by simp, by simp; omega⟩]
  rfl
theorem term_Seal.calls (a0 : ByteArray) (a1 : ByteArray) (a2 : ByteArray) (r1 : ByteArray) (r2 : Int) (w : World) (h : term_Seal.f a0 a1 a2 = some (r1, r2)) :
    Calls Try.prog 95 #[.string a0, .string a1, .string a2] w fun e w' => e = .returned (.tuple #[.string r1, .int .i64 r2]) ∧ Below w.heap.size w w' := by
  have hs : a0.size < 9223372036854775808 ∧ a1.size < 9223372036854775808 ∧ a2.size < 9223372036854775808 := by
    unfold term_Seal.f at h
    split at h
    · assumption
    · cases h
  exact term_Seal_p.calls a0 a1 a2 r1 r2 w ((term_Seal.eq a0 a1 a2 hs).trans h)
end Go.Proofs.Ytpfpmjdifnoeoaa.F
namespace Go.Proofs.Ytpfpmjdifnoeoaa.F
open Go.RowKit Go.Proofs.YtpfpmjdifnoeoaaW.PrintWords Go.Proofs.YtpfpmjdifnoeoaaW.PrintLast Go.Proofs.YtpfpmjdifnoeoaaW.PrintMore
attribute [local go_sem] max2_int min2_int max_two min_two max_three min_three max_four min_four
set_option linter.unusedVariables false
set_option linter.unusedSimpArgs false
end Go.Proofs.Ytpfpmjdifnoeoaa.F
namespace Go.Proofs.Ytpfpmjdifnoeoaa.F
open Go.RowKit Go.Proofs.YtpfpmjdifnoeoaaW.PrintWords Go.Proofs.YtpfpmjdifnoeoaaW.PrintLast Go.Proofs.YtpfpmjdifnoeoaaW.PrintMore
attribute [local go_sem] max2_int min2_int max_two min_two max_three min_three max_four min_four
set_option linter.unusedVariables false
set_option linter.unusedSimpArgs false
end Go.Proofs.Ytpfpmjdifnoeoaa.F
namespace Go.Proofs.Ytpfpmjdifnoeoaa.Pure
set_option linter.unusedVariables false
set_option linter.unusedSimpArgs false
open Go.RowKit Go.Proofs.Ytpfpmjdifnoeoaa.F Go.Proofs.YtpfpmjdifnoeoaaW.PrintWords Go.Proofs.YtpfpmjdifnoeoaaW.PrintLast
def bl (s : ByteArray) : List UInt8 := s.data.toList
theorem bl_inj {a b : ByteArray} (h : bl a = bl b) : a = b := ByteArray.ext (Array.ext' h)
theorem bl_app (a b : ByteArray) : bl (a ++ b) = bl a ++ bl b := by simp [bl, ByteArray.data_append]
theorem deepest_le {m dep : Int} {ts : List ByteArray} (h : ∀ t ∈ ts, depF t ≤ m) (hd : dep ≤ m) : deepest dep ts ≤ m := by
  unfold deepest
  induction ts generalizing dep with
  | nil => exact hd
  | cons t ts ih =>
    rw [List.foldl_cons]
    exact ih (fun x hx => h x (List.mem_cons_of_mem _ hx)) (by have := h t List.mem_cons_self; unfold mx; split <;> omega)
theorem le_deepest {dep : Int} {ts : List ByteArray} : dep ≤ deepest dep ts ∧ ∀ t ∈ ts, depF t ≤ deepest dep ts := by
  unfold deepest
  induction ts generalizing dep with
  | nil => exact ⟨Int.le_refl _, by simp⟩
  | cons t ts ih =>
    rw [List.foldl_cons]
    have h1 := @ih (mx dep (depF t))
    have h2 : dep ≤ mx dep (depF t) ∧ depF t ≤ mx dep (depF t) := by unfold mx; split <;> omega
    refine ⟨by omega, fun x hx => ?_⟩
    rcases List.mem_cons.mp hx with rfl | hx
    · omega
    · exact h1.2 x hx
theorem cat_mem_size {t : ByteArray} : ∀ {ts : List ByteArray}, t ∈ ts → t.size ≤ (cat ts).size
  | x :: ts, h => by
    rw [cat, ByteArray.size_append]
    rcases List.mem_cons.mp h with rfl | h
    · omega
    · have := cat_mem_size h; omega
theorem bt_head {t h : ByteArray} {ts : List ByteArray} {pow : Bool} (n : Node t h ts pow) : bt t 0 = bt h 0 := by
  rw [n.eq]
  exact bt_left h (cat ts) 0 n.head.pos
theorem Node.body {t h : ByteArray} {ts : List ByteArray} {pow : Bool} (n : Node t h ts pow) : t.extract h.size t.size = cat ts := by
  have := (Lies.last h (cat ts)).whole
  rw [← n.eq, ← ByteArray.size_append, ← n.eq] at this
  exact this
theorem Node.small {t h : ByteArray} {ts : List ByteArray} {pow : Bool} (n : Node t h ts pow) (hs : t.size ≤ 20000) : ∀ x ∈ ts, Tm x ∧ x.size ≤ 20000 := by
  intro x hx
  have h1 := cat_mem_size hx
  have h2 : t.size = h.size + (cat ts).size := by rw [n.eq, ByteArray.size_append]
  exact ⟨(n.parts x hx).1, by omega⟩
theorem leaf_bytes {t : ByteArray} (h : Leaf t) : bt t 0 = 103 ∨ bt t 0 = 110 ∨ bt t 0 = 117 ∨ bt t 0 = 105 ∨ bt t 0 = 116 := by
  have := h.1
  unfold leafF at this
  repeat' split at this
  all_goals first | omega | (exact absurd rfl this)
theorem node_bytes {t h : ByteArray} {ts : List ByteArray} {pow : Bool} (n : Node t h ts pow) : bt t 0 = 107 ∨ bt t 0 = 104 ∨ bt t 0 = 112 ∨ bt t 0 = 120 ∨ bt t 0 = 115 ∨ (bt t 0 = 101 ∧ pow = true) := by
  rw [bt_head n]
  cases n.head
  · exact .inl rfl
  · exact .inr (.inl rfl)
  · exact .inr (.inr (.inl rfl))
  · exact .inr (.inr (.inr (.inl rfl)))
  · exact .inr (.inr (.inr (.inr (.inl rfl))))
  · exact .inr (.inr (.inr (.inr (.inr ⟨rfl, rfl⟩))))
theorem node_right {t h : ByteArray} {ts : List ByteArray} {pow : Bool} (n : Node t h ts pow) (hs : t.size ≤ 20000) : rightB t = true := (right_iff t).mpr ⟨n.tm.1, hs⟩
theorem addF_cat (h : ByteArray) (l : List ByteArray) : addF h l = h ++ cat l := by
  unfold addF
  induction l generalizing h with
  | nil => rw [List.foldl_nil, cat, app_nil]
  | cons x l ih => rw [List.foldl_cons, ih, cat, app_assoc]
theorem ofF_ok {h : ByteArray} {l : List ByteArray} (hl : ∀ x ∈ l, rightB x = true) : ofF h l = wholeF (h ++ cat l) := by
  unfold ofF
  rw [if_pos (List.all_eq_true.mpr hl), addF_cat]
end Go.Proofs.Ytpfpmjdifnoeoaa.Pure
namespace Go.Proofs.Ytpfpmjdifnoeoaa.Pure
set_option linter.unusedVariables false
set_option linter.unusedSimpArgs false
open Go.RowKit Go.Proofs.Ytpfpmjdifnoeoaa.F Go.Proofs.YtpfpmjdifnoeoaaW.PrintWords Go.Proofs.YtpfpmjdifnoeoaaW.PrintLast
theorem leaf_of {t : ByteArray} (h : leafF t = t.size) (h0 : 0 < t.size) : Leaf t := ⟨by omega, h⟩
theorem Leaf.right {t : ByteArray} (h : Leaf t) (hs : t.size ≤ 20000) : rightB t = true := (right_iff t).mpr ⟨h.tm.1, hs⟩
theorem num_leaf (n : Int) : Leaf (numF n) := by
  have b0 : bt (numF n) 0 = 117 := rfl
  have hz : (numF n).size = 9 := rfl
  exact leaf_of (by unfold leafF; rw [b0, hz]; rfl) (by omega)
theorem name_leaf (n : Int) : Leaf (nameF n) := by
  have b0 : bt (nameF n) 0 = 110 := rfl
  have hz : (nameF n).size = 9 := rfl
  exact leaf_of (by unfold leafF; rw [b0, hz]; rfl) (by omega)
theorem name_size (n : Int) : (nameF n).size = 9 := rfl
theorem text_bytes (s : ByteArray) (h : s.size ≤ 100) : bt (strOfNums [116, 0, s.size] ++ s) 0 = 116 ∧ bt (strOfNums [116, 0, s.size] ++ s) 1 = 0 ∧ bt (strOfNums [116, 0, s.size] ++ s) 2 = s.size ∧ (strOfNums [116, 0, s.size] ++ s).size = 3 + s.size := by
  have hz : (strOfNums [116, 0, (s.size : Int)]).size = 3 := rfl
  refine ⟨bt_left _ s 0 (by omega), bt_left _ s 1 (by omega), (bt_left _ s 2 (by omega)).trans ?_, by rw [ByteArray.size_append, hz]⟩
  have h4 : bt (strOfNums [116, 0, (s.size : Int)]) ((2 : Nat) : Int) = ((UInt8.ofNat ((s.size : Int)).toNat).toNat : Int) := rfl
  rw [h4, UInt8.toNat_ofNat_of_lt' (by show ((s.size : Int)).toNat < 256; omega)]
  omega
theorem text_ok {s : ByteArray} (h : s.size ≤ 100) : textF s = (strOfNums [116, 0, s.size] ++ s, 0) ∧ Leaf (strOfNums [116, 0, s.size] ++ s) := by
  refine ⟨by unfold textF; rw [if_neg (by omega)], ?_⟩
  obtain ⟨b0, b1, b2, hz⟩ := text_bytes s h
  refine leaf_of ?_ (by omega)
  unfold leafF
  rw [b0, b1, b2, hz]
  simp only [show ¬ ((116 : Int) = 103) from by decide, show ¬ ((116 : Int) = 110 ∨ (116 : Int) = 117) from by decide, show ¬ ((116 : Int) = 105) from by decide, if_false, if_true]
  rw [if_pos ⟨by omega, trivial, by omega, by omega⟩]
  omega
theorem mem2 {P : ByteArray → Prop} {a b : ByteArray} (ha : P a) (hb : P b) : ∀ x ∈ [a, b], P x := by
  intro x hx
  rcases List.mem_cons.mp hx with rfl | hx
  · exact ha
  · rw [List.mem_singleton.mp hx]; exact hb
theorem mem3 {P : ByteArray → Prop} {a b c : ByteArray} (ha : P a) (hb : P b) (hc : P c) : ∀ x ∈ [a, b, c], P x := by
  intro x hx
  rcases List.mem_cons.mp hx with rfl | hx
  · exact ha
  · exact mem2 hb hc x hx
structure Part (m : Int) (t : ByteArray) : Prop where
  right : rightB t = true
  dep : depF t ≤ m
theorem Part.tm {m : Int} {t : ByteArray} (h : Part m t) : Tm t := ((right_iff t).mp h.right).1
theorem Part.size {m : Int} {t : ByteArray} (h : Part m t) : t.size ≤ 20000 := ((right_iff t).mp h.right).2
theorem Part.mono {m n : Int} {t : ByteArray} (h : Part m t) (hmn : m ≤ n) : Part n t := ⟨h.right, by have := h.dep; omega⟩
theorem Leaf.part {t : ByteArray} (h : Leaf t) (hs : t.size ≤ 20000) {m : Int} (hm : 1 ≤ m) : Part m t := ⟨h.right hs, by rw [h.tm.2]; exact hm⟩
theorem node_made {m : Int} (hm : m ≤ 399) {h : ByteArray} {ts : List ByteArray} {pow : Bool} (hh : HeadOf h ts pow) (hp : ∀ x ∈ ts, Part m x) (hr : pow = true → Rises ⟨#[]⟩ ts) (h0 : 0 ≤ m) :
    Node (h ++ cat ts) h ts pow ∧ depF (h ++ cat ts) ≤ m + 1 := by
  have n : Node (h ++ cat ts) h ts pow := ⟨rfl, hh, fun x hx => ⟨(hp x hx).tm, by have := (hp x hx).dep; omega⟩, hr⟩
  refine ⟨n, ?_⟩
  rw [n.tm.2]
  have := deepest_le (m := m) (dep := 0) (ts := ts) (fun t ht => (hp t ht).dep) h0
  omega
theorem ofF_made {m : Int} (hm : m ≤ 399) (h0 : 0 ≤ m) {h : ByteArray} {ts : List ByteArray} (hh : HeadOf h ts false) (hp : ∀ x ∈ ts, Part m x) :
    ofF h ts = (if 20000 < (h ++ cat ts).size then (⟨#[]⟩, 3) else (h ++ cat ts, 0)) ∧ ((h ++ cat ts).size ≤ 20000 → Part (m + 1) (h ++ cat ts)) := by
  obtain ⟨n, hd⟩ := node_made hm hh hp (fun h => absurd h (by simp)) h0
  rw [ofF_ok (fun x hx => (hp x hx).right)]
  refine ⟨?_, fun hs => ⟨node_right n hs, hd⟩⟩
  unfold wholeF
  split
  · rfl
  · rw [if_pos (node_right n (by omega))]
theorem cat1 (a : ByteArray) : cat [a] = a := by simp only [cat]; exact app_nil a
theorem cat2 (a b : ByteArray) : cat [a, b] = a ++ b := by rw [cat, cat1]
theorem cat3 (a b c : ByteArray) : cat [a, b, c] = a ++ (b ++ c) := by rw [cat, cat2]
theorem pair_made {m : Int} (hm : m ≤ 399) (h0 : 0 ≤ m) {a b : ByteArray} (ha : Part m a) (hb : Part m b) (hs : a.size + b.size < 20000) : pairF a b = ((⟨#[112]⟩ : ByteArray) ++ cat [a, b], 0) ∧ Part (m + 1) ((⟨#[112]⟩ : ByteArray) ++ cat [a, b]) := by
  have hz : ((⟨#[112]⟩ : ByteArray) ++ cat [a, b]).size = 1 + (a.size + b.size) := by rw [cat2, ByteArray.size_append, ByteArray.size_append]; rfl
  have := ofF_made hm h0 (HeadOf.pair a b) (mem2 ha hb)
  exact ⟨by unfold pairF; rw [this.1, if_neg (by omega)], this.2 (by omega)⟩
theorem seal_made {m : Int} (hm : m ≤ 399) (h0 : 0 ≤ m) {a b c : ByteArray} (ha : Part m a) (hb : Part m b) (hc : Part m c) (hs : a.size + b.size + c.size < 20000) : sealF a b c = ((⟨#[115]⟩ : ByteArray) ++ cat [a, b, c], 0) ∧ Part (m + 1) ((⟨#[115]⟩ : ByteArray) ++ cat [a, b, c]) := by
  have hz : ((⟨#[115]⟩ : ByteArray) ++ cat [a, b, c]).size = 1 + (a.size + (b.size + c.size)) := by rw [cat3, ByteArray.size_append, ByteArray.size_append, ByteArray.size_append]; rfl
  have := ofF_made hm h0 (HeadOf.sealed a b c) (mem3 ha hb hc)
  exact ⟨by unfold sealF; rw [this.1, if_neg (by omega)], this.2 (by omega)⟩
def absF (c : Int) : Int := if c < 0 then -(c + 1) else c
def pickF (c n : Int) : Int := absF c % n
theorem pickF_range (c : Int) {n : Int} (h : 0 < n) : 0 ≤ pickF c n ∧ pickF c n < n := ⟨Int.emod_nonneg _ (by omega), Int.emod_lt_of_pos _ h⟩
def atF (l : List ByteArray) (i : Int) : ByteArray := rdOf ByteArray.empty l i
structure MadeOk (out : List ByteArray) : Prop where
  two : 2 ≤ out.length
  small : ∀ t ∈ out, t.size ≤ 600
  part : ∀ t ∈ out, Part out.length t
theorem atF_mem {l : List ByteArray} {i : Int} (h0 : 0 ≤ i) (h : i < l.length) : atF l i ∈ l := by
  unfold atF rdOf
  rw [List.getD_eq_getElem?_getD, List.getElem?_eq_getElem (by omega)]
  exact List.getElem_mem _
theorem MadeOk.at_ {out : List ByteArray} (h : MadeOk out) (hl : out.length ≤ 42) (c : Int) : Part 42 (atF out (pickF c out.length)) ∧ (atF out (pickF c out.length)).size ≤ 600 := by
  have h2 := h.two
  have hpos : (0 : Int) < (out.length : Int) := by omega
  have hm : atF out (pickF c out.length) ∈ out := atF_mem (pickF_range c hpos).1 (pickF_range c hpos).2
  exact ⟨(h.part _ hm).mono (by omega), h.small _ hm⟩
end Go.Proofs.Ytpfpmjdifnoeoaa.Pure
namespace Go.Proofs.Ytpfpmjdifnoeoaa.Pure
set_option linter.unusedVariables false
set_option linter.unusedSimpArgs false
open Go.RowKit Go.Proofs.Ytpfpmjdifnoeoaa.F Go.Proofs.YtpfpmjdifnoeoaaW.PrintWords Go.Proofs.YtpfpmjdifnoeoaaW.PrintLast Go.Proofs.YtpfpmjdifnoeoaaW.PrintMore
theorem rg64 {a : Int} (h : (Lit.int .i64 a).wf = true) : -9223372036854775808 ≤ a ∧ a ≤ 9223372036854775807 := by
  simp only [Lit.wf, IntKind.min, IntKind.max, IntKind.signed, IntKind.bits, Bool.and_eq_true, decide_eq_true_eq, if_true, Bool.false_eq_true, if_false] at h
  omega
theorem tl_eq {a b : ByteArray} : a.toList = b.toList ↔ a = b :=
  ⟨fun h => by rw [ByteArray.toList_eq, ByteArray.toList_eq] at h; exact ByteArray.ext (Array.ext' h), fun h => by rw [h]⟩
theorem text_inj {s t : ByteArray} (hs : s.size ≤ 100) (ht : t.size ≤ 100) (h : (textF s).1 = (textF t).1) : s = t := by
  rw [(text_ok hs).1, (text_ok ht).1] at h
  have h2 := congrArg bl h
  rw [bl_app, bl_app] at h2
  exact bl_inj (List.append_inj h2 rfl).2
end Go.Proofs.Ytpfpmjdifnoeoaa.Pure
