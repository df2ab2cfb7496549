/- The program's functions that put terms together, and plain facts about these; no condition. -/
import Derived.Test.YtppimpadfgldjaaF0
import Derived.Test.YtppimpadfgldjaaB1
import Derived.Deep.RegionWith
import Derived.Test.YtppimpadfgldjaaShelf
import Derived.Sort.OwnSorted
import Derived.Lib.OwnBridge
import Derived.Sort.Walk0
namespace Go.Proofs.Ytppimpadfgldjaa.F
open Go.RowKit Go.Proofs.YtppimpadfgldjaaW.PrintWords Go.Proofs.YtppimpadfgldjaaW.PrintLast Go.Proofs.YtppimpadfgldjaaW.PrintMore
attribute [local go_sem] max2_int min2_int max_two min_two max_three min_three max_four min_four
set_option linter.unusedVariables false
set_option linter.unusedSimpArgs false

/-! ### term_element: function 129 -/
/-! #### term_element_p: function 129 -/
def term_element_p.f (a0 : ByteArray) : Option (Bool) := (term_Right.f a0).bind fun t1001 => (if t1001 = true then (if 0 < (a0.size : Int) then (if (bt a0 0) = 103 then (some true) else (some ((bt a0 0) == 101))) else (none)) else (some false))
set_option maxHeartbeats 8000000 in
set_option maxRecDepth 100000 in
theorem term_element_p.calls (a0 : ByteArray) (r : Bool) (w : World) (h : term_element_p.f a0 = some r) :
    Calls Try.prog 129 #[.string a0] w fun e w' => e = .returned (.bool r) ∧ Below w.heap.size w w' := by
  have HB := Aside0.mk (Below.refl w.heap.size w)
  have H : ((term_Right.f a0).bind fun t1001 => (if t1001 = true then (if 0 < (a0.size : Int) then (if (bt a0 0) = 103 then (some true) else (some ((bt a0 0) == 101))) else (none)) else (some false))) = some r := h
  clear h
  replace H := Option.bind_eq_some_iff.mp H
  obtain ⟨t1001, A20, H⟩ := H
  replace H : (if t1001 = true then (if 0 < (a0.size : Int) then (if (bt a0 0) = 103 then (some true) else (some ((bt a0 0) == 101))) else (none)) else (some false)) = some r := H
  have A2 := Aside0.mk A20
  clear A20
  by_cases c3 : t1001 = true
  · subst c3
    have H1 : (if 0 < (a0.size : Int) then (if (bt a0 0) = 103 then (some true) else (some ((bt a0 0) == 101))) else (none)) = some r := by rw [if_pos rfl] at H; exact H
    clear H
    have H := H1
    clear H1
    by_cases c4 : 0 < (a0.size : Int)
    · rw [if_pos c4] at H
      have c4b0 : decide (0 < (a0.size : Int)) = true := decide_eq_true c4
      have c4b1 : decide (0 < a0.size) = true := decide_eq_true (by omega)
      clear c4
      by_cases c6 : (bt a0 0) = 103
      · rw [if_pos c6] at H
        have c6b0 : ((bt a0 0) == 103) = true := beq_iff_eq.mpr c6
        have c6b1 : ((bt a0 0) != 103) = false := bne_eq_false_iff_eq.mpr c6
        clear c6
        obtain rfl := Option.some.inj H
        go_enter Try.func129, Try.ntmps129
        go_wp2_with (first | ((with_reducible refine gate_callee (f := 101) rfl ?_); refine goesL_ (some 4) rfl rfl Try.func101 (by kernel_rfl) rfl #[.string a0] rfl (by simp only [List.map_toArray, List.map_cons, List.map_nil] <;> rfl) ?_; (with_reducible refine (term_Right.calls a0 true _ A2.out).mono ?_); rintro e w7 ⟨rfl, hb⟩; refine ⟨_, rfl, ?_⟩; have n0_ := Aside0.mk (below_step (by repeat with_reducible first | exact HB.out | apply below_alloc | apply pw_below_drewN | apply below_drew1) hb); clear HB; have HB := n0_; clear n0_; (try clear hb); have p5 : 0 ≤ (0 : Int) := (by omega); have q5 : 0 < a0.size := (by have : (0 : Int) < (a0.size : Int) := of_decide_eq_true (by assumption); omega); have hx5 : ∀ h : 0 < a0.size, ((a0[0]'h).toNat : Int) = bt a0 0 := bt_at a0 0; clear p5; have qi5 : (0 < (a0.size : Int)) = True := eq_true (of_decide_eq_true (by assumption)); replace q5 := eq_true q5))
        go_ret
        exact ⟨by first | rfl | (simp [errW_none, errW_some] <;> rfl) | (simp [*, errW_none, errW_some] <;> rfl), by repeat (first | (with_reducible first | exact HB.out | apply below_alloc | apply pw_below_drewN | apply below_drew1) | exact HB.out)⟩
      · rw [if_neg c6] at H
        have c6b0 : ((bt a0 0) == 103) = false := beq_eq_false_iff_ne.mpr c6
        have c6b1 : ((bt a0 0) != 103) = true := bne_iff_ne.mpr c6
        obtain rfl := Option.some.inj H
        go_enter Try.func129, Try.ntmps129
        go_wp2_with (first | ((with_reducible refine gate_callee (f := 101) rfl ?_); refine goesL_ (some 4) rfl rfl Try.func101 (by kernel_rfl) rfl #[.string a0] rfl (by simp only [List.map_toArray, List.map_cons, List.map_nil] <;> rfl) ?_; (with_reducible refine (term_Right.calls a0 true _ A2.out).mono ?_); rintro e w9 ⟨rfl, hb⟩; refine ⟨_, rfl, ?_⟩; have n0_ := Aside0.mk (below_step (by repeat with_reducible first | exact HB.out | apply below_alloc | apply pw_below_drewN | apply below_drew1) hb); clear HB; have HB := n0_; clear n0_; (try clear hb); have p5 : 0 ≤ (0 : Int) := (by omega); have q5 : 0 < a0.size := (by have : (0 : Int) < (a0.size : Int) := of_decide_eq_true (by assumption); omega); have hx5 : ∀ h : 0 < a0.size, ((a0[0]'h).toNat : Int) = bt a0 0 := bt_at a0 0; clear p5; have qi5 : (0 < (a0.size : Int)) = True := eq_true (of_decide_eq_true (by assumption)); replace q5 := eq_true q5; have p8 : 0 ≤ (0 : Int) := (by omega); have q8 : 0 < a0.size := (by have : (0 : Int) < (a0.size : Int) := of_decide_eq_true (by assumption); omega); have hx8 : ∀ h : 0 < a0.size, ((a0[0]'h).toNat : Int) = bt a0 0 := bt_at a0 0; clear p8; have qi8 : (0 < (a0.size : Int)) = True := eq_true (of_decide_eq_true (by assumption)); replace q8 := eq_true q8))
        go_ret
        exact ⟨by first | rfl | (simp [errW_none, errW_some] <;> rfl) | (simp [*, errW_none, errW_some] <;> rfl), by repeat (first | (with_reducible first | exact HB.out | apply below_alloc | apply pw_below_drewN | apply below_drew1) | exact HB.out)⟩
    · rw [if_neg c4] at H
      exact absurd H (by simp)
  · replace c3 := Bool.eq_false_iff.mpr c3
    subst c3
    have H1 : (some false) = some r := by rw [if_neg (show ¬ (false = true) by decide)] at H; exact H
    clear H
    have H := H1
    clear H1
    obtain rfl := Option.some.inj H
    go_enter Try.func129, Try.ntmps129
    go_wp2_with (first | ((with_reducible refine gate_callee (f := 101) rfl ?_); refine goesL_ (some 4) rfl rfl Try.func101 (by kernel_rfl) rfl #[.string a0] rfl (by simp only [List.map_toArray, List.map_cons, List.map_nil] <;> rfl) ?_; (with_reducible refine (term_Right.calls a0 false _ A2.out).mono ?_); rintro e w10 ⟨rfl, hb⟩; refine ⟨_, rfl, ?_⟩; have n0_ := Aside0.mk (below_step (by repeat with_reducible first | exact HB.out | apply below_alloc | apply pw_below_drewN | apply below_drew1) hb); clear HB; have HB := n0_; clear n0_; (try clear hb)))
    go_ret
    exact ⟨by first | rfl | (simp [errW_none, errW_some] <;> rfl) | (simp [*, errW_none, errW_some] <;> rfl), by repeat (first | (with_reducible first | exact HB.out | apply below_alloc | apply pw_below_drewN | apply below_drew1) | exact HB.out)⟩

/-- Is a text an element that is right? -/
def elemB (t : ByteArray) : Bool := rightB t && (bt t 0 == 103 || bt t 0 == 101)
def term_element.f (t : ByteArray) : Option Bool := if t.size < 9223372036854775808 then some (elemB t) else none
theorem right_pos {t : ByteArray} (h : rightB t = true) : 0 < t.size ∧ t.size ≤ 20000 := by
  unfold rightB at h
  rw [decide_eq_true_eq] at h
  have := scanF_end h.1
  omega
theorem term_element.eq (t : ByteArray) (hs : t.size < 9223372036854775808) : term_element_p.f t = term_element.f t := by
  unfold term_element_p.f term_Right.f term_element.f elemB
  rw [if_pos hs, if_pos hs]
  simp only [Option.bind_some]
  by_cases c : rightB t = true
  · have := right_pos c
    rw [if_pos c, if_pos (by omega), c]
    by_cases d : bt t 0 = 103
    · rw [if_pos d, d]; rfl
    · rw [if_neg d]; simp [d]
  · rw [if_neg c]
    have c' : rightB t = false := by simpa using c
    rw [c']; rfl
theorem term_element.calls (a0 : ByteArray) (r : Bool) (w : World) (h : term_element.f a0 = some r) :
    Calls Try.prog 129 #[.string a0] w fun e w' => e = .returned (.bool r) ∧ Below w.heap.size w w' := by
  have hs : a0.size < 9223372036854775808 := by
    unfold term_element.f at h
    split at h
    · assumption
    · cases h
  exact term_element_p.calls a0 r w ((term_element.eq a0 hs).trans h)

end Go.Proofs.Ytppimpadfgldjaa.F
namespace Go.Proofs.Ytppimpadfgldjaa.F
open Go.RowKit Go.Proofs.YtppimpadfgldjaaW.PrintWords Go.Proofs.YtppimpadfgldjaaW.PrintLast Go.Proofs.YtppimpadfgldjaaW.PrintMore
attribute [local go_sem] max2_int min2_int max_two min_two max_three min_three max_four min_four
set_option linter.unusedVariables false
set_option linter.unusedSimpArgs false

/-! ### term_exponents: function 130 -/
/-! #### term_exponents_p: function 130 -/
def term_exponents_p.l0 : Nat → List ByteArray → ByteArray → Option (List ByteArray)
  | 0, _, _ => none
  | k + 1, x3, x4 => if x4.toList = ([] : List UInt8) then (some x3) else ((term_Take.f x4).bind fun bt1001 => (if x3.length < 8796093022208 then (term_exponents_p.l0 k (x3 ++ [bt1001.1]) bt1001.2.1) else (none)))
def term_exponents_p.f (k : Nat) (a0 : ByteArray) : Option (List ByteArray) := if 0 < (a0.size : Int) then (if (bt a0 0) = 103 then (some ([] : List ByteArray)) else (if 2 ≤ (a0.size : Int) then (term_exponents_p.l0 k ([] : List ByteArray) (a0.extract 2 a0.size)) else (none))) else (none)
theorem term_exponents_p.mono_l : ∀ k, (∀ y0 y1, LeO (term_exponents_p.l0 k y0 y1) (term_exponents_p.l0 (k + 1) y0 y1))
  | 0 => fun _ _ r h => by simp [term_exponents_p.l0] at h
  | k + 1 => by
    have ih0 := term_exponents_p.mono_l k
    · intro y0 y1
      unfold term_exponents_p.l0
      repeat' first
      | (with_reducible exact ih0 _ _)
      | (with_reducible exact LeO.refl _)
      | (with_reducible exact LeO.none _)
      | (with_reducible refine LeO.ite ?_ ?_)
      | (with_reducible refine LeO.bind ?_ (fun _ => ?_))
      | exact ih0 _ _
      | exact LeO.none _
      | refine LeO.ite ?_ ?_
      | refine LeO.bind ?_ (fun _ => ?_)
theorem term_exponents_p.mono : ∀ a0 k, LeO (term_exponents_p.f k a0) (term_exponents_p.f (k + 1) a0) := by
  intro a0 k
  have ih0 := term_exponents_p.mono_l k
  unfold term_exponents_p.f
  repeat' first
      | (with_reducible exact ih0 _ _)
      | (with_reducible exact LeO.refl _)
      | (with_reducible exact LeO.none _)
      | (with_reducible refine LeO.ite ?_ ?_)
      | (with_reducible refine LeO.bind ?_ (fun _ => ?_))
      | exact ih0 _ _
      | exact LeO.none _
      | refine LeO.ite ?_ ?_
      | refine LeO.bind ?_ (fun _ => ?_)
set_option maxHeartbeats 8000000 in
set_option maxRecDepth 100000 in
theorem term_exponents_p.calls (k : Nat) (a0 : ByteArray) (r : List ByteArray) (w : World) (h : term_exponents_p.f k a0 = some r) :
    Calls Try.prog 130 #[.string a0] w fun e w' => ∃ v0_ : Value, e = .returned (v0_) ∧ Kd.R Kd.string 9 w' w.heap.size (fun _ => True) v0_ r ∧ Below w.heap.size w w' := by
  have HB := Aside0.mk (Below.refl w.heap.size w)
  have H : (if 0 < (a0.size : Int) then (if (bt a0 0) = 103 then (some ([] : List ByteArray)) else (if 2 ≤ (a0.size : Int) then (term_exponents_p.l0 k ([] : List ByteArray) (a0.extract 2 a0.size)) else (none))) else (none)) = some r := h
  clear h
  by_cases c2 : 0 < (a0.size : Int)
  · rw [if_pos c2] at H
    have c2b0 : decide (0 < (a0.size : Int)) = true := decide_eq_true c2
    have c2b1 : decide (0 < a0.size) = true := decide_eq_true (by omega)
    clear c2
    by_cases c4 : (bt a0 0) = 103
    · rw [if_pos c4] at H
      have c4b0 : ((bt a0 0) == 103) = true := beq_iff_eq.mpr c4
      have c4b1 : ((bt a0 0) != 103) = false := bne_eq_false_iff_eq.mpr c4
      clear c4
      obtain rfl := Option.some.inj H
      have p3 : 0 ≤ (0 : Int) := (by omega)
      have q3 : 0 < a0.size := (by have : (0 : Int) < (a0.size : Int) := of_decide_eq_true (by first | (with_reducible assumption) | assumption); omega)
      have hx3 : ∀ h : 0 < a0.size, ((a0[0]'h).toNat : Int) = bt a0 0 := bt_at a0 0
      clear p3
      have qi3 : (0 < (a0.size : Int)) = True := eq_true (of_decide_eq_true (by first | (with_reducible assumption) | assumption))
      replace q3 := eq_true q3
      go_enter Try.func130, Try.ntmps130
      go_wp2
      go_ret
      exact ⟨_, by first | rfl | (simp [errW_none, errW_some] <;> rfl) | (simp [*, errW_none, errW_some] <;> rfl), by first | exact Kd.R_nil _ _ _ _ _ | exact Kd.N_nil _ _ _ _ _ | exact Kd.V_nil _ _ _ _ _ | exact Kd.Q_nil _ _ _ _ _ | exact Kd.S_nil _ _ _ _ _, by repeat (first | (with_reducible first | exact HB.out | apply below_alloc | apply pw_below_drewN | apply below_drew1) | exact HB.out)⟩
    · rw [if_neg c4] at H
      have c4b0 : ((bt a0 0) == 103) = false := beq_eq_false_iff_ne.mpr c4
      have c4b1 : ((bt a0 0) != 103) = true := bne_iff_ne.mpr c4
      by_cases c5 : 2 ≤ (a0.size : Int)
      · rw [if_pos c5] at H
        have c5b0 := eq_true c5
        have c5b1 : decide (2 ≤ (a0.size : Int)) = true := decide_eq_true c5
        clear c5
        have H' := Aside0.mk H
        clear H
        have p3 : 0 ≤ (0 : Int) := (by omega)
        have q3 : 0 < a0.size := (by have : (0 : Int) < (a0.size : Int) := of_decide_eq_true (by first | (with_reducible assumption) | assumption); omega)
        have hx3 : ∀ h : 0 < a0.size, ((a0[0]'h).toNat : Int) = bt a0 0 := bt_at a0 0
        clear p3
        have qi3 : (0 < (a0.size : Int)) = True := eq_true (of_decide_eq_true (by first | (with_reducible assumption) | assumption))
        replace q3 := eq_true q3
        go_enter Try.func130, Try.ntmps130
        go_wp2
        go_loopg [3, 4] k (fun kq v3 v4 w' => ∃ (x3_1 : List ByteArray) (x4_1 : ByteArray), v4 = .string x4_1 ∧ Aside0 (term_exponents_p.l0 kq x3_1 x4_1 = some r) ∧ Aside0 (kq ≤ k) ∧ Aside0 (Kd.R Kd.string 9 w' w.heap.size (fun _ => True) v3 x3_1) ∧ Aside0 (Below w.heap.size w w'))
        case atStart => exact ⟨(([] : List ByteArray)), (a0.extract 2 a0.size), (by first | rfl | (simp; done) | (simp [*]; done)), H', ⟨Nat.le_refl _⟩, ⟨by first | exact Kd.R_nil _ _ _ _ _ | exact Kd.N_nil _ _ _ _ _ | exact Kd.V_nil _ _ _ _ _ | exact Kd.Q_nil _ _ _ _ _ | exact Kd.S_nil _ _ _ _ _⟩, ⟨by repeat (first | (with_reducible first | exact HB.out | apply below_alloc | apply pw_below_drewN | apply below_drew1) | exact HB.out)⟩⟩
        case round =>
          clear H'
          try clear c1
          try clear c2
          try clear c2b0
          try clear c2b1
          try clear p2
          try clear p3
          try clear q3
          try clear hx3
          try clear qi3
          try clear c4
          try clear c4b0
          try clear c4b1
          try clear c5
          try clear c5b0
          try clear c5b1
          try clear p3
          try clear q3
          obtain ⟨x3_1, x4_1, rfl, HA, HK1, HO_3, HB⟩ := hrel
          cases gk with
          | zero => exact absurd HA.out (by simp [term_exponents_p.l0])
          | succ k1 =>
            have H := HA.out
            clear HA
            simp only [term_exponents_p.l0] at H
            by_cases c6 : x4_1.toList = ([] : List UInt8)
            · rw [if_pos c6] at H
              have c6b0 : (x4_1.toList == ([] : List UInt8)) = true := beq_iff_eq.mpr c6
              have c6b1 : (x4_1.toList != ([] : List UInt8)) = false := bne_eq_false_iff_eq.mpr c6
              clear c6
              obtain rfl := Option.some.inj H
              go_wp2
              go_ret
              exact ⟨_, by first | rfl | (simp [errW_none, errW_some] <;> rfl) | (simp [*, errW_none, errW_some] <;> rfl), by (with_reducible repeat (first | apply Kd.R_alloc | apply Kd.R_drewN | apply Kd.R_drew)); exact HO_3.out, by repeat (first | (with_reducible first | exact HB.out | apply below_alloc | apply pw_below_drewN | apply below_drew1) | exact HB.out)⟩
            · rw [if_neg c6] at H
              have c6b0 : (x4_1.toList == ([] : List UInt8)) = false := beq_eq_false_iff_ne.mpr c6
              have c6b1 : (x4_1.toList != ([] : List UInt8)) = true := bne_iff_ne.mpr c6
              replace H := Option.bind_eq_some_iff.mp H
              obtain ⟨⟨t1001, t1002, t1003⟩, A70, H⟩ := H
              replace H : (if x3_1.length < 8796093022208 then (term_exponents_p.l0 k1 (x3_1 ++ [t1001]) t1002) else (none)) = some r := H
              have A7 := Aside0.mk A70
              clear A70
              by_cases c8 : x3_1.length < 8796093022208
              · rw [if_pos c8] at H
                have LMc8 := Aside0.mk c8
                clear c8
                obtain ⟨y1004, hy1004⟩ : ∃ y_ : List ByteArray, y_ = (x3_1 ++ [t1001]) := ⟨_, rfl⟩
                replace H : (term_exponents_p.l0 k1 y1004 t1002) = some r := by first | (rw [hy1004]; with_reducible exact H) | (have H2_ := (Option.bind_some _ _).symm.trans H; rw [hy1004]; with_reducible exact H2_) | (have H2_ := (Option.bind_some _ _).symm.trans H; with_reducible exact H2_) | with_reducible exact H | (rw [hy1004]; exact H) | exact H
                have Ny1004 := Aside0.mk hy1004
                clear hy1004
                have H' := Aside0.mk H
                clear H
                go_wp2_with (first | ((with_reducible refine gate_callee (f := 148) rfl ?_); refine goesL_ (some 17) rfl rfl Try.func148 (by kernel_rfl) rfl #[.string x4_1] rfl (by simp only [List.map_toArray, List.map_cons, List.map_nil] <;> rfl) ?_; (with_reducible refine (term_Take.calls x4_1 t1001 t1002 t1003 _ A7.out).mono ?_); rintro e w9 ⟨rfl, hb⟩; refine ⟨_, rfl, ?_⟩; have n0_ := Aside0.mk (Kd.R_below (by (with_reducible repeat (first | apply Kd.R_alloc | apply Kd.R_drewN | apply Kd.R_drew)); exact HO_3.out) hb); have n1_ := Aside0.mk (below_step (by repeat with_reducible first | exact HB.out | apply below_alloc | apply pw_below_drewN | apply below_drew1) hb); clear HO_3; clear HB; have HO_3 := n0_; have HB := n1_; clear n0_ n1_; (try clear hb)) | ((with_reducible refine gate_builtin (b := .append) (xs := #[.tmp 21, .tmp 23]) rfl ?_); at_builtin; refine Kd.R_append Kd.string (w0 := w) w.heap.size rfl (.tmp 21) (.tmp 23) 58 9 (.string ⟨#[]⟩) 16 rfl Try.underlying58 info9 rfl (by decide) (by omega) u3 x3_1 t1001 [.string t1001] (fun _ => True) (fun _ => False) rfl rfl ?aP (fun _ hk => hk.elim) ?aF ?aO ?aB ?aS ?aL ?_; (case aP => exact rfl); (case aB => exact (by repeat with_reducible first | exact HB.out | apply below_alloc | apply pw_below_drewN | apply below_drew1)); (case aF => exact (fun _ _ => trivial)); (case aO => exact (by (with_reducible repeat (first | apply Kd.R_alloc | apply Kd.R_drewN | apply Kd.R_drew)); exact HO_3.out)); (case aS => exact (below_size (by repeat with_reducible first | exact HB.out | apply below_alloc | apply pw_below_drewN | apply below_drew1))); (case aL => have := LMc8.out; omega); intro v1005 w10 ho hb hg hat; rw [← Ny1004.out] at ho; have n0_ := Aside0.mk (hb); have n1_ := Aside0.mk (ho); clear HB; clear HO_3; have HB := n0_; have HO1006 := n1_; clear n0_ n1_; clear ho hb hg hat))
                go_roundg k1
                case measure => have := HK1.out; omega
                case rel => exact ⟨(y1004), (t1002), (by first | rfl | (simp; done) | (simp [*]; done)), H', ⟨by have := HK1.out; omega⟩, ⟨by (with_reducible repeat (first | apply Kd.R_alloc | apply Kd.R_drewN | apply Kd.R_drew)); exact HO1006.out⟩, ⟨by repeat (first | (with_reducible first | exact HB.out | apply below_alloc | apply pw_below_drewN | apply below_drew1) | exact HB.out)⟩⟩
              · rw [if_neg c8] at H
                exact absurd H (by simp)
      · rw [if_neg c5] at H
        exact absurd H (by simp)
  · rw [if_neg c2] at H
    exact absurd H (by simp)

/-- Terms that stand one behind the other, k of them at most. -/
def splitF : Nat → ByteArray → List ByteArray
  | 0, _ => []
  | k + 1, s => if s.size = 0 then [] else (takeF s).1 :: splitF k (takeF s).2.1
theorem takeF_less (s : ByteArray) (h : 0 < s.size) : (takeF s).2.1.size < s.size := by
  unfold takeF
  by_cases c : (scanF s).2.2 ≠ 0
  · rw [if_pos c]; exact h
  rw [if_neg c]
  by_cases c2 : (scanF s).1 > 20000
  · rw [if_pos c2]; exact h
  rw [if_neg c2]
  have := scanF_end (s := s) (by simpa using c)
  simp only [ByteArray.size_extract]
  omega
def expsF (t : ByteArray) : List ByteArray := if bt t 0 = 103 then [] else splitF t.size (t.extract 2 t.size)
def term_exponents.f (t : ByteArray) : Option (List ByteArray) := if 2 ≤ t.size ∧ t.size ≤ 20000 ∨ t.size = 1 ∧ bt t 0 = 103 then some (expsF t) else none
theorem toList_nil (s : ByteArray) : s.toList = [] ↔ s.size = 0 := by
  have := extract_nil s 0
  rw [extract_all] at this
  rw [this]; omega
theorem term_exponents.loop : ∀ (m k : Nat) (acc : List ByteArray) (s : ByteArray), s.size ≤ m → m < k → acc.length + s.size ≤ 100000 → term_exponents_p.l0 k acc s = some (acc ++ splitF m s)
  | m, 0, _, _, _, h, _ => by omega
  | 0, k + 1, acc, s, h, _, _ => by
    simp only [term_exponents_p.l0]
    rw [if_pos ((toList_nil s).mpr (by omega))]
    simp [splitF]
  | m + 1, k + 1, acc, s, h, hk, ha => by
    simp only [term_exponents_p.l0]
    by_cases c : s.size = 0
    · rw [if_pos ((toList_nil s).mpr c), splitF, if_pos c, List.append_nil]
    · rw [if_neg (fun h => c ((toList_nil s).mp h)), splitF, if_neg c]
      unfold term_Take.f
      rw [if_pos (by omega)]
      simp only [Option.bind_some]
      have := takeF_less s (by omega)
      rw [if_pos (by omega), term_exponents.loop m k _ _ (by omega) (by omega) (by rw [List.length_append]; simp; omega), List.append_assoc]
      rfl
theorem term_exponents.eq (t : ByteArray) (r : List ByteArray) (h : term_exponents.f t = some r) : term_exponents_p.f (t.size + 2) t = some r := by
  unfold term_exponents.f at h
  split at h
  case isFalse => cases h
  rename_i hs
  rw [← h]
  unfold term_exponents_p.f expsF
  rw [if_pos (by omega)]
  by_cases c : bt t 0 = 103
  · rw [if_pos c, if_pos c]
  · rw [if_neg c, if_neg c, if_pos (by omega), term_exponents.loop t.size _ [] _ (by rw [ByteArray.size_extract]; omega) (by omega) (by rw [ByteArray.size_extract]; simp; omega)]
    rfl
theorem term_exponents.calls (a0 : ByteArray) (r : List ByteArray) (w : World) (h : term_exponents.f a0 = some r) :
    Calls Try.prog 130 #[.string a0] w fun e w' => ∃ v0_ : Value, e = .returned (v0_) ∧ Kd.R Kd.string 9 w' w.heap.size (fun _ => True) v0_ r ∧ Below w.heap.size w w' :=
  term_exponents_p.calls _ a0 r w (term_exponents.eq a0 r h)

end Go.Proofs.Ytppimpadfgldjaa.F
namespace Go.Proofs.Ytppimpadfgldjaa.F
open Go.RowKit Go.Proofs.YtppimpadfgldjaaW.PrintWords Go.Proofs.YtppimpadfgldjaaW.PrintLast Go.Proofs.YtppimpadfgldjaaW.PrintMore
attribute [local go_sem] max2_int min2_int max_two min_two max_three min_three max_four min_four
set_option linter.unusedVariables false
set_option linter.unusedSimpArgs false

/-! ### term_whole: function 132 -/
/-! #### term_whole_p: function 132 -/
def term_whole_p.f (a0 : ByteArray) : Option (ByteArray × Int) := if (a0.size : Int) > 20000 then (some ((⟨#[]⟩ : ByteArray), 3)) else ((term_Right.f a0).bind fun t1001 => (if t1001 = true then (some (a0, 0)) else (some ((⟨#[]⟩ : ByteArray), 4))))
set_option maxHeartbeats 8000000 in
set_option maxRecDepth 100000 in
theorem term_whole_p.calls (a0 : ByteArray) (r1 : ByteArray) (r2 : Int) (w : World) (h : term_whole_p.f a0 = some (r1, r2)) :
    Calls Try.prog 132 #[.string a0] w fun e w' => e = .returned (.tuple #[.string r1, .int .i64 r2]) ∧ Below w.heap.size w w' := by
  have HB := Aside0.mk (Below.refl w.heap.size w)
  have H : (if (a0.size : Int) > 20000 then (some ((⟨#[]⟩ : ByteArray), 3)) else ((term_Right.f a0).bind fun t1001 => (if t1001 = true then (some (a0, 0)) else (some ((⟨#[]⟩ : ByteArray), 4))))) = some (r1, r2) := h
  clear h
  by_cases c2 : (a0.size : Int) > 20000
  · rw [if_pos c2] at H
    have c2b0 : decide (20000 < (a0.size : Int)) = true := decide_eq_true c2
    have c2b1 : decide (20000 < a0.size) = true := decide_eq_true (by omega)
    clear c2
    simp only [Option.some.injEq, Prod.mk.injEq] at H
    obtain ⟨rfl, rfl⟩ := H
    go_enter Try.func132, Try.ntmps132
    go_wp2
    go_ret2
    exact ⟨by first | rfl | (simp [errW_none, errW_some] <;> rfl) | (simp [*, errW_none, errW_some] <;> rfl), by repeat (first | (with_reducible first | exact HB.out | apply below_alloc | apply pw_below_drewN | apply below_drew1) | exact HB.out)⟩
  · rw [if_neg c2] at H
    have c2b0 : decide (20000 < (a0.size : Int)) = false := decide_eq_false c2
    have c2b1 : decide (20000 < a0.size) = false := decide_eq_false (by omega)
    clear c2
    replace H := Option.bind_eq_some_iff.mp H
    obtain ⟨t1001, A30, H⟩ := H
    replace H : (if t1001 = true then (some (a0, 0)) else (some ((⟨#[]⟩ : ByteArray), 4))) = some (r1, r2) := H
    have A3 := Aside0.mk A30
    clear A30
    by_cases c4 : t1001 = true
    · subst c4
      have H1 : (some (a0, 0)) = some (r1, r2) := by rw [if_pos rfl] at H; exact H
      clear H
      have H := H1
      clear H1
      simp only [Option.some.injEq, Prod.mk.injEq] at H
      obtain ⟨rfl, rfl⟩ := H
      go_enter Try.func132, Try.ntmps132
      go_wp2_with (first | ((with_reducible refine gate_callee (f := 101) rfl ?_); refine goesL_ (some 8) rfl rfl Try.func101 (by kernel_rfl) rfl #[.string a0] rfl (by simp only [List.map_toArray, List.map_cons, List.map_nil] <;> rfl) ?_; (with_reducible refine (term_Right.calls a0 true _ A3.out).mono ?_); rintro e w5 ⟨rfl, hb⟩; refine ⟨_, rfl, ?_⟩; have n0_ := Aside0.mk (below_step (by repeat with_reducible first | exact HB.out | apply below_alloc | apply pw_below_drewN | apply below_drew1) hb); clear HB; have HB := n0_; clear n0_; (try clear hb)))
      go_ret2
      exact ⟨by first | rfl | (simp [errW_none, errW_some] <;> rfl) | (simp [*, errW_none, errW_some] <;> rfl), by repeat (first | (with_reducible first | exact HB.out | apply below_alloc | apply pw_below_drewN | apply below_drew1) | exact HB.out)⟩
    · replace c4 := Bool.eq_false_iff.mpr c4
      subst c4
      have H1 : (some ((⟨#[]⟩ : ByteArray), 4)) = some (r1, r2) := by rw [if_neg (show ¬ (false = true) by decide)] at H; exact H
      clear H
      have H := H1
      clear H1
      simp only [Option.some.injEq, Prod.mk.injEq] at H
      obtain ⟨rfl, rfl⟩ := H
      go_enter Try.func132, Try.ntmps132
      go_wp2_with (first | ((with_reducible refine gate_callee (f := 101) rfl ?_); refine goesL_ (some 8) rfl rfl Try.func101 (by kernel_rfl) rfl #[.string a0] rfl (by simp only [List.map_toArray, List.map_cons, List.map_nil] <;> rfl) ?_; (with_reducible refine (term_Right.calls a0 false _ A3.out).mono ?_); rintro e w6 ⟨rfl, hb⟩; refine ⟨_, rfl, ?_⟩; have n0_ := Aside0.mk (below_step (by repeat with_reducible first | exact HB.out | apply below_alloc | apply pw_below_drewN | apply below_drew1) hb); clear HB; have HB := n0_; clear n0_; (try clear hb)))
      go_ret2
      exact ⟨by first | rfl | (simp [errW_none, errW_some] <;> rfl) | (simp [*, errW_none, errW_some] <;> rfl), by repeat (first | (with_reducible first | exact HB.out | apply below_alloc | apply pw_below_drewN | apply below_drew1) | exact HB.out)⟩

/-- A term that was put together, if it is not too long, nor too deep. -/
def wholeF (t : ByteArray) : ByteArray × Int := if 20000 < t.size then (⟨#[]⟩, 3) else if rightB t = true then (t, 0) else (⟨#[]⟩, 4)
def term_whole.f (t : ByteArray) : Option (ByteArray × Int) := some (wholeF t)
theorem term_whole.eq (t : ByteArray) : term_whole_p.f t = term_whole.f t := by
  unfold term_whole_p.f term_Right.f term_whole.f wholeF
  by_cases c : 20000 < t.size
  · rw [if_pos c, if_pos (by omega)]
  · rw [if_neg c, if_neg (by omega), if_pos (by omega)]
    simp only [Option.bind_some]
    split <;> rfl
theorem term_whole.calls (a0 : ByteArray) (r1 : ByteArray) (r2 : Int) (w : World) (h : term_whole.f a0 = some (r1, r2)) :
    Calls Try.prog 132 #[.string a0] w fun e w' => e = .returned (.tuple #[.string r1, .int .i64 r2]) ∧ Below w.heap.size w w' :=
  term_whole_p.calls a0 r1 r2 w ((term_whole.eq a0).trans h)

end Go.Proofs.Ytppimpadfgldjaa.F
namespace Go.Proofs.Ytppimpadfgldjaa.F
open Go.RowKit Go.Proofs.YtppimpadfgldjaaW.PrintWords Go.Proofs.YtppimpadfgldjaaW.PrintLast Go.Proofs.YtppimpadfgldjaaW.PrintMore
attribute [local go_sem] max2_int min2_int max_two min_two max_three min_three max_four min_four
set_option linter.unusedVariables false
set_option linter.unusedSimpArgs false

/-! ### term_Power: function 81 -/
/-- Texts, by bytes. -/
def sortB (l : List ByteArray) : List ByteArray := ((l.map (·.data.toList)).mergeSort fun x y => decide (x ≤ y)).map fun x => ⟨x.toArray⟩
/-- Texts one behind the other, as the library joins them. -/
def joinB (l : List ByteArray) : ByteArray := ⟨(Lib.join (l.map (·.data.toList)) (⟨#[]⟩ : ByteArray).data.toList).toArray⟩
theorem sortB_length (l : List ByteArray) : (sortB l).length = l.length := by simp [sortB]
theorem sort_mem (l : List ByteArray) : ∀ x ∈ sortB l, x ∈ l := by
  intro x hx; unfold sortB at hx
  obtain ⟨y, hy, rfl⟩ := List.mem_map.mp hx; obtain ⟨z, hz, rfl⟩ := List.mem_map.mp (List.mem_mergeSort.mp hy)
  exact hz
theorem joinB_size (m : Nat) : ∀ (l : List ByteArray), (∀ x ∈ l, x.size ≤ m) → (Lib.join (l.map (·.data.toList)) []).length ≤ l.length * m
  | [], _ => by simp [Lib.join_nil]
  | x :: l, h => by
    rw [List.map_cons, Lib.join_cons, List.length_append]
    have h1 := h x List.mem_cons_self
    have h2 : ∀ l : List ByteArray, (∀ x ∈ l, x.size ≤ m) → (Lib.joinTail [] (l.map (·.data.toList))).length ≤ l.length * m := by
      intro l; induction l with
      | nil => intro _; simp [Lib.joinTail]
      | cons y l ih =>
        intro h; have h3 := h y List.mem_cons_self
        have h4 := ih (fun z hz => h z (List.mem_cons_of_mem _ hz))
        have e : Lib.joinTail [] ((y :: l).map (·.data.toList)) = y.data.toList ++ Lib.joinTail [] (l.map (·.data.toList)) := by simp [Lib.joinTail]
        rw [e, List.length_append, List.length_cons, Nat.succ_mul]
        have : y.data.toList.length = y.size := by simp [← ByteArray.size_data]
        omega
    have h3 := h2 l (fun z hz => h z (List.mem_cons_of_mem _ hz))
    have : x.data.toList.length = x.size := by simp [← ByteArray.size_data]
    rw [List.length_cons, Nat.succ_mul]
    omega
/-- slices.Sort over a row of the call's own. -/
theorem sort_own {W : World} {base : Nat} {A : Option Addr} {c n : Nat} {l : List ByteArray} (ho : Kd.R Kd.string 9 W base (fun _ => True) (.slice A n c) l) (hl : l.length ≤ 8796093022208) :
    Calls Try.prog 131 #[.slice A n c] W fun e w' => e = .returned (.tuple #[]) ∧ Kd.R Kd.string 9 w' base (fun _ => True) (.slice A n c) (sortB l) ∧ ∃ row, W.grownBy w' row ∧ ∀ k, row = some k → base ≤ k := by
  have hn : n = l.length := (Kd.R_reads' ho).1
  subst hn; have hown := Kd.own_of_R ho
  unfold encs at hown
  rw [← Lib.map_encStr] at hown
  rcases hown.2 with ⟨h0, h1⟩ | ⟨g, cap, cur, hv, hbase, hb, h1, h2, h3, h4⟩
  · injection h0 with hA hn hc
    have : l = [] := List.eq_nil_of_length_eq_zero (by omega)
    subst this; refine (Try.slices_Sort_string_none A c W).mono ?_
    rintro e w' ⟨rfl, rfl⟩
    exact ⟨rfl, by have e : sortB [] = [] := by simp [sortB]
                   rw [e]; exact ho, none, ⟨rfl, rfl, rfl, Nat.le_refl _, fun _ _ _ => rfl⟩, fun k hk => by cases hk⟩
  · cases hv
    have hsz : (l.map (·.data.toList)).length = l.length := by simp
    have hH := holds_of_block (ss := l.map (·.data.toList)) hb (by rw [hsz]; simpa using h4)
    have hlt : g < W.heap.size := (Array.getElem?_eq_some_iff.1 hb).1
    have hc := Try.slices_Sort_string g 0 c (l.map (·.data.toList)) W hH hlt (by rw [hsz]; omega)
    rw [hsz] at hc
    refine hc.mono ?_
    rintro e w' ⟨rfl, n, os, rfl⟩; have hs := ownsRow_sorted (n := n) (os := os) (ss := l.map (·.data.toList)) (ts := (l.map (·.data.toList)).mergeSort fun x y => decide (x ≤ y)) (by simp) hbase hb (by rw [hsz]; exact h1) h2 (by simpa using h3)
    rw [hsz] at hs
    refine ⟨rfl, Kd.R_of_own ?_ (fun _ _ => trivial), some g, Go.grownBy_sorted _, fun k hk => by cases hk; exact hbase⟩
    rw [sortB_length]
    have e : encs Value.string (sortB l) = ((l.map (·.data.toList)).mergeSort fun x y => decide (x ≤ y)).map Go.Proofs.encStr := by
      unfold encs sortB
      rw [List.map_map]
      apply List.map_congr_left
      intro x _; simp [Go.Proofs.encStr]
    rw [e]
    exact hs
/-- strings.Join over a row of the call's own. -/
theorem join_own {W : World} {base : Nat} {A : Option Addr} {c n : Nat} {l : List ByteArray} (ho : Kd.R Kd.string 9 W base (fun _ => True) (.slice A n c) l) (hl : l.length ≤ 32) (hs : ∀ x ∈ l, x.size ≤ 1000000) :
    Calls Try.prog 133 #[.slice A n c, .string ⟨#[]⟩] W fun e w' => e = .returned (.string (joinB l)) ∧ Below W.heap.size W w' := by
  have hn : n = l.length := (Kd.R_reads' ho).1
  subst hn; have hown := Kd.own_of_R ho
  rcases hown.2 with ⟨h0, h1⟩ | ⟨g, cap, cur, hv, hbase, hb, h1, h2, h3, h4⟩
  · injection h0 with hA hn hc
    have : l = [] := List.eq_nil_of_length_eq_zero (by omega)
    subst this; refine (Try.strings_Join_none A c ⟨#[]⟩ W).mono ?_
    rintro e w' ⟨rfl, rfl⟩; exact ⟨rfl, Below.refl _ _⟩
  · cases hv
    have hlt : g < W.heap.size := (Array.getElem?_eq_some_iff.1 hb).1
    have hj := joinB_size 1000000 l hs
    refine (Try.strings_Join g 0 c l ⟨#[]⟩ W ?_ hlt (by omega) h1 (by show (Lib.join _ []).length ≤ _; omega)).mono ?_
    · intro j x hx
      have hjl : j < l.length := by
        rcases Nat.lt_or_ge j l.length with h | h
        · exact h
        · rw [List.getElem?_eq_none h] at hx; cases hx
      have := Kd.R_cell ByteArray.empty ho (j : Int) (by omega) (by omega)
      rw [Int.toNat_natCast] at this
      rw [Nat.zero_add, this.1]
      simp [rdOf, List.getD_eq_getElem?_getD, hx]
    · rintro e w' ⟨rfl, hb⟩; exact ⟨rfl, hb⟩
def powF (a b : ByteArray) : ByteArray × Int :=
  if elemB a = true then (if rightB b = true then (if 32 < (expsF a).length + 1 then (⟨#[]⟩, 3) else wholeF (strOfNums [101, ((expsF a).length + 1 : Nat)] ++ joinB (sortB (expsF a ++ [b])))) else (⟨#[]⟩, 1)) else (⟨#[]⟩, 1)
theorem splitF_size : ∀ (k : Nat) (s : ByteArray), ∀ x ∈ splitF k s, x.size ≤ s.size
  | 0, _, x, hx => by simp [splitF] at hx
  | k + 1, s, x, hx => by
    rw [splitF] at hx
    split at hx
    · simp at hx
    · rename_i c
      rcases List.mem_cons.mp hx with rfl | hx
      · unfold takeF
        split
        · exact Nat.zero_le _
        · split
          · exact Nat.zero_le _
          · simp only [ByteArray.size_extract]; omega
      · have := splitF_size k _ x hx
        have := takeF_less s (by omega)
        omega
theorem expsF_size (t : ByteArray) : ∀ x ∈ expsF t, x.size ≤ t.size := by
  intro x hx; unfold expsF at hx
  split at hx
  · simp at hx
  · have := splitF_size _ _ x hx
    rw [ByteArray.size_extract] at this
    omega
theorem exps_ok {a : ByteArray} (h : elemB a = true) : term_exponents.f a = some (expsF a) := by
  unfold elemB at h
  rw [Bool.and_eq_true, Bool.or_eq_true, beq_iff_eq, beq_iff_eq] at h
  have hp := right_pos h.1
  unfold term_exponents.f
  rw [if_pos]
  rcases Nat.lt_or_ge a.size 2 with c | c
  · right
    refine ⟨by omega, ?_⟩
    rcases h.2 with h2 | h2
    · exact h2
    · exfalso
      have hr := h.1; unfold rightB scanF at hr
      rw [decide_eq_true_eq] at hr
      have hn1 : a.size = 1 := by omega
      have e : (endF a 400 0).2.2 ≠ 0 := by
        have hl : leafF (a.extract 0 a.size) = 0 := by
          rw [extract_all]; unfold leafF; rw [h2]; rfl
        have hb : (beginF a 0).2.2.2.2.2.2 = false := by
          unfold beginF; rw [h2]
          simp only [show ¬ ((101 : Int) = 107) from by decide, show ¬ ((101 : Int) = 104) from by decide, show ¬ ((101 : Int) = 112 ∨ (101 : Int) = 120) from by decide, show ¬ ((101 : Int) = 115) from by decide, if_false, if_true]; rw [if_neg (by omega)]
        rw [show (400 : Nat) = 399 + 1 from rfl, endF, if_neg (by omega), show (0 : Int).toNat = 0 from rfl, if_neg (fun q => q hl), if_neg (by rw [hb]; simp)]
        decide
      rw [if_neg e] at hr
      exact e hr.1
  · left; omega
def term_Power.f (a b : ByteArray) : Option (ByteArray × Int) := if a.size < 9223372036854775808 ∧ b.size < 9223372036854775808 then some (powF a b) else none
set_option maxHeartbeats 2000000 in
set_option maxRecDepth 100000 in
theorem term_Power.no1 (a b : ByteArray) (w : World) (ha : a.size < 9223372036854775808) (h : elemB a = false) :
    Calls Try.prog 81 #[.string a, .string b] w fun e w' => e = .returned (.tuple #[.string ⟨#[]⟩, .int .i64 1]) ∧ Below w.heap.size w w' := by
  have HE := Aside0.mk (fun W => term_element.calls a (elemB a) W (by rw [term_element.f, if_pos ha]))
  rw [h] at HE
  clear h ha; go_enter Try.func81, Try.ntmps81
  go_wp2_with (go_at_call 129; refine (HE.out _).mono ?_; rintro e w1 ⟨rfl, hb1⟩)
  go_ret2
  exact ⟨rfl, hb1⟩
set_option maxHeartbeats 2000000 in
set_option maxRecDepth 100000 in
theorem term_Power.no2 (a b : ByteArray) (w : World) (ha : a.size < 9223372036854775808) (hb : b.size < 9223372036854775808) (h : elemB a = true) (h2 : rightB b = false) :
    Calls Try.prog 81 #[.string a, .string b] w fun e w' => e = .returned (.tuple #[.string ⟨#[]⟩, .int .i64 1]) ∧ Below w.heap.size w w' := by
  have HE := Aside0.mk (fun W => term_element.calls a (elemB a) W (by rw [term_element.f, if_pos ha]))
  rw [h] at HE
  have HR := Aside0.mk (fun W => term_Right.calls b (rightB b) W (by rw [term_Right.f, if_pos hb]))
  rw [h2] at HR
  clear h h2 ha hb; go_enter Try.func81, Try.ntmps81
  go_wp2_with (first | (go_at_call 129; refine (HE.out _).mono ?_; rintro e w1 ⟨rfl, hb1⟩; have HB1 := Aside0.mk hb1; clear hb1) | (go_at_call 101; refine (HR.out _).mono ?_; rintro e w2 ⟨rfl, hb2⟩; have HB2 := Aside0.mk hb2; clear hb2))
  go_ret2
  exact ⟨rfl, below_then HB1.out HB1.out.size HB2.out⟩
set_option maxHeartbeats 4000000 in
set_option maxRecDepth 100000 in
theorem term_Power.yes (a b : ByteArray) (w : World) (ha : a.size < 9223372036854775808) (hb : b.size < 9223372036854775808) (h : elemB a = true) (h2 : rightB b = true) :
    Calls Try.prog 81 #[.string a, .string b] w fun e w' => e = .returned (.tuple #[.string (powF a b).1, .int .i64 (powF a b).2]) ∧ Below w.heap.size w w' := by
  have HE := Aside0.mk (fun W => term_element.calls a (elemB a) W (by rw [term_element.f, if_pos ha]))
  rw [h] at HE
  have HR := Aside0.mk (fun W => term_Right.calls b (rightB b) W (by rw [term_Right.f, if_pos hb]))
  rw [h2] at HR
  have HX := Aside0.mk (fun W => term_exponents.calls a (expsF a) W (exps_ok h))
  have hsz : ∀ x ∈ expsF a ++ [b], x.size ≤ 1000000 := by
    intro x hx; rcases List.mem_append.mp hx with hx | hx
    · have := expsF_size a x hx
      unfold elemB at h
      rw [Bool.and_eq_true] at h
      have := right_pos h.1
      omega
    · obtain rfl := List.mem_singleton.mp hx
      have := right_pos h2
      omega
  have HSZ := Aside0.mk hsz
  have hp : powF a b = if 32 < (expsF a).length + 1 then (⟨#[]⟩, 3) else wholeF (strOfNums [101, ((expsF a).length + 1 : Nat)] ++ joinB (sortB (expsF a ++ [b]))) := by
    unfold powF; rw [if_pos h, if_pos h2]
  have hle : (expsF a).length < 8796093022208 := by
    have g : ∀ (k : Nat) (s : ByteArray), (splitF k s).length ≤ k := by
      intro k; induction k with
      | zero => intro s; simp [splitF]
      | succ k ih =>
        intro s; rw [splitF]
        split
        · simp
        · rw [List.length_cons]
          have := ih (takeF s).2.1
          omega
    unfold expsF
    split
    · simp
    · have := g a.size (a.extract 2 a.size)
      unfold elemB at h
      rw [Bool.and_eq_true] at h
      have := right_pos h.1
      omega
  have LM := Aside0.mk hle
  obtain ⟨y, hy⟩ : ∃ y, y = expsF a ++ [b] := ⟨_, rfl⟩
  obtain ⟨x, hx⟩ : ∃ x, x = expsF a := ⟨_, rfl⟩
  rw [← hy] at HSZ hp
  rw [← hx] at HX LM hy hp
  have hyl : y.length = x.length + 1 := by rw [hy]; simp
  rw [← hyl] at hp
  have NY := Aside0.mk hy
  rw [hp]
  have HB := Aside0.mk (Below.refl w.heap.size w)
  have hyp : 0 < y.length := by omega
  clear h h2 ha hb hsz hp hle hy hx hyl; by_cases c : 32 < y.length
  · rw [if_pos c]
    have c0 : decide (32 < (y.length : Int)) = true := decide_eq_true (by omega)
    have c1 : decide (32 < y.length) = true := decide_eq_true c
    clear c; go_enter Try.func81, Try.ntmps81
    go_wp2_with (first | (go_at_call 129; refine (HE.out _).mono ?_; rintro e w1 ⟨rfl, hb⟩; have n1_ := Aside0.mk (below_step HB.out hb); clear HB hb; have HB := n1_; clear n1_) | (go_at_call 101; refine (HR.out _).mono ?_; rintro e w2 ⟨rfl, hb⟩; have n1_ := Aside0.mk (below_step HB.out hb); clear HB hb; have HB := n1_; clear n1_) | ((with_reducible refine gate_callee (f := 130) rfl ?_); refine goesL_ (some 16) rfl rfl Try.func130 (by kernel_rfl) rfl #[.string a] rfl (by (try simp only [List.map_toArray, List.map_cons, List.map_nil]); first | done | rfl) ?_; (with_reducible refine (HX.out _).mono ?_); rintro e w3 ⟨v3, rfl, ho0, hb⟩; refine ⟨_, rfl, ?_⟩; have n0_ := Aside0.mk (Kd.R_lower ho0 (below_size HB.out)); have n1_ := Aside0.mk (below_step HB.out hb); clear HB hb ho0; have HO := n0_; have HB := n1_; clear n0_ n1_) | ((with_reducible refine gate_builtin (b := .append) (xs := #[.tmp 16, .tmp 18]) rfl ?_); at_builtin; refine Kd.R_append Kd.string (w0 := w) w.heap.size rfl (.tmp 16) (.tmp 18) 58 9 (.string ⟨#[]⟩) 16 rfl Try.underlying58 info9 rfl (by decide) (by omega) v3 x b [.string b] (fun _ => True) (fun _ => False) rfl rfl ?aP (fun _ hk => hk.elim) ?aF ?aO ?aB ?aS ?aL ?_; (case aP => exact rfl); (case aB => exact (by repeat with_reducible first | exact HB.out | apply below_alloc | apply pw_below_drewN | apply below_drew1)); (case aF => exact (fun _ _ => trivial)); (case aO => exact (by (with_reducible repeat (first | apply Kd.R_alloc | apply Kd.R_drewN | apply Kd.R_drew)); exact HO.out)); (case aS => exact (below_size (by repeat with_reducible first | exact HB.out | apply below_alloc | apply pw_below_drewN | apply below_drew1))); (case aL => have := LM.out; omega); intro v4 w4 ho hb hg hat; rw [← NY.out] at ho; have n0_ := Aside0.mk (hb); have n1_ := Aside0.mk (ho); clear HB; clear HO; have HB := n0_; have HO := n1_; clear n0_ n1_; clear ho hb hg hat; obtain ⟨Ao, co, eo⟩ := Kd.R_slice HO.out; subst eo))
    go_ret2
    exact ⟨rfl, HB.out⟩
  · rw [if_neg c]
    have c0 : decide (32 < (y.length : Int)) = false := decide_eq_false (by omega)
    have c1 : decide (32 < y.length) = false := decide_eq_false c
    have HW := Aside0.mk (fun t W => term_whole.calls t (wholeF t).1 (wholeF t).2 W rfl)
    have CL := Aside0.mk c
    obtain ⟨z, hz⟩ : ∃ z, z = sortB y := ⟨_, rfl⟩
    have HZ := Aside0.mk hz
    have HZS := Aside0.mk (show ∀ q ∈ z, q.size ≤ 1000000 from fun q hq => HSZ.out q (sort_mem y q (by rw [← hz]; exact hq)))
    have HZL := Aside0.mk (show z.length = y.length by rw [hz, sortB_length])
    obtain ⟨j, hj⟩ : ∃ j, j = joinB z := ⟨_, rfl⟩
    have HJ := Aside0.mk hj
    have hjs : j.size ≤ 100000000 := by
      have h1 := joinB_size 1000000 z HZS.out
      have h2 : j.size = (Lib.join (z.map (·.data.toList)) []).length := by rw [hj]; rfl
      have := HZL.out
      omega
    rw [← hz, ← hj]
    obtain ⟨q, hq⟩ : ∃ q : List Int, q = [101, (y.length : Int)] := ⟨_, rfl⟩
    rw [← hq]
    have NQ := Aside0.mk hq
    have hqs : (strOfNums q).size = 2 := by rw [hq]; rfl
    have hyy : (y.length : Int) ≤ 32 := by omega
    obtain ⟨r, hr⟩ : ∃ r, r = strOfNums q ++ j := ⟨_, rfl⟩
    rw [← hr]
    have NR := Aside0.mk hr
    have hrs : (strOfNums q).size + j.size ≤ 9223372036854775807 := by omega
    have hrs1 := eq_true hrs
    have hrs2 : decide ((strOfNums q).size + j.size ≤ 9223372036854775807) = true := decide_eq_true hrs
    have hrs3 : (9223372036854775807 < (strOfNums q).size + j.size) = False := eq_false (Nat.not_lt.2 hrs)
    have hlit : ∀ W : World, (W.alloc (.cells #[.int .u8 101, .int .u8 y.length] 5)).ownsRow W.heap.size 5 1 (.slice (some ⟨W.heap.size, 0, none⟩) 2 2) 2 (nums .u8 q) := fun W => by
      rw [NQ.out]
      exact World.ownsRow_lit W _ 2 (Nat.le_refl _) (by simp [maxLen]) rfl
    have HLIT := Aside0.mk hlit
    have hcv : ∀ W : World, (convert 171 48 (.slice (some ⟨W.heap.size, 0, none⟩) 2 2)).run Try.prog (W.alloc (.cells #[.int .u8 101, .int .u8 y.length] 5)).drew = .ok (.string (strOfNums q)) (W.alloc (.cells #[.int .u8 101, .int .u8 y.length] 5)).drew :=
      fun W => own_string (w := (W.alloc (.cells #[.int .u8 101, .int .u8 y.length] 5)).drew) Try.underlying171 Try.underlying5 Try.underlying48 (HLIT.out W)
    have hcv2 : ∀ W : World, (convert 171 48 (.slice (some ⟨W.heap.size, 0, none⟩) 2 2)).run Try.prog (W.alloc (.cells #[.int .u8 101, .int .u8 y.length] 5)) = .ok (.string (strOfNums q)) (W.alloc (.cells #[.int .u8 101, .int .u8 y.length] 5)) :=
      fun W => own_string Try.underlying171 Try.underlying5 Try.underlying48 (HLIT.out W)
    have hwr : IntKind.u8.wrap (y.length : Int) = y.length := by
      have : IntKind.u8.wrap (y.length : Int) = (y.length : Int) % 256 := rfl
      omega
    clear c hz hj hq hqs hjs hr hrs hlit; go_enter Try.func81, Try.ntmps81
    go_wp2_with (first
      | (go_at_call 129; refine (HE.out _).mono ?_; rintro e w1 ⟨rfl, hb⟩; have n1_ := Aside0.mk (below_step HB.out hb); clear HB hb; have HB := n1_; clear n1_) | (go_at_call 101; refine (HR.out _).mono ?_; rintro e w2 ⟨rfl, hb⟩; have n1_ := Aside0.mk (below_step HB.out hb); clear HB hb; have HB := n1_; clear n1_) | ((with_reducible refine gate_callee (f := 130) rfl ?_); refine goesL_ (some 16) rfl rfl Try.func130 (by kernel_rfl) rfl #[.string a] rfl (by (try simp only [List.map_toArray, List.map_cons, List.map_nil]); first | done | rfl) ?_; (with_reducible refine (HX.out _).mono ?_); rintro e w3 ⟨v3, rfl, ho0, hb⟩; refine ⟨_, rfl, ?_⟩; have n0_ := Aside0.mk (Kd.R_lower ho0 (below_size HB.out)); have n1_ := Aside0.mk (below_step HB.out hb); clear HB hb ho0; have HO := n0_; have HB := n1_; clear n0_ n1_) | ((with_reducible refine gate_builtin (b := .append) (xs := #[.tmp 16, .tmp 18]) rfl ?_); at_builtin; refine Kd.R_append Kd.string (w0 := w) w.heap.size rfl (.tmp 16) (.tmp 18) 58 9 (.string ⟨#[]⟩) 16 rfl Try.underlying58 info9 rfl (by decide) (by omega) v3 x b [.string b] (fun _ => True) (fun _ => False) rfl rfl ?aP (fun _ hk => hk.elim) ?aF ?aO ?aB ?aS ?aL ?_; (case aP => exact rfl); (case aB => exact (by repeat with_reducible first | exact HB.out | apply below_alloc | apply pw_below_drewN | apply below_drew1)); (case aF => exact (fun _ _ => trivial)); (case aO => exact (by (with_reducible repeat (first | apply Kd.R_alloc | apply Kd.R_drewN | apply Kd.R_drew)); exact HO.out)); (case aS => exact (below_size (by repeat with_reducible first | exact HB.out | apply below_alloc | apply pw_below_drewN | apply below_drew1))); (case aL => have := LM.out; omega); intro v4 w4 ho hb hg hat; rw [← NY.out] at ho; have n0_ := Aside0.mk (hb); have n1_ := Aside0.mk (ho); clear HB; clear HO; have HB := n0_; have HO := n1_; clear n0_ n1_; clear ho hb hg hat; obtain ⟨Ao, co, eo⟩ := Kd.R_slice HO.out; subst eo)
      | (go_at_call 131; (with_reducible refine (sort_own HO.out (by have := CL.out; omega)).mono ?_); rintro e w5 ⟨rfl, ho, row, hg, hrow⟩; rw [← HZ.out] at ho; have n0_ := Aside0.mk (pw_below_grown HB.out row (below_size HB.out) hg hrow); have n1_ := Aside0.mk ho; clear HB HO ho hg hrow; have HB := n0_; have HO := n1_; clear n0_ n1_))
    go_region_with (first
      | (go_at_call 133; (with_reducible refine (join_own (l := z) (base := w.heap.size) (by (with_reducible repeat (first | apply Kd.R_alloc | apply Kd.R_drewN | apply Kd.R_drew)); exact HO.out) (by have := CL.out; have := HZL.out; omega) HZS.out).mono ?_); rw [← HJ.out]; rintro e w6 ⟨rfl, hb⟩; (try (have hcv6 := own_string (P := Try.prog) Try.underlying171 Try.underlying5 Try.underlying48 (pw_own_below (w := (w5.alloc (.cells #[.int .u8 101, .int .u8 y.length] 5)).drew) (HLIT.out w5) hb))); have n1_ := Aside0.mk (below_step (by repeat with_reducible first | exact HB.out | apply below_alloc | apply pw_below_drewN | apply below_drew1) hb); clear HB hb; have HB := n1_; clear n1_)
      | (go_at_call 132; rw [← NR.out]; (with_reducible refine (HW.out _ _).mono ?_); rintro e w8 ⟨rfl, hb⟩; have n1_ := Aside0.mk (below_step (by repeat with_reducible first | exact HB.out | apply below_alloc | apply pw_below_drewN | apply below_drew1) hb); clear HB hb; have HB := n1_; clear n1_))
    all_goals (go_wp2; go_ret2; exact ⟨rfl, HB.out⟩)
theorem term_Power.calls (a0 : ByteArray) (a1 : ByteArray) (r1 : ByteArray) (r2 : Int) (w : World) (h : term_Power.f a0 a1 = some (r1, r2)) :
    Calls Try.prog 81 #[.string a0, .string a1] w fun e w' => e = .returned (.tuple #[.string r1, .int .i64 r2]) ∧ Below w.heap.size w w' := by
  unfold term_Power.f at h
  split at h
  case isFalse => cases h
  rename_i hs
  replace h := Option.some.inj h
  by_cases h1 : elemB a0 = true
  · by_cases h2 : rightB a1 = true
    · have := term_Power.yes a0 a1 w hs.1 hs.2 h1 h2
      rw [h] at this
      exact this
    · unfold powF at h
      rw [if_pos h1, if_neg h2] at h
      obtain ⟨rfl, rfl⟩ := Prod.mk.inj h; exact term_Power.no2 a0 a1 w hs.1 hs.2 h1 (by simpa using h2)
  · unfold powF at h
    rw [if_neg h1] at h
    obtain ⟨rfl, rfl⟩ := Prod.mk.inj h; exact term_Power.no1 a0 a1 w hs.1 (by simpa using h1)

end Go.Proofs.Ytppimpadfgldjaa.F
namespace Go.Proofs.Ytppimpadfgldjaa.F
open Go.RowKit Go.Proofs.YtppimpadfgldjaaW.PrintWords Go.Proofs.YtppimpadfgldjaaW.PrintLast Go.Proofs.YtppimpadfgldjaaW.PrintMore
attribute [local go_sem] max2_int min2_int max_two min_two max_three min_three max_four min_four
set_option linter.unusedVariables false
set_option linter.unusedSimpArgs false

/-! ### term_Key: function 83 -/
/-! #### term_Key_p: function 83 -/
def term_Key_p.f (a0 : ByteArray) : Option (ByteArray × Int) := (term_element.f a0).bind fun t1001 => (if t1001 = true then (if 1 + a0.size ≤ 9223372036854775807 then ((term_whole.f ((⟨#[107]⟩ : ByteArray) ++ a0)).bind fun bt1002 => (some (bt1002.1, bt1002.2))) else (none)) else (some ((⟨#[]⟩ : ByteArray), 1)))
set_option maxHeartbeats 8000000 in
set_option maxRecDepth 100000 in
theorem term_Key_p.calls (a0 : ByteArray) (r1 : ByteArray) (r2 : Int) (w : World) (h : term_Key_p.f a0 = some (r1, r2)) :
    Calls Try.prog 83 #[.string a0] w fun e w' => e = .returned (.tuple #[.string r1, .int .i64 r2]) ∧ Below w.heap.size w w' := by
  have HB := Aside0.mk (Below.refl w.heap.size w)
  have H : ((term_element.f a0).bind fun t1001 => (if t1001 = true then (if 1 + a0.size ≤ 9223372036854775807 then ((term_whole.f ((⟨#[107]⟩ : ByteArray) ++ a0)).bind fun bt1002 => (some (bt1002.1, bt1002.2))) else (none)) else (some ((⟨#[]⟩ : ByteArray), 1)))) = some (r1, r2) := h
  clear h
  replace H := Option.bind_eq_some_iff.mp H
  obtain ⟨t1001, A20, H⟩ := H
  replace H : (if t1001 = true then (if 1 + a0.size ≤ 9223372036854775807 then ((term_whole.f ((⟨#[107]⟩ : ByteArray) ++ a0)).bind fun bt1002 => (some (bt1002.1, bt1002.2))) else (none)) else (some ((⟨#[]⟩ : ByteArray), 1))) = some (r1, r2) := H
  have A2 := Aside0.mk A20
  clear A20
  by_cases c3 : t1001 = true
  · subst c3
    have H1 : (if 1 + a0.size ≤ 9223372036854775807 then ((term_whole.f ((⟨#[107]⟩ : ByteArray) ++ a0)).bind fun bt1002 => (some (bt1002.1, bt1002.2))) else (none)) = some (r1, r2) := by rw [if_pos rfl] at H; exact H
    clear H
    have H := H1
    clear H1
    by_cases c4 : 1 + a0.size ≤ 9223372036854775807
    · rw [if_pos c4] at H
      have c4b0 := eq_true c4
      have c4b1 : decide (1 + a0.size ≤ 9223372036854775807) = true := decide_eq_true c4
      try have c4b2 : (9223372036854775807 < 1 + a0.size) = False := eq_false (Nat.not_lt.2 c4)
      replace H := Option.bind_eq_some_iff.mp H
      obtain ⟨⟨t1002, t1003⟩, A50, H⟩ := H
      replace H : (some (t1002, t1003)) = some (r1, r2) := H
      have A5 := Aside0.mk A50
      clear A50
      simp only [Option.some.injEq, Prod.mk.injEq] at H
      obtain ⟨rfl, rfl⟩ := H
      go_enter Try.func83, Try.ntmps83
      go_wp2_with (first | ((with_reducible refine gate_callee (f := 129) rfl ?_); refine goesL_ (some 5) rfl rfl Try.func129 (by kernel_rfl) rfl #[.string a0] rfl (by simp only [List.map_toArray, List.map_cons, List.map_nil] <;> rfl) ?_; (with_reducible refine (term_element.calls a0 true _ A2.out).mono ?_); rintro e w6 ⟨rfl, hb⟩; refine ⟨_, rfl, ?_⟩; have n0_ := Aside0.mk (below_step (by repeat with_reducible first | exact HB.out | apply below_alloc | apply pw_below_drewN | apply below_drew1) hb); clear HB; have HB := n0_; clear n0_; (try clear hb)) | ((with_reducible refine gate_callee (f := 132) rfl ?_); refine goesL_ (some 9) rfl rfl Try.func132 (by kernel_rfl) rfl #[.string ((⟨#[107]⟩ : ByteArray) ++ a0)] rfl (by (try simp only [List.map_toArray, List.map_cons, List.map_nil]); first | done | rfl | (simp only [List.length_drop, List.length_take]; rfl)) ?_; (with_reducible refine (term_whole.calls ((⟨#[107]⟩ : ByteArray) ++ a0) t1002 t1003 _ A5.out).mono ?_); rintro e w7 ⟨rfl, hb⟩; refine ⟨_, rfl, ?_⟩; have n0_ := Aside0.mk (below_step (by repeat with_reducible first | exact HB.out | apply below_alloc | apply pw_below_drewN | apply below_drew1) hb); clear HB; have HB := n0_; clear n0_; (try clear hb)))
      go_ret2
      exact ⟨by first | rfl | (simp [errW_none, errW_some] <;> rfl) | (simp [*, errW_none, errW_some] <;> rfl), by repeat (first | (with_reducible first | exact HB.out | apply below_alloc | apply pw_below_drewN | apply below_drew1) | exact HB.out)⟩
    · rw [if_neg c4] at H
      exact absurd H (by simp)
  · replace c3 := Bool.eq_false_iff.mpr c3
    subst c3
    have H1 : (some ((⟨#[]⟩ : ByteArray), 1)) = some (r1, r2) := by rw [if_neg (show ¬ (false = true) by decide)] at H; exact H
    clear H
    have H := H1
    clear H1
    simp only [Option.some.injEq, Prod.mk.injEq] at H
    obtain ⟨rfl, rfl⟩ := H
    go_enter Try.func83, Try.ntmps83
    go_wp2_with (first | ((with_reducible refine gate_callee (f := 129) rfl ?_); refine goesL_ (some 5) rfl rfl Try.func129 (by kernel_rfl) rfl #[.string a0] rfl (by simp only [List.map_toArray, List.map_cons, List.map_nil] <;> rfl) ?_; (with_reducible refine (term_element.calls a0 false _ A2.out).mono ?_); rintro e w8 ⟨rfl, hb⟩; refine ⟨_, rfl, ?_⟩; have n0_ := Aside0.mk (below_step (by repeat with_reducible first | exact HB.out | apply below_alloc | apply pw_below_drewN | apply below_drew1) hb); clear HB; have HB := n0_; clear n0_; (try clear hb)))
    go_ret2
    exact ⟨by first | rfl | (simp [errW_none, errW_some] <;> rfl) | (simp [*, errW_none, errW_some] <;> rfl), by repeat (first | (with_reducible first | exact HB.out | apply below_alloc | apply pw_below_drewN | apply below_drew1) | exact HB.out)⟩

def keyF (t : ByteArray) : ByteArray × Int := if elemB t = true then wholeF ((⟨#[107]⟩ : ByteArray) ++ t) else (⟨#[]⟩, 1)
def term_Key.f (t : ByteArray) : Option (ByteArray × Int) := if t.size < 9223372036854775808 then some (keyF t) else none
theorem term_Key.eq (t : ByteArray) (hs : t.size < 9223372036854775808) : term_Key_p.f t = term_Key.f t := by
  unfold term_Key_p.f term_element.f term_Key.f keyF
  rw [if_pos hs, if_pos hs]
  simp only [Option.bind_some]
  split
  · rename_i q
    have q2 : t.size ≤ 20000 := by
      unfold elemB at q
      rw [Bool.and_eq_true] at q
      exact (right_pos q.1).2
    rw [if_pos (by omega)]; rfl
  · rfl
theorem term_Key.calls (a0 : ByteArray) (r1 : ByteArray) (r2 : Int) (w : World) (h : term_Key.f a0 = some (r1, r2)) :
    Calls Try.prog 83 #[.string a0] w fun e w' => e = .returned (.tuple #[.string r1, .int .i64 r2]) ∧ Below w.heap.size w w' := by
  have hs : a0.size < 9223372036854775808 := by
    unfold term_Key.f at h
    split at h
    · assumption
    · cases h
  exact term_Key_p.calls a0 r1 r2 w ((term_Key.eq a0 hs).trans h)

end Go.Proofs.Ytppimpadfgldjaa.F
namespace Go.Proofs.Ytppimpadfgldjaa.F
open Go.RowKit Go.Proofs.YtppimpadfgldjaaW.PrintWords Go.Proofs.YtppimpadfgldjaaW.PrintLast Go.Proofs.YtppimpadfgldjaaW.PrintMore
attribute [local go_sem] max2_int min2_int max_two min_two max_three min_three max_four min_four
set_option linter.unusedVariables false
set_option linter.unusedSimpArgs false

/-! ### term_of: function 112 -/
/-! #### term_of_p: function 112 -/
def term_of_p.l0 : Nat → ByteArray → List ByteArray → Int → Int → Option (ByteArray × Int)
  | 0, _, _, _, _ => none
  | k + 1, x0, x8, x9, x10 => if x10 < x9 then (if 0 ≤ x10 then (if x10 < (x8.length : Int) then ((term_Right.f (rdOf ByteArray.empty x8 x10)).bind fun t1002 => (if t1002 = true then (if x0.size + (rdOf ByteArray.empty x8 x10).size ≤ 9223372036854775807 then (term_of_p.l0 k (x0 ++ (rdOf ByteArray.empty x8 x10)) x8 x9 (wrap64 (x10 + 1))) else (none)) else (some ((⟨#[]⟩ : ByteArray), 1)))) else (none)) else (none)) else ((term_whole.f x0).bind fun bt1003 => (some (bt1003.1, bt1003.2)))
def term_of_p.f (k : Nat) (a0 : ByteArray) (l1 : List ByteArray) : Option (ByteArray × Int) := term_of_p.l0 k a0 l1 (l1.length : Int) 0
theorem term_of_p.mono_l : ∀ k, (∀ y0 y1 y2 y3, LeO (term_of_p.l0 k y0 y1 y2 y3) (term_of_p.l0 (k + 1) y0 y1 y2 y3))
  | 0 => fun _ _ _ _ r h => by simp [term_of_p.l0] at h
  | k + 1 => by
    have ih0 := term_of_p.mono_l k
    · intro y0 y1 y2 y3
      unfold term_of_p.l0
      repeat' first
      | (with_reducible exact ih0 _ _ _ _)
      | (with_reducible exact LeO.refl _)
      | (with_reducible exact LeO.none _)
      | (with_reducible refine LeO.ite ?_ ?_)
      | (with_reducible refine LeO.bind ?_ (fun _ => ?_))
      | exact ih0 _ _ _ _
      | exact LeO.none _
      | refine LeO.ite ?_ ?_
      | refine LeO.bind ?_ (fun _ => ?_)
theorem term_of_p.mono : ∀ a0 a1 k, LeO (term_of_p.f k a0 a1) (term_of_p.f (k + 1) a0 a1) := by
  intro a0 a1 k
  have ih0 := term_of_p.mono_l k
  unfold term_of_p.f
  repeat' first
      | (with_reducible exact ih0 _ _ _ _)
      | (with_reducible exact LeO.refl _)
      | (with_reducible exact LeO.none _)
      | (with_reducible refine LeO.ite ?_ ?_)
      | (with_reducible refine LeO.bind ?_ (fun _ => ?_))
      | exact ih0 _ _ _ _
      | exact LeO.none _
      | refine LeO.ite ?_ ?_
      | refine LeO.bind ?_ (fun _ => ?_)
set_option maxHeartbeats 8000000 in
set_option maxRecDepth 100000 in
theorem term_of_p.calls (k : Nat) (a0 : ByteArray) (A1 : Option Addr) (c1 : Nat) (l1 : List ByteArray) (r1 : ByteArray) (r2 : Int) (w : World) (hr1 : Kd.C Kd.string w A1 l1.length l1) (hc1 : l1.length ≤ c1) (h : term_of_p.f k a0 l1 = some (r1, r2)) :
    Calls Try.prog 112 #[.string a0, .slice A1 l1.length c1] w fun e w' => e = .returned (.tuple #[.string r1, .int .i64 r2]) ∧ Below w.heap.size w w' := by
  have HR1 := Aside0.mk hr1
  have HC1 := Aside0.mk hc1
  clear hr1 hc1
  have HB := Aside0.mk (Below.refl w.heap.size w)
  have H : (term_of_p.l0 k a0 l1 (l1.length : Int) 0) = some (r1, r2) := h
  clear h
  have H' := Aside0.mk H
  clear H
  go_enter Try.func112, Try.ntmps112
  go_wp2
  go_loopg [0, 10] k (fun kq v0 v10 w' => ∃ (x0_1 : ByteArray) (x10_1 : Int), v0 = .string x0_1 ∧ v10 = .int .i64 x10_1 ∧ Aside0 (term_of_p.l0 kq x0_1 l1 (l1.length : Int) x10_1 = some (r1, r2)) ∧ Aside0 (kq ≤ k) ∧ Aside0 (Below w.heap.size w w'))
  case atStart => exact ⟨(a0), (0), (by first | rfl | (simp; done) | (simp [*]; done)), (by first | rfl | (simp; done) | (simp [*]; done)), H', ⟨Nat.le_refl _⟩, ⟨by repeat (first | (with_reducible first | exact HB.out | apply below_alloc | apply pw_below_drewN | apply below_drew1) | exact HB.out)⟩⟩
  case round =>
    clear H'
    try clear c1
    try clear p2
    obtain ⟨x0_1, x10_1, rfl, rfl, HA, HK1, HB⟩ := hrel
    cases gk with
    | zero => exact absurd HA.out (by simp [term_of_p.l0])
    | succ k1 =>
      have H := HA.out
      clear HA
      simp only [term_of_p.l0] at H
      by_cases c3 : x10_1 < (l1.length : Int)
      · rw [if_pos c3] at H
        have c3b0 : decide (x10_1 < (l1.length : Int)) = true := decide_eq_true c3
        clear c3
        by_cases c4 : 0 ≤ x10_1
        · rw [if_pos c4] at H
          have c4b0 : decide (0 ≤ x10_1) = true := decide_eq_true c4
          clear c4
          by_cases c5 : x10_1 < (l1.length : Int)
          · rw [if_pos c5] at H
            have c5b0 : decide (x10_1 < (l1.length : Int)) = true := decide_eq_true c5
            clear c5
            replace H := Option.bind_eq_some_iff.mp H
            obtain ⟨t1002, A60, H⟩ := H
            replace H : (if t1002 = true then (if x0_1.size + (rdOf ByteArray.empty l1 x10_1).size ≤ 9223372036854775807 then (term_of_p.l0 k1 (x0_1 ++ (rdOf ByteArray.empty l1 x10_1)) l1 (l1.length : Int) (wrap64 (x10_1 + 1))) else (none)) else (some ((⟨#[]⟩ : ByteArray), 1))) = some (r1, r2) := H
            have A6 := Aside0.mk A60
            clear A60
            by_cases c7 : t1002 = true
            · subst c7
              have H1 : (if x0_1.size + (rdOf ByteArray.empty l1 x10_1).size ≤ 9223372036854775807 then (term_of_p.l0 k1 (x0_1 ++ (rdOf ByteArray.empty l1 x10_1)) l1 (l1.length : Int) (wrap64 (x10_1 + 1))) else (none)) = some (r1, r2) := by rw [if_pos rfl] at H; exact H
              clear H
              have H := H1
              clear H1
              by_cases c8 : x0_1.size + (rdOf ByteArray.empty l1 x10_1).size ≤ 9223372036854775807
              · rw [if_pos c8] at H
                have c8b0 := eq_true c8
                have c8b1 : decide (x0_1.size + (rdOf ByteArray.empty l1 x10_1).size ≤ 9223372036854775807) = true := decide_eq_true c8
                try have c8b2 : (9223372036854775807 < x0_1.size + (rdOf ByteArray.empty l1 x10_1).size) = False := eq_false (Nat.not_lt.2 c8)
                have H' := Aside0.mk H
                clear H
                have p1001 : 0 ≤ (x10_1 : Int) := of_decide_eq_true (by first | (with_reducible assumption) | assumption)
                have q1001 : x10_1 < (l1.length : Int) := of_decide_eq_true (by first | (with_reducible assumption) | assumption)
                obtain ⟨ad1001, e1001, hx1001_0⟩ := Kd.at_string HR1.out x10_1 p1001 q1001
                cases e1001
                replace hx1001_0 := (HB.out.cell (World.block_lt_of_cell? w _ hx1001_0)).trans hx1001_0
                replace p1001 := eq_true p1001
                replace q1001 := eq_true q1001
                go_wp2_with (first | ((with_reducible refine gate_callee (f := 101) rfl ?_); refine goesL_ (some 15) rfl rfl Try.func101 (by kernel_rfl) rfl #[.string (rdOf ByteArray.empty l1 x10_1)] rfl (by simp only [List.map_toArray, List.map_cons, List.map_nil] <;> rfl) ?_; (with_reducible refine (term_Right.calls (rdOf ByteArray.empty l1 x10_1) true _ A6.out).mono ?_); rintro e w9 ⟨rfl, hb⟩; refine ⟨_, rfl, ?_⟩; have n0_ := Aside0.mk (below_step (by repeat with_reducible first | exact HB.out | apply below_alloc | apply pw_below_drewN | apply below_drew1) hb); clear HB; have HB := n0_; clear n0_; (try clear hb)))
                go_roundg k1
                case measure => have := HK1.out; omega
                case rel => exact ⟨(x0_1 ++ (rdOf ByteArray.empty l1 x10_1)), (wrap64 (x10_1 + 1)), (by first | rfl | (simp; done) | (simp [*]; done)), (by first | rfl | (simp; done) | (simp [*]; done)), H', ⟨by have := HK1.out; omega⟩, ⟨by repeat (first | (with_reducible first | exact HB.out | apply below_alloc | apply pw_below_drewN | apply below_drew1) | exact HB.out)⟩⟩
              · rw [if_neg c8] at H
                exact absurd H (by simp)
            · replace c7 := Bool.eq_false_iff.mpr c7
              subst c7
              have H1 : (some ((⟨#[]⟩ : ByteArray), 1)) = some (r1, r2) := by rw [if_neg (show ¬ (false = true) by decide)] at H; exact H
              clear H
              have H := H1
              clear H1
              simp only [Option.some.injEq, Prod.mk.injEq] at H
              obtain ⟨rfl, rfl⟩ := H
              have p1001 : 0 ≤ (x10_1 : Int) := of_decide_eq_true (by first | (with_reducible assumption) | assumption)
              have q1001 : x10_1 < (l1.length : Int) := of_decide_eq_true (by first | (with_reducible assumption) | assumption)
              obtain ⟨ad1001, e1001, hx1001_0⟩ := Kd.at_string HR1.out x10_1 p1001 q1001
              cases e1001
              replace hx1001_0 := (HB.out.cell (World.block_lt_of_cell? w _ hx1001_0)).trans hx1001_0
              replace p1001 := eq_true p1001
              replace q1001 := eq_true q1001
              go_wp2_with (first | ((with_reducible refine gate_callee (f := 101) rfl ?_); refine goesL_ (some 15) rfl rfl Try.func101 (by kernel_rfl) rfl #[.string (rdOf ByteArray.empty l1 x10_1)] rfl (by simp only [List.map_toArray, List.map_cons, List.map_nil] <;> rfl) ?_; (with_reducible refine (term_Right.calls (rdOf ByteArray.empty l1 x10_1) false _ A6.out).mono ?_); rintro e w10 ⟨rfl, hb⟩; refine ⟨_, rfl, ?_⟩; have n0_ := Aside0.mk (below_step (by repeat with_reducible first | exact HB.out | apply below_alloc | apply pw_below_drewN | apply below_drew1) hb); clear HB; have HB := n0_; clear n0_; (try clear hb)))
              go_ret2
              exact ⟨by first | rfl | (simp [errW_none, errW_some] <;> rfl) | (simp [*, errW_none, errW_some] <;> rfl), by repeat (first | (with_reducible first | exact HB.out | apply below_alloc | apply pw_below_drewN | apply below_drew1) | exact HB.out)⟩
          · rw [if_neg c5] at H
            exact absurd H (by simp)
        · rw [if_neg c4] at H
          exact absurd H (by simp)
      · rw [if_neg c3] at H
        have c3b0 : decide (x10_1 < (l1.length : Int)) = false := decide_eq_false c3
        clear c3
        replace H := Option.bind_eq_some_iff.mp H
        obtain ⟨⟨t1003, t1004⟩, A110, H⟩ := H
        replace H : (some (t1003, t1004)) = some (r1, r2) := H
        have A11 := Aside0.mk A110
        clear A110
        simp only [Option.some.injEq, Prod.mk.injEq] at H
        obtain ⟨rfl, rfl⟩ := H
        go_wp2_with (first | ((with_reducible refine gate_callee (f := 132) rfl ?_); refine goesL_ (some 22) rfl rfl Try.func132 (by kernel_rfl) rfl #[.string x0_1] rfl (by simp only [List.map_toArray, List.map_cons, List.map_nil] <;> rfl) ?_; (with_reducible refine (term_whole.calls x0_1 t1003 t1004 _ A11.out).mono ?_); rintro e w12 ⟨rfl, hb⟩; refine ⟨_, rfl, ?_⟩; have n0_ := Aside0.mk (below_step (by repeat with_reducible first | exact HB.out | apply below_alloc | apply pw_below_drewN | apply below_drew1) hb); clear HB; have HB := n0_; clear n0_; (try clear hb)))
        go_ret2
        exact ⟨by first | rfl | (simp [errW_none, errW_some] <;> rfl) | (simp [*, errW_none, errW_some] <;> rfl), by repeat (first | (with_reducible first | exact HB.out | apply below_alloc | apply pw_below_drewN | apply below_drew1) | exact HB.out)⟩

/-- Parts behind a head. -/
def addF (h : ByteArray) (l : List ByteArray) : ByteArray := l.foldl (· ++ ·) h
def ofF (h : ByteArray) (l : List ByteArray) : ByteArray × Int := if l.all rightB = true then wholeF (addF h l) else (⟨#[]⟩, 1)
def term_of.f (h : ByteArray) (l : List ByteArray) : Option (ByteArray × Int) := if h.size ≤ 100 ∧ l.length ≤ 3 ∧ ∀ x ∈ l, x.size < 9223372036854775808 then some (ofF h l) else none
theorem term_of.loop (l : List ByteArray) (hl : l.length ≤ 3) (hx : ∀ x ∈ l, x.size < 9223372036854775808) : ∀ (d k i : Nat) (h : ByteArray), i + d = l.length → d < k → h.size ≤ 100 + i * 20000 →
    term_of_p.l0 k h l (l.length : Int) i = some (ofF h (l.drop i))
  | d, 0, _, _, _, hk, _ => by omega
  | 0, k + 1, i, h, hi, _, _ => by
    simp only [term_of_p.l0]
    rw [if_neg (by omega), List.drop_eq_nil_of_le (by omega)]
    unfold term_whole.f
    rfl
  | d + 1, k + 1, i, h, hi, hk, hs => by
    simp only [term_of_p.l0]
    have hil : i < l.length := by omega
    have e : rdOf ByteArray.empty l (i : Int) = l[i] := by simp [rdOf, List.getD_eq_getElem?_getD, hil]
    rw [if_pos (by omega), if_pos (by omega), if_pos (by omega), e, List.drop_eq_getElem_cons hil]
    unfold term_Right.f
    rw [if_pos (hx _ (List.getElem_mem hil))]
    simp only [Option.bind_some]
    unfold ofF
    rw [List.all_cons]
    by_cases c : rightB l[i] = true
    · have := right_pos c
      rw [if_pos c, if_pos (by omega), show wrap64 ((i : Int) + 1) = ((i + 1 : Nat) : Int) by unfold wrap64; omega, term_of.loop l hl hx d k (i + 1) _ (by omega) (by omega) (by rw [ByteArray.size_append]; omega), c]
      rfl
    · have c' : rightB l[i] = false := by simpa using c
      rw [if_neg c, c']
      rfl
theorem term_of.eq (h : ByteArray) (l : List ByteArray) (r : ByteArray × Int) (e : term_of.f h l = some r) : term_of_p.f 5 h l = some r := by
  unfold term_of.f at e
  split at e
  case isFalse => cases e
  rename_i hs
  rw [← e]
  unfold term_of_p.f
  have := term_of.loop l hs.2.1 hs.2.2 l.length 5 0 h (by omega) (by omega) (by omega)
  rwa [List.drop_zero] at this
theorem term_of.calls (a0 : ByteArray) (A1 : Option Addr) (c1 : Nat) (l1 : List ByteArray) (r1 : ByteArray) (r2 : Int) (w : World) (hr1 : Kd.C Kd.string w A1 l1.length l1) (hc1 : l1.length ≤ c1) (h : term_of.f a0 l1 = some (r1, r2)) :
    Calls Try.prog 112 #[.string a0, .slice A1 l1.length c1] w fun e w' => e = .returned (.tuple #[.string r1, .int .i64 r2]) ∧ Below w.heap.size w w' :=
  term_of_p.calls 5 a0 A1 c1 l1 r1 r2 w hr1 hc1 (term_of.eq a0 l1 _ h)

end Go.Proofs.Ytppimpadfgldjaa.F
namespace Go.Proofs.Ytppimpadfgldjaa.F
open Go.RowKit Go.Proofs.YtppimpadfgldjaaW.PrintWords Go.Proofs.YtppimpadfgldjaaW.PrintLast Go.Proofs.YtppimpadfgldjaaW.PrintMore
attribute [local go_sem] max2_int min2_int max_two min_two max_three min_three max_four min_four
set_option linter.unusedVariables false
set_option linter.unusedSimpArgs false

/-! ### term_Pair: function 123 -/
/-! #### term_Pair_p: function 123 -/
def term_Pair_p.f (a0 : ByteArray) (a1 : ByteArray) : Option (ByteArray × Int) := (term_of.f (⟨#[112]⟩ : ByteArray) (([a0, a1] : List ByteArray))).bind fun bt1004 => (some (bt1004.1, bt1004.2))
set_option maxHeartbeats 8000000 in
set_option maxRecDepth 100000 in
theorem term_Pair_p.calls (a0 : ByteArray) (a1 : ByteArray) (r1 : ByteArray) (r2 : Int) (w : World) (h : term_Pair_p.f a0 a1 = some (r1, r2)) :
    Calls Try.prog 123 #[.string a0, .string a1] w fun e w' => e = .returned (.tuple #[.string r1, .int .i64 r2]) ∧ Below w.heap.size w w' := by
  have HB := Aside0.mk (Below.refl w.heap.size w)
  have H : ((term_of.f (⟨#[112]⟩ : ByteArray) (([a0, a1] : List ByteArray))).bind fun bt1004 => (some (bt1004.1, bt1004.2))) = some (r1, r2) := h
  clear h
  obtain ⟨y1001, hy1001⟩ : ∃ y_ : List ByteArray, y_ = (([a0, a1] : List ByteArray)) := ⟨_, rfl⟩
  replace H : ((term_of.f (⟨#[112]⟩ : ByteArray) y1001).bind fun bt1004 => (some (bt1004.1, bt1004.2))) = some (r1, r2) := by first | (rw [hy1001]; with_reducible exact H) | (have H2_ := (Option.bind_some _ _).symm.trans H; rw [hy1001]; with_reducible exact H2_) | (have H2_ := (Option.bind_some _ _).symm.trans H; with_reducible exact H2_) | with_reducible exact H | (rw [hy1001]; exact H) | exact H
  have Ny1001 := Aside0.mk hy1001
  clear hy1001
  replace H := Option.bind_eq_some_iff.mp H
  obtain ⟨⟨t1004, t1005⟩, A30, H⟩ := H
  replace H : (some (t1004, t1005)) = some (r1, r2) := H
  have A3 := Aside0.mk A30
  clear A30
  simp only [Option.some.injEq, Prod.mk.injEq] at H
  obtain ⟨rfl, rfl⟩ := H
  go_enter Try.func123, Try.ntmps123
  go_wp2_with (first | ((with_reducible refine gate_dst (N := 8) rfl ?_); refine Kd.R_lit Kd.string _ 48 ?hg (N := 8) ?hd (xs := ([a0, a1] : List ByteArray)) (inner := [.string a0, .string a1]) (ok := fun _ => True) (okp := fun _ => True) ?hr ?hp (fun _ hk => hk) trivial (Below.refl _ _) (Nat.le_refl _) (by simp) ?_; (case hd => rfl); (case hg => rfl); (case hr => first | (go_simp; done) | (go_simp; rfl)); (case hp => exact (Reps.one (show Kd.M Kd.string _ _ _ a0 [.string a0] from rfl) (Reps.one (show Kd.M Kd.string _ _ _ a1 [.string a1] from rfl) (Reps.none _ _)))); intro v1002 w4 ho5 hb hg_ hnew_; clear hg_ hnew_; (first | rw [← Ny1001.out] at ho5 | (simp only [Int.reduceToNat] at ho5; rw [← Ny1001.out] at ho5)); have n0_ := Aside0.mk (Kd.R_lower ho5 (below_size (by repeat with_reducible first | exact HB.out | apply below_alloc | apply pw_below_drewN | apply below_drew1))); have n1_ := Aside0.mk (below_step (by repeat with_reducible first | exact HB.out | apply below_alloc | apply pw_below_drewN | apply below_drew1) hb); clear HB; have HO1003 := n0_; have HB := n1_; clear n0_ n1_; clear hb ho5; obtain ⟨Ao6, co6, eo6⟩ := Kd.R_slice HO1003.out; subst eo6) | ((with_reducible refine gate_callee (f := 112) rfl ?_); refine goesL_ (some 9) rfl rfl Try.func112 (by kernel_rfl) rfl #[.string (⟨#[112]⟩ : ByteArray), .slice Ao6 y1001.length co6] rfl (by (try simp only [List.map_toArray, List.map_cons, List.map_nil]); first | done | rfl | (simp only [List.length_drop, List.length_take]; rfl)) ?_; (with_reducible refine (term_of.calls (⟨#[112]⟩ : ByteArray) _ _ y1001 t1004 t1005 _ ?side1 ?side2 A3.out).mono ?_); (case side1 => repeat (first | exact (Kd.R_reads' HO1003.out).2.2 | (with_reducible refine Kd.C_alloc ?_ _) | (with_reducible refine Kd.C_drewN ?_ _) | (with_reducible refine Kd.C_drew ?_))); (case side2 => exact (Kd.R_reads' HO1003.out).2.1); rintro e w7 ⟨rfl, hb⟩; refine ⟨_, rfl, ?_⟩; have n0_ := Aside0.mk (Kd.R_below (by (with_reducible repeat (first | apply Kd.R_alloc | apply Kd.R_drewN | apply Kd.R_drew)); exact HO1003.out) hb); have n1_ := Aside0.mk (below_step (by repeat with_reducible first | exact HB.out | apply below_alloc | apply pw_below_drewN | apply below_drew1) hb); clear HO1003; clear HB; have HO1003 := n0_; have HB := n1_; clear n0_ n1_; (try clear hb)))
  go_ret2
  exact ⟨by first | rfl | (simp [errW_none, errW_some] <;> rfl) | (simp [*, errW_none, errW_some] <;> rfl), by repeat (first | (with_reducible first | exact HB.out | apply below_alloc | apply pw_below_drewN | apply below_drew1) | exact HB.out)⟩

def pairF (a0 : ByteArray) (a1 : ByteArray) : ByteArray × Int := ofF ⟨#[112]⟩ [a0, a1]
def term_Pair.f (a0 : ByteArray) (a1 : ByteArray) : Option (ByteArray × Int) := if a0.size < 9223372036854775808 ∧ a1.size < 9223372036854775808 then some (pairF a0 a1) else none
theorem term_Pair.eq (a0 : ByteArray) (a1 : ByteArray) (h : a0.size < 9223372036854775808 ∧ a1.size < 9223372036854775808) : term_Pair_p.f a0 a1 = term_Pair.f a0 a1 := by
  unfold term_Pair_p.f term_of.f term_Pair.f
  rw [if_pos h, if_pos ⟨by show 1 ≤ 100; omega, by simp, by simp; omega⟩]
  rfl
theorem term_Pair.calls (a0 : ByteArray) (a1 : ByteArray) (r1 : ByteArray) (r2 : Int) (w : World) (h : term_Pair.f a0 a1 = some (r1, r2)) :
    Calls Try.prog 123 #[.string a0, .string a1] w fun e w' => e = .returned (.tuple #[.string r1, .int .i64 r2]) ∧ Below w.heap.size w w' := by
  have hs : a0.size < 9223372036854775808 ∧ a1.size < 9223372036854775808 := by
    unfold term_Pair.f at h
    split at h
    · assumption
    · cases h
  exact term_Pair_p.calls a0 a1 r1 r2 w ((term_Pair.eq a0 a1 hs).trans h)

end Go.Proofs.Ytppimpadfgldjaa.F
namespace Go.Proofs.Ytppimpadfgldjaa.F
open Go.RowKit Go.Proofs.YtppimpadfgldjaaW.PrintWords Go.Proofs.YtppimpadfgldjaaW.PrintLast Go.Proofs.YtppimpadfgldjaaW.PrintMore
attribute [local go_sem] max2_int min2_int max_two min_two max_three min_three max_four min_four
set_option linter.unusedVariables false
set_option linter.unusedSimpArgs false

/-! ### term_Hash: function 89 -/
/-! #### term_Hash_p: function 89 -/
def term_Hash_p.f (a0 : ByteArray) : Option (ByteArray × Int) := (term_of.f (⟨#[104]⟩ : ByteArray) (([a0] : List ByteArray))).bind fun bt1004 => (some (bt1004.1, bt1004.2))
set_option maxHeartbeats 8000000 in
set_option maxRecDepth 100000 in
theorem term_Hash_p.calls (a0 : ByteArray) (r1 : ByteArray) (r2 : Int) (w : World) (h : term_Hash_p.f a0 = some (r1, r2)) :
    Calls Try.prog 89 #[.string a0] w fun e w' => e = .returned (.tuple #[.string r1, .int .i64 r2]) ∧ Below w.heap.size w w' := by
  have HB := Aside0.mk (Below.refl w.heap.size w)
  have H : ((term_of.f (⟨#[104]⟩ : ByteArray) (([a0] : List ByteArray))).bind fun bt1004 => (some (bt1004.1, bt1004.2))) = some (r1, r2) := h
  clear h
  obtain ⟨y1001, hy1001⟩ : ∃ y_ : List ByteArray, y_ = (([a0] : List ByteArray)) := ⟨_, rfl⟩
  replace H : ((term_of.f (⟨#[104]⟩ : ByteArray) y1001).bind fun bt1004 => (some (bt1004.1, bt1004.2))) = some (r1, r2) := by first | (rw [hy1001]; with_reducible exact H) | (have H2_ := (Option.bind_some _ _).symm.trans H; rw [hy1001]; with_reducible exact H2_) | (have H2_ := (Option.bind_some _ _).symm.trans H; with_reducible exact H2_) | with_reducible exact H | (rw [hy1001]; exact H) | exact H
  have Ny1001 := Aside0.mk hy1001
  clear hy1001
  replace H := Option.bind_eq_some_iff.mp H
  obtain ⟨⟨t1004, t1005⟩, A20, H⟩ := H
  replace H : (some (t1004, t1005)) = some (r1, r2) := H
  have A2 := Aside0.mk A20
  clear A20
  simp only [Option.some.injEq, Prod.mk.injEq] at H
  obtain ⟨rfl, rfl⟩ := H
  go_enter Try.func89, Try.ntmps89
  go_wp2_with (first | ((with_reducible refine gate_dst (N := 5) rfl ?_); refine Kd.R_lit Kd.string _ 48 ?hg (N := 5) ?hd (xs := ([a0] : List ByteArray)) (inner := [.string a0]) (ok := fun _ => True) (okp := fun _ => True) ?hr ?hp (fun _ hk => hk) trivial (Below.refl _ _) (Nat.le_refl _) (by simp) ?_; (case hd => rfl); (case hg => rfl); (case hr => first | (go_simp; done) | (go_simp; rfl)); (case hp => exact (Reps.one (show Kd.M Kd.string _ _ _ a0 [.string a0] from rfl) (Reps.none _ _))); intro v1002 w3 ho4 hb hg_ hnew_; clear hg_ hnew_; (first | rw [← Ny1001.out] at ho4 | (simp only [Int.reduceToNat] at ho4; rw [← Ny1001.out] at ho4)); have n0_ := Aside0.mk (Kd.R_lower ho4 (below_size (by repeat with_reducible first | exact HB.out | apply below_alloc | apply pw_below_drewN | apply below_drew1))); have n1_ := Aside0.mk (below_step (by repeat with_reducible first | exact HB.out | apply below_alloc | apply pw_below_drewN | apply below_drew1) hb); clear HB; have HO1003 := n0_; have HB := n1_; clear n0_ n1_; clear hb ho4; obtain ⟨Ao5, co5, eo5⟩ := Kd.R_slice HO1003.out; subst eo5) | ((with_reducible refine gate_callee (f := 112) rfl ?_); refine goesL_ (some 6) rfl rfl Try.func112 (by kernel_rfl) rfl #[.string (⟨#[104]⟩ : ByteArray), .slice Ao5 y1001.length co5] rfl (by (try simp only [List.map_toArray, List.map_cons, List.map_nil]); first | done | rfl | (simp only [List.length_drop, List.length_take]; rfl)) ?_; (with_reducible refine (term_of.calls (⟨#[104]⟩ : ByteArray) _ _ y1001 t1004 t1005 _ ?side1 ?side2 A2.out).mono ?_); (case side1 => repeat (first | exact (Kd.R_reads' HO1003.out).2.2 | (with_reducible refine Kd.C_alloc ?_ _) | (with_reducible refine Kd.C_drewN ?_ _) | (with_reducible refine Kd.C_drew ?_))); (case side2 => exact (Kd.R_reads' HO1003.out).2.1); rintro e w6 ⟨rfl, hb⟩; refine ⟨_, rfl, ?_⟩; have n0_ := Aside0.mk (Kd.R_below (by (with_reducible repeat (first | apply Kd.R_alloc | apply Kd.R_drewN | apply Kd.R_drew)); exact HO1003.out) hb); have n1_ := Aside0.mk (below_step (by repeat with_reducible first | exact HB.out | apply below_alloc | apply pw_below_drewN | apply below_drew1) hb); clear HO1003; clear HB; have HO1003 := n0_; have HB := n1_; clear n0_ n1_; (try clear hb)))
  go_ret2
  exact ⟨by first | rfl | (simp [errW_none, errW_some] <;> rfl) | (simp [*, errW_none, errW_some] <;> rfl), by repeat (first | (with_reducible first | exact HB.out | apply below_alloc | apply pw_below_drewN | apply below_drew1) | exact HB.out)⟩

def hashF (a0 : ByteArray) : ByteArray × Int := ofF ⟨#[104]⟩ [a0]
def term_Hash.f (a0 : ByteArray) : Option (ByteArray × Int) := if a0.size < 9223372036854775808 then some (hashF a0) else none
theorem term_Hash.eq (a0 : ByteArray) (h : a0.size < 9223372036854775808) : term_Hash_p.f a0 = term_Hash.f a0 := by
  unfold term_Hash_p.f term_of.f term_Hash.f
  rw [if_pos h, if_pos ⟨by show 1 ≤ 100; omega, by simp, by simp; omega⟩]
  rfl
theorem term_Hash.calls (a0 : ByteArray) (r1 : ByteArray) (r2 : Int) (w : World) (h : term_Hash.f a0 = some (r1, r2)) :
    Calls Try.prog 89 #[.string a0] w fun e w' => e = .returned (.tuple #[.string r1, .int .i64 r2]) ∧ Below w.heap.size w w' := by
  have hs : a0.size < 9223372036854775808 := by
    unfold term_Hash.f at h
    split at h
    · assumption
    · cases h
  exact term_Hash_p.calls a0 r1 r2 w ((term_Hash.eq a0 hs).trans h)

end Go.Proofs.Ytppimpadfgldjaa.F
namespace Go.Proofs.Ytppimpadfgldjaa.F
open Go.RowKit Go.Proofs.YtppimpadfgldjaaW.PrintWords Go.Proofs.YtppimpadfgldjaaW.PrintLast Go.Proofs.YtppimpadfgldjaaW.PrintMore
attribute [local go_sem] max2_int min2_int max_two min_two max_three min_three max_four min_four
set_option linter.unusedVariables false
set_option linter.unusedSimpArgs false

/-! ### term_Seal: function 84 -/
/-! #### term_Seal_p: function 84 -/
def term_Seal_p.f (a0 : ByteArray) (a1 : ByteArray) (a2 : ByteArray) : Option (ByteArray × Int) := (term_of.f (⟨#[115]⟩ : ByteArray) (([a0, a1, a2] : List ByteArray))).bind fun bt1004 => (some (bt1004.1, bt1004.2))
set_option maxHeartbeats 8000000 in
set_option maxRecDepth 100000 in
theorem term_Seal_p.calls (a0 : ByteArray) (a1 : ByteArray) (a2 : ByteArray) (r1 : ByteArray) (r2 : Int) (w : World) (h : term_Seal_p.f a0 a1 a2 = some (r1, r2)) :
    Calls Try.prog 84 #[.string a0, .string a1, .string a2] w fun e w' => e = .returned (.tuple #[.string r1, .int .i64 r2]) ∧ Below w.heap.size w w' := by
  have HB := Aside0.mk (Below.refl w.heap.size w)
  have H : ((term_of.f (⟨#[115]⟩ : ByteArray) (([a0, a1, a2] : List ByteArray))).bind fun bt1004 => (some (bt1004.1, bt1004.2))) = some (r1, r2) := h
  clear h
  obtain ⟨y1001, hy1001⟩ : ∃ y_ : List ByteArray, y_ = (([a0, a1, a2] : List ByteArray)) := ⟨_, rfl⟩
  replace H : ((term_of.f (⟨#[115]⟩ : ByteArray) y1001).bind fun bt1004 => (some (bt1004.1, bt1004.2))) = some (r1, r2) := by first | (rw [hy1001]; with_reducible exact H) | (have H2_ := (Option.bind_some _ _).symm.trans H; rw [hy1001]; with_reducible exact H2_) | (have H2_ := (Option.bind_some _ _).symm.trans H; with_reducible exact H2_) | with_reducible exact H | (rw [hy1001]; exact H) | exact H
  have Ny1001 := Aside0.mk hy1001
  clear hy1001
  replace H := Option.bind_eq_some_iff.mp H
  obtain ⟨⟨t1004, t1005⟩, A40, H⟩ := H
  replace H : (some (t1004, t1005)) = some (r1, r2) := H
  have A4 := Aside0.mk A40
  clear A40
  simp only [Option.some.injEq, Prod.mk.injEq] at H
  obtain ⟨rfl, rfl⟩ := H
  go_enter Try.func84, Try.ntmps84
  go_wp2_with (first | ((with_reducible refine gate_dst (N := 11) rfl ?_); refine Kd.R_lit Kd.string _ 48 ?hg (N := 11) ?hd (xs := ([a0, a1, a2] : List ByteArray)) (inner := [.string a0, .string a1, .string a2]) (ok := fun _ => True) (okp := fun _ => True) ?hr ?hp (fun _ hk => hk) trivial (Below.refl _ _) (Nat.le_refl _) (by simp) ?_; (case hd => rfl); (case hg => rfl); (case hr => first | (go_simp; done) | (go_simp; rfl)); (case hp => exact (Reps.one (show Kd.M Kd.string _ _ _ a0 [.string a0] from rfl) (Reps.one (show Kd.M Kd.string _ _ _ a1 [.string a1] from rfl) (Reps.one (show Kd.M Kd.string _ _ _ a2 [.string a2] from rfl) (Reps.none _ _))))); intro v1002 w5 ho6 hb hg_ hnew_; clear hg_ hnew_; (first | rw [← Ny1001.out] at ho6 | (simp only [Int.reduceToNat] at ho6; rw [← Ny1001.out] at ho6)); have n0_ := Aside0.mk (Kd.R_lower ho6 (below_size (by repeat with_reducible first | exact HB.out | apply below_alloc | apply pw_below_drewN | apply below_drew1))); have n1_ := Aside0.mk (below_step (by repeat with_reducible first | exact HB.out | apply below_alloc | apply pw_below_drewN | apply below_drew1) hb); clear HB; have HO1003 := n0_; have HB := n1_; clear n0_ n1_; clear hb ho6; obtain ⟨Ao7, co7, eo7⟩ := Kd.R_slice HO1003.out; subst eo7) | ((with_reducible refine gate_callee (f := 112) rfl ?_); refine goesL_ (some 12) rfl rfl Try.func112 (by kernel_rfl) rfl #[.string (⟨#[115]⟩ : ByteArray), .slice Ao7 y1001.length co7] rfl (by (try simp only [List.map_toArray, List.map_cons, List.map_nil]); first | done | rfl | (simp only [List.length_drop, List.length_take]; rfl)) ?_; (with_reducible refine (term_of.calls (⟨#[115]⟩ : ByteArray) _ _ y1001 t1004 t1005 _ ?side1 ?side2 A4.out).mono ?_); (case side1 => repeat (first | exact (Kd.R_reads' HO1003.out).2.2 | (with_reducible refine Kd.C_alloc ?_ _) | (with_reducible refine Kd.C_drewN ?_ _) | (with_reducible refine Kd.C_drew ?_))); (case side2 => exact (Kd.R_reads' HO1003.out).2.1); rintro e w8 ⟨rfl, hb⟩; refine ⟨_, rfl, ?_⟩; have n0_ := Aside0.mk (Kd.R_below (by (with_reducible repeat (first | apply Kd.R_alloc | apply Kd.R_drewN | apply Kd.R_drew)); exact HO1003.out) hb); have n1_ := Aside0.mk (below_step (by repeat with_reducible first | exact HB.out | apply below_alloc | apply pw_below_drewN | apply below_drew1) hb); clear HO1003; clear HB; have HO1003 := n0_; have HB := n1_; clear n0_ n1_; (try clear hb)))
  go_ret2
  exact ⟨by first | rfl | (simp [errW_none, errW_some] <;> rfl) | (simp [*, errW_none, errW_some] <;> rfl), by repeat (first | (with_reducible first | exact HB.out | apply below_alloc | apply pw_below_drewN | apply below_drew1) | exact HB.out)⟩

def sealF (a0 : ByteArray) (a1 : ByteArray) (a2 : ByteArray) : ByteArray × Int := ofF ⟨#[115]⟩ [a0, a1, a2]
def term_Seal.f (a0 : ByteArray) (a1 : ByteArray) (a2 : ByteArray) : Option (ByteArray × Int) := if a0.size < 9223372036854775808 ∧ a1.size < 9223372036854775808 ∧ a2.size < 9223372036854775808 then some (sealF a0 a1 a2) else none
theorem term_Seal.eq (a0 : ByteArray) (a1 : ByteArray) (a2 : ByteArray) (h : a0.size < 9223372036854775808 ∧ a1.size < 9223372036854775808 ∧ a2.size < 9223372036854775808) : term_Seal_p.f a0 a1 a2 = term_Seal.f a0 a1 a2 := by
  unfold term_Seal_p.f term_of.f term_Seal.f
  rw [if_pos h, if_pos ⟨by show 1 ≤ 100; omega, by simp, by simp; omega⟩]
  rfl
theorem term_Seal.calls (a0 : ByteArray) (a1 : ByteArray) (a2 : ByteArray) (r1 : ByteArray) (r2 : Int) (w : World) (h : term_Seal.f a0 a1 a2 = some (r1, r2)) :
    Calls Try.prog 84 #[.string a0, .string a1, .string a2] w fun e w' => e = .returned (.tuple #[.string r1, .int .i64 r2]) ∧ Below w.heap.size w w' := by
  have hs : a0.size < 9223372036854775808 ∧ a1.size < 9223372036854775808 ∧ a2.size < 9223372036854775808 := by
    unfold term_Seal.f at h
    split at h
    · assumption
    · cases h
  exact term_Seal_p.calls a0 a1 a2 r1 r2 w ((term_Seal.eq a0 a1 a2 hs).trans h)

end Go.Proofs.Ytppimpadfgldjaa.F
namespace Go.Proofs.Ytppimpadfgldjaa.F
open Go.RowKit Go.Proofs.YtppimpadfgldjaaW.PrintWords Go.Proofs.YtppimpadfgldjaaW.PrintLast Go.Proofs.YtppimpadfgldjaaW.PrintMore
attribute [local go_sem] max2_int min2_int max_two min_two max_three min_three max_four min_four
set_option linter.unusedVariables false
set_option linter.unusedSimpArgs false

/-! ### term_Sign: function 55 -/
/-! #### term_Sign_p: function 55 -/
def term_Sign_p.f (a0 : ByteArray) (a1 : ByteArray) : Option (ByteArray × Int) := (term_of.f (⟨#[120]⟩ : ByteArray) (([a0, a1] : List ByteArray))).bind fun bt1004 => (some (bt1004.1, bt1004.2))
set_option maxHeartbeats 8000000 in
set_option maxRecDepth 100000 in
theorem term_Sign_p.calls (a0 : ByteArray) (a1 : ByteArray) (r1 : ByteArray) (r2 : Int) (w : World) (h : term_Sign_p.f a0 a1 = some (r1, r2)) :
    Calls Try.prog 55 #[.string a0, .string a1] w fun e w' => e = .returned (.tuple #[.string r1, .int .i64 r2]) ∧ Below w.heap.size w w' := by
  have HB := Aside0.mk (Below.refl w.heap.size w)
  have H : ((term_of.f (⟨#[120]⟩ : ByteArray) (([a0, a1] : List ByteArray))).bind fun bt1004 => (some (bt1004.1, bt1004.2))) = some (r1, r2) := h
  clear h
  obtain ⟨y1001, hy1001⟩ : ∃ y_ : List ByteArray, y_ = (([a0, a1] : List ByteArray)) := ⟨_, rfl⟩
  replace H : ((term_of.f (⟨#[120]⟩ : ByteArray) y1001).bind fun bt1004 => (some (bt1004.1, bt1004.2))) = some (r1, r2) := by first | (rw [hy1001]; with_reducible exact H) | (have H2_ := (Option.bind_some _ _).symm.trans H; rw [hy1001]; with_reducible exact H2_) | (have H2_ := (Option.bind_some _ _).symm.trans H; with_reducible exact H2_) | with_reducible exact H | (rw [hy1001]; exact H) | exact H
  have Ny1001 := Aside0.mk hy1001
  clear hy1001
  replace H := Option.bind_eq_some_iff.mp H
  obtain ⟨⟨t1004, t1005⟩, A30, H⟩ := H
  replace H : (some (t1004, t1005)) = some (r1, r2) := H
  have A3 := Aside0.mk A30
  clear A30
  simp only [Option.some.injEq, Prod.mk.injEq] at H
  obtain ⟨rfl, rfl⟩ := H
  go_enter Try.func55, Try.ntmps55
  go_wp2_with (first | ((with_reducible refine gate_dst (N := 8) rfl ?_); refine Kd.R_lit Kd.string _ 48 ?hg (N := 8) ?hd (xs := ([a0, a1] : List ByteArray)) (inner := [.string a0, .string a1]) (ok := fun _ => True) (okp := fun _ => True) ?hr ?hp (fun _ hk => hk) trivial (Below.refl _ _) (Nat.le_refl _) (by simp) ?_; (case hd => rfl); (case hg => rfl); (case hr => first | (go_simp; done) | (go_simp; rfl)); (case hp => exact (Reps.one (show Kd.M Kd.string _ _ _ a0 [.string a0] from rfl) (Reps.one (show Kd.M Kd.string _ _ _ a1 [.string a1] from rfl) (Reps.none _ _)))); intro v1002 w4 ho5 hb hg_ hnew_; clear hg_ hnew_; (first | rw [← Ny1001.out] at ho5 | (simp only [Int.reduceToNat] at ho5; rw [← Ny1001.out] at ho5)); have n0_ := Aside0.mk (Kd.R_lower ho5 (below_size (by repeat with_reducible first | exact HB.out | apply below_alloc | apply pw_below_drewN | apply below_drew1))); have n1_ := Aside0.mk (below_step (by repeat with_reducible first | exact HB.out | apply below_alloc | apply pw_below_drewN | apply below_drew1) hb); clear HB; have HO1003 := n0_; have HB := n1_; clear n0_ n1_; clear hb ho5; obtain ⟨Ao6, co6, eo6⟩ := Kd.R_slice HO1003.out; subst eo6) | ((with_reducible refine gate_callee (f := 112) rfl ?_); refine goesL_ (some 9) rfl rfl Try.func112 (by kernel_rfl) rfl #[.string (⟨#[120]⟩ : ByteArray), .slice Ao6 y1001.length co6] rfl (by (try simp only [List.map_toArray, List.map_cons, List.map_nil]); first | done | rfl | (simp only [List.length_drop, List.length_take]; rfl)) ?_; (with_reducible refine (term_of.calls (⟨#[120]⟩ : ByteArray) _ _ y1001 t1004 t1005 _ ?side1 ?side2 A3.out).mono ?_); (case side1 => repeat (first | exact (Kd.R_reads' HO1003.out).2.2 | (with_reducible refine Kd.C_alloc ?_ _) | (with_reducible refine Kd.C_drewN ?_ _) | (with_reducible refine Kd.C_drew ?_))); (case side2 => exact (Kd.R_reads' HO1003.out).2.1); rintro e w7 ⟨rfl, hb⟩; refine ⟨_, rfl, ?_⟩; have n0_ := Aside0.mk (Kd.R_below (by (with_reducible repeat (first | apply Kd.R_alloc | apply Kd.R_drewN | apply Kd.R_drew)); exact HO1003.out) hb); have n1_ := Aside0.mk (below_step (by repeat with_reducible first | exact HB.out | apply below_alloc | apply pw_below_drewN | apply below_drew1) hb); clear HO1003; clear HB; have HO1003 := n0_; have HB := n1_; clear n0_ n1_; (try clear hb)))
  go_ret2
  exact ⟨by first | rfl | (simp [errW_none, errW_some] <;> rfl) | (simp [*, errW_none, errW_some] <;> rfl), by repeat (first | (with_reducible first | exact HB.out | apply below_alloc | apply pw_below_drewN | apply below_drew1) | exact HB.out)⟩

def signF (a0 : ByteArray) (a1 : ByteArray) : ByteArray × Int := ofF ⟨#[120]⟩ [a0, a1]
def term_Sign.f (a0 : ByteArray) (a1 : ByteArray) : Option (ByteArray × Int) := if a0.size < 9223372036854775808 ∧ a1.size < 9223372036854775808 then some (signF a0 a1) else none
theorem term_Sign.eq (a0 : ByteArray) (a1 : ByteArray) (h : a0.size < 9223372036854775808 ∧ a1.size < 9223372036854775808) : term_Sign_p.f a0 a1 = term_Sign.f a0 a1 := by
  unfold term_Sign_p.f term_of.f term_Sign.f
  rw [if_pos h, if_pos ⟨by show 1 ≤ 100; omega, by simp, by simp; omega⟩]
  rfl
theorem term_Sign.calls (a0 : ByteArray) (a1 : ByteArray) (r1 : ByteArray) (r2 : Int) (w : World) (h : term_Sign.f a0 a1 = some (r1, r2)) :
    Calls Try.prog 55 #[.string a0, .string a1] w fun e w' => e = .returned (.tuple #[.string r1, .int .i64 r2]) ∧ Below w.heap.size w w' := by
  have hs : a0.size < 9223372036854775808 ∧ a1.size < 9223372036854775808 := by
    unfold term_Sign.f at h
    split at h
    · assumption
    · cases h
  exact term_Sign_p.calls a0 a1 r1 r2 w ((term_Sign.eq a0 a1 hs).trans h)

end Go.Proofs.Ytppimpadfgldjaa.F
namespace Go.Proofs.Ytppimpadfgldjaa.F
open Go.RowKit Go.Proofs.YtppimpadfgldjaaW.PrintWords Go.Proofs.YtppimpadfgldjaaW.PrintLast Go.Proofs.YtppimpadfgldjaaW.PrintMore
attribute [local go_sem] max2_int min2_int max_two min_two max_three min_three max_four min_four
set_option linter.unusedVariables false
set_option linter.unusedSimpArgs false

/-! ### term_Depth: function 75 -/
/-! #### term_Depth_p: function 75 -/
def term_Depth_p.f (a0 : ByteArray) : Option (Int) := (term_Right.f a0).bind fun t1001 => (if t1001 = true then ((term_scan.f a0).bind fun bt1002 => (some bt1002.2.1)) else (some 0))
set_option maxHeartbeats 8000000 in
set_option maxRecDepth 100000 in
theorem term_Depth_p.calls (a0 : ByteArray) (r : Int) (w : World) (h : term_Depth_p.f a0 = some r) :
    Calls Try.prog 75 #[.string a0] w fun e w' => e = .returned (.int .i64 r) ∧ Below w.heap.size w w' := by
  have HB := Aside0.mk (Below.refl w.heap.size w)
  have H : ((term_Right.f a0).bind fun t1001 => (if t1001 = true then ((term_scan.f a0).bind fun bt1002 => (some bt1002.2.1)) else (some 0))) = some r := h
  clear h
  replace H := Option.bind_eq_some_iff.mp H
  obtain ⟨t1001, A20, H⟩ := H
  replace H : (if t1001 = true then ((term_scan.f a0).bind fun bt1002 => (some bt1002.2.1)) else (some 0)) = some r := H
  have A2 := Aside0.mk A20
  clear A20
  by_cases c3 : t1001 = true
  · subst c3
    have H1 : ((term_scan.f a0).bind fun bt1002 => (some bt1002.2.1)) = some r := by rw [if_pos rfl] at H; exact H
    clear H
    have H := H1
    clear H1
    replace H := Option.bind_eq_some_iff.mp H
    obtain ⟨⟨t1002, t1003, t1004⟩, A40, H⟩ := H
    replace H : (some t1003) = some r := H
    have A4 := Aside0.mk A40
    clear A40
    obtain rfl := Option.some.inj H
    go_enter Try.func75, Try.ntmps75
    go_wp2_with (first | ((with_reducible refine gate_callee (f := 101) rfl ?_); refine goesL_ (some 7) rfl rfl Try.func101 (by kernel_rfl) rfl #[.string a0] rfl (by simp only [List.map_toArray, List.map_cons, List.map_nil] <;> rfl) ?_; (with_reducible refine (term_Right.calls a0 true _ A2.out).mono ?_); rintro e w5 ⟨rfl, hb⟩; refine ⟨_, rfl, ?_⟩; have n0_ := Aside0.mk (below_step (by repeat with_reducible first | exact HB.out | apply below_alloc | apply pw_below_drewN | apply below_drew1) hb); clear HB; have HB := n0_; clear n0_; (try clear hb)) | ((with_reducible refine gate_callee (f := 128) rfl ?_); refine goesL_ (some 11) rfl rfl Try.func128 (by kernel_rfl) rfl #[.string a0] rfl (by simp only [List.map_toArray, List.map_cons, List.map_nil] <;> rfl) ?_; (with_reducible refine (term_scan.calls a0 t1002 t1003 t1004 _ A4.out).mono ?_); rintro e w6 ⟨rfl, hb⟩; refine ⟨_, rfl, ?_⟩; have n0_ := Aside0.mk (below_step (by repeat with_reducible first | exact HB.out | apply below_alloc | apply pw_below_drewN | apply below_drew1) hb); clear HB; have HB := n0_; clear n0_; (try clear hb)))
    go_ret
    exact ⟨by first | rfl | (simp [errW_none, errW_some] <;> rfl) | (simp [*, errW_none, errW_some] <;> rfl), by repeat (first | (with_reducible first | exact HB.out | apply below_alloc | apply pw_below_drewN | apply below_drew1) | exact HB.out)⟩
  · replace c3 := Bool.eq_false_iff.mpr c3
    subst c3
    have H1 : (some 0) = some r := by rw [if_neg (show ¬ (false = true) by decide)] at H; exact H
    clear H
    have H := H1
    clear H1
    obtain rfl := Option.some.inj H
    go_enter Try.func75, Try.ntmps75
    go_wp2_with (first | ((with_reducible refine gate_callee (f := 101) rfl ?_); refine goesL_ (some 7) rfl rfl Try.func101 (by kernel_rfl) rfl #[.string a0] rfl (by simp only [List.map_toArray, List.map_cons, List.map_nil] <;> rfl) ?_; (with_reducible refine (term_Right.calls a0 false _ A2.out).mono ?_); rintro e w7 ⟨rfl, hb⟩; refine ⟨_, rfl, ?_⟩; have n0_ := Aside0.mk (below_step (by repeat with_reducible first | exact HB.out | apply below_alloc | apply pw_below_drewN | apply below_drew1) hb); clear HB; have HB := n0_; clear n0_; (try clear hb)))
    go_ret
    exact ⟨by first | rfl | (simp [errW_none, errW_some] <;> rfl) | (simp [*, errW_none, errW_some] <;> rfl), by repeat (first | (with_reducible first | exact HB.out | apply below_alloc | apply pw_below_drewN | apply below_drew1) | exact HB.out)⟩

def depthF (t : ByteArray) : Int := if rightB t = true then (scanF t).2.1 else 0
def term_Depth.f (t : ByteArray) : Option Int := if t.size < 9223372036854775808 then some (depthF t) else none
theorem term_Depth.eq (t : ByteArray) (hs : t.size < 9223372036854775808) : term_Depth_p.f t = term_Depth.f t := by
  unfold term_Depth_p.f term_Right.f term_scan.f term_Depth.f depthF
  rw [if_pos hs, if_pos hs, if_pos hs]
  simp only [Option.bind_some]
  split <;> rfl
theorem term_Depth.calls (a0 : ByteArray) (r : Int) (w : World) (h : term_Depth.f a0 = some r) :
    Calls Try.prog 75 #[.string a0] w fun e w' => e = .returned (.int .i64 r) ∧ Below w.heap.size w w' := by
  have hs : a0.size < 9223372036854775808 := by
    unfold term_Depth.f at h
    split at h
    · assumption
    · cases h
  exact term_Depth_p.calls a0 r w ((term_Depth.eq a0 hs).trans h)

end Go.Proofs.Ytppimpadfgldjaa.F
namespace Go.Proofs.Ytppimpadfgldjaa.Pure
set_option linter.unusedVariables false
set_option linter.unusedSimpArgs false
open Go.RowKit Go.Proofs.Ytppimpadfgldjaa.F Go.Proofs.YtppimpadfgldjaaW.PrintWords Go.Proofs.YtppimpadfgldjaaW.PrintLast

/-! ### Texts by their bytes -/
def bl (s : ByteArray) : List UInt8 := s.data.toList
theorem bl_inj {a b : ByteArray} (h : bl a = bl b) : a = b := ByteArray.ext (Array.ext' h)
theorem bl_mk (l : List UInt8) : bl ⟨l.toArray⟩ = l := rfl
theorem bl_app (a b : ByteArray) : bl (a ++ b) = bl a ++ bl b := by simp [bl, ByteArray.data_append]
theorem less_iff (a b : ByteArray) : Op.bytesLess a.toList b.toList = true ↔ bl a < bl b := by
  rw [Go.Proofs.bytesLess_eq, decide_eq_true_eq, Lib.toList_data, Lib.toList_data]; rfl
theorem less_not (a b : ByteArray) : Op.bytesLess a.toList b.toList = false ↔ bl b ≤ bl a := by
  rw [← List.not_lt, ← less_iff]; simp
theorem rises_pairwise : ∀ (l : List ByteArray) (a : ByteArray), Rises a l ↔ (a :: l).Pairwise (fun x y => bl x ≤ bl y)
  | [], a => by simp [Rises]
  | t :: l, a => by
    rw [Rises, less_not, rises_pairwise l t]
    constructor
    · rintro ⟨h1, h2⟩
      refine List.pairwise_cons.mpr ⟨fun y hy => ?_, h2⟩
      rcases List.mem_cons.mp hy with rfl | hy
      · exact h1
      · exact List.le_trans h1 ((List.pairwise_cons.mp h2).1 y hy)
    · intro h
      exact ⟨(List.pairwise_cons.mp h).1 t List.mem_cons_self, (List.pairwise_cons.mp h).2⟩
theorem nil_le (l : List UInt8) : ([] : List UInt8) ≤ l := by
  rw [← List.not_lt]; exact List.not_lt_nil l
theorem rises_nil (l : List ByteArray) : Rises ⟨#[]⟩ l ↔ l.Pairwise (fun x y => bl x ≤ bl y) := by
  rw [rises_pairwise, List.pairwise_cons]
  exact ⟨fun h => h.2, fun h => ⟨fun y _ => nil_le _, h⟩⟩
theorem sortB_perm (l : List ByteArray) : (sortB l).Perm l := by
  unfold sortB
  have h := (List.mergeSort_perm (l.map (·.data.toList)) fun x y => decide (x ≤ y)).map fun x => (⟨x.toArray⟩ : ByteArray)
  rw [List.map_map] at h
  have e : l.map ((fun x => (⟨x.toArray⟩ : ByteArray)) ∘ fun x => x.data.toList) = l := by
    have : ((fun x : List UInt8 => (⟨x.toArray⟩ : ByteArray)) ∘ fun x => x.data.toList) = id := by funext x; simp
    rw [this, List.map_id]
  rw [e] at h
  exact h
theorem sortB_sorted (l : List ByteArray) : (sortB l).Pairwise (fun x y => bl x ≤ bl y) := by
  unfold sortB
  rw [List.pairwise_map]
  have h := List.pairwise_mergeSort (le := fun x y : List UInt8 => decide (x ≤ y)) (fun a b c h1 h2 => by
    rw [decide_eq_true_eq] at h1 h2 ⊢; exact List.le_trans h1 h2) (fun a b => by
    rw [Bool.or_eq_true, decide_eq_true_eq, decide_eq_true_eq]; exact List.le_total a b) (l.map (·.data.toList))
  exact h.imp fun {a b} h => by rw [decide_eq_true_eq] at h; exact h
theorem sorted_unique {a b : List ByteArray} (ha : a.Pairwise (fun x y => bl x ≤ bl y)) (hb : b.Pairwise (fun x y => bl x ≤ bl y)) (h : a.Perm b) : a = b :=
  List.Perm.eq_of_pairwise (fun _ _ _ _ h1 h2 => bl_inj (List.le_antisymm h1 h2)) ha hb h
theorem sortB_of_perm {a b : List ByteArray} (h : a.Perm b) : sortB a = sortB b :=
  sorted_unique (sortB_sorted a) (sortB_sorted b) (((sortB_perm a).trans h).trans (sortB_perm b).symm)
theorem sortB_of_sorted {a : List ByteArray} (h : a.Pairwise (fun x y => bl x ≤ bl y)) : sortB a = a := sorted_unique (sortB_sorted a) h (sortB_perm a)
theorem sortB_rises (l : List ByteArray) : Rises ⟨#[]⟩ (sortB l) := (rises_nil _).mpr (sortB_sorted l)
theorem joinB_cat (l : List ByteArray) : joinB l = cat l := by
  apply bl_inj
  show Lib.join (l.map (·.data.toList)) [] = bl (cat l)
  cases l with
  | nil => rfl
  | cons x l =>
    rw [List.map_cons, Lib.join_cons, cat, bl_app]
    congr 1
    induction l with
    | nil => rfl
    | cons y l ih =>
      have e : Lib.joinTail [] ((y :: l).map (·.data.toList)) = y.data.toList ++ Lib.joinTail [] (l.map (·.data.toList)) := by simp [Lib.joinTail]
      rw [e, ih, cat, bl_app]
      rfl
theorem cat_size_perm {a b : List ByteArray} (h : a.Perm b) : (cat a).size = (cat b).size := by
  induction h with
  | nil => rfl
  | cons x _ ih => simp only [cat, ByteArray.size_append, ih]
  | swap x y l => simp only [cat, ByteArray.size_append]; omega
  | trans _ _ h1 h2 => exact h1.trans h2
theorem deepest_le {m dep : Int} {ts : List ByteArray} (h : ∀ t ∈ ts, depF t ≤ m) (hd : dep ≤ m) : deepest dep ts ≤ m := by
  unfold deepest
  induction ts generalizing dep with
  | nil => exact hd
  | cons t ts ih =>
    rw [List.foldl_cons]
    exact ih (fun x hx => h x (List.mem_cons_of_mem _ hx)) (by have := h t List.mem_cons_self; unfold mx; split <;> omega)
theorem le_deepest {dep : Int} {ts : List ByteArray} : dep ≤ deepest dep ts ∧ ∀ t ∈ ts, depF t ≤ deepest dep ts := by
  unfold deepest
  induction ts generalizing dep with
  | nil => exact ⟨Int.le_refl _, by simp⟩
  | cons t ts ih =>
    rw [List.foldl_cons]
    have h1 := @ih (mx dep (depF t))
    have h2 : dep ≤ mx dep (depF t) ∧ depF t ≤ mx dep (depF t) := by unfold mx; split <;> omega
    refine ⟨by omega, fun x hx => ?_⟩
    rcases List.mem_cons.mp hx with rfl | hx
    · omega
    · exact h1.2 x hx
theorem cat_mem_size {t : ByteArray} : ∀ {ts : List ByteArray}, t ∈ ts → t.size ≤ (cat ts).size
  | x :: ts, h => by
    rw [cat, ByteArray.size_append]
    rcases List.mem_cons.mp h with rfl | h
    · omega
    · have := cat_mem_size h; omega

/-! ### What stands in a term -/
theorem split_cat : ∀ (ts : List ByteArray) (k : Nat), (∀ t ∈ ts, Tm t ∧ t.size ≤ 20000) → (cat ts).size ≤ k → splitF k (cat ts) = ts
  | [], 0, _, _ => rfl
  | [], k + 1, _, _ => by rw [splitF, if_pos (show (cat []).size = 0 from rfl)]
  | t :: ts, 0, h, hk => by
    have := (h t List.mem_cons_self).1.pos
    rw [cat, ByteArray.size_append] at hk
    omega
  | t :: ts, k + 1, h, hk => by
    have h1 := h t List.mem_cons_self
    have h2 := h1.1.pos
    rw [cat, ByteArray.size_append] at hk
    rw [splitF, if_neg (by rw [cat, ByteArray.size_append]; omega), cat, take_app h1.1 h1.2]
    simp only
    rw [split_cat ts k (fun x hx => h x (List.mem_cons_of_mem _ hx)) (by omega)]
theorem bt_head {t h : ByteArray} {ts : List ByteArray} {pow : Bool} (n : Node t h ts pow) : bt t 0 = bt h 0 := by
  rw [n.eq]
  exact bt_left h (cat ts) 0 n.head.pos
theorem Node.body {t h : ByteArray} {ts : List ByteArray} {pow : Bool} (n : Node t h ts pow) : t.extract h.size t.size = cat ts := by
  have := (Lies.last h (cat ts)).whole
  rw [← n.eq, ← ByteArray.size_append, ← n.eq] at this
  exact this
theorem Node.small {t h : ByteArray} {ts : List ByteArray} {pow : Bool} (n : Node t h ts pow) (hs : t.size ≤ 20000) : ∀ x ∈ ts, Tm x ∧ x.size ≤ 20000 := by
  intro x hx
  have h1 := cat_mem_size hx
  have h2 : t.size = h.size + (cat ts).size := by rw [n.eq, ByteArray.size_append]
  exact ⟨(n.parts x hx).1, by omega⟩
theorem leaf_bytes {t : ByteArray} (h : Leaf t) : bt t 0 = 103 ∨ bt t 0 = 110 ∨ bt t 0 = 117 ∨ bt t 0 = 105 ∨ bt t 0 = 116 := by
  have := h.1
  unfold leafF at this
  repeat' split at this
  all_goals first | omega | (exact absurd rfl this)
theorem node_bytes {t h : ByteArray} {ts : List ByteArray} {pow : Bool} (n : Node t h ts pow) : bt t 0 = 107 ∨ bt t 0 = 104 ∨ bt t 0 = 112 ∨ bt t 0 = 120 ∨ bt t 0 = 115 ∨ (bt t 0 = 101 ∧ pow = true) := by
  rw [bt_head n]
  cases n.head
  · exact .inl rfl
  · exact .inr (.inl rfl)
  · exact .inr (.inr (.inl rfl))
  · exact .inr (.inr (.inr (.inl rfl)))
  · exact .inr (.inr (.inr (.inr (.inl rfl))))
  · exact .inr (.inr (.inr (.inr (.inr ⟨rfl, rfl⟩))))
/-- An element of exponents. -/
def elmOf (l : List ByteArray) : ByteArray := if l = [] then ⟨#[103]⟩ else (⟨#[101, UInt8.ofNat l.length]⟩ : ByteArray) ++ cat (sortB l)
theorem head_pow (n : Nat) (h : n ≤ 32) : strOfNums [101, (n : Nat)] = (⟨#[101, UInt8.ofNat n]⟩ : ByteArray) := by
  show (⟨#[UInt8.ofNat 101, UInt8.ofNat ((n : Int)).toNat]⟩ : ByteArray) = _
  rw [Int.toNat_natCast]
  rfl
theorem elmOf_node {l : List ByteArray} (h0 : l ≠ []) (h1 : l.length ≤ 32) (hp : ∀ x ∈ l, Tm x ∧ depF x ≤ 399) : Node (elmOf l) ⟨#[101, UInt8.ofNat l.length]⟩ (sortB l) true := by
  have hl := sortB_length l
  refine ⟨by unfold elmOf; rw [if_neg h0], ?_, fun x hx => hp x (sort_mem l x hx), fun _ => sortB_rises l⟩
  have := HeadOf.pow (sortB l) (by rw [hl]; exact List.length_pos_iff.mpr h0) (by rw [hl]; exact h1)
  rwa [hl] at this
theorem elmOf_size {l : List ByteArray} (h0 : l ≠ []) : (elmOf l).size = 2 + (cat l).size := by
  unfold elmOf
  rw [if_neg h0, ByteArray.size_append, cat_size_perm (sortB_perm l)]
  rfl
theorem elmOf_inj {l m : List ByteArray} (hl : l.length ≤ 32) (hm : m.length ≤ 32) (h1 : ∀ x ∈ l, Tm x ∧ depF x ≤ 399) (h2 : ∀ x ∈ m, Tm x ∧ depF x ≤ 399) (h : elmOf l = elmOf m) : l.Perm m := by
  by_cases c : l = []
  · by_cases d : m = []
    · rw [c, d]
    · have := congrArg (fun x => bt x 0) h
      rw [bt_head (elmOf_node d hm h2)] at this
      unfold elmOf at this
      rw [if_pos c] at this
      exact absurd this (by show ¬ ((103 : Int) = 101); decide)
  · by_cases d : m = []
    · have := congrArg (fun x => bt x 0) h
      rw [bt_head (elmOf_node c hl h1)] at this
      unfold elmOf at this
      rw [if_pos d] at this
      exact absurd this (by show ¬ ((101 : Int) = 103); decide)
    · have h3 := h
      unfold elmOf at h3
      rw [if_neg c, if_neg d] at h3
      have h4 := congrArg (fun x => bl x) h3
      simp only [bl_app] at h4
      have h5 := (List.append_inj h4 rfl).2
      have h6 := cat_inj (fun t ht => (h1 t (sort_mem l t ht)).1) (fun t ht => (h2 t (sort_mem m t ht)).1) (bl_inj h5)
      have := sortB_perm l
      rw [h6] at this
      exact this.symm.trans (sortB_perm m)
theorem exps_node {t h : ByteArray} {ts : List ByteArray} (n : Node t h ts true) (hs : t.size ≤ 20000) : expsF t = ts := by
  have hb : bt t 0 = 101 := by
    rcases node_bytes n with q | q | q | q | q | q
    all_goals first | exact q.1 | skip
    all_goals (rw [bt_head n] at q; have hh := n.head; cases hh; exact absurd q (by show ¬ ((101 : Int) = _); decide))
  unfold expsF
  rw [if_neg (by omega)]
  have h2 := n.body
  rw [show h.size = 2 by rw [n.head.size]; rfl] at h2
  rw [h2]
  exact split_cat ts _ (n.small hs) (by have := congrArg ByteArray.size n.eq; rw [ByteArray.size_append] at this; omega)
/-- A right element is one of its exponents, which stand in it by bytes. -/
theorem elem_cases {t : ByteArray} (h : elemB t = true) : t = elmOf (expsF t) ∧ (expsF t).length ≤ 32 ∧ (∀ x ∈ expsF t, Tm x ∧ depF x ≤ 399 ∧ x.size ≤ 20000) ∧ (expsF t).Pairwise (fun x y => bl x ≤ bl y) := by
  unfold elemB at h
  rw [Bool.and_eq_true, Bool.or_eq_true, beq_iff_eq, beq_iff_eq] at h
  obtain ⟨hr, hb⟩ := h
  obtain ⟨ht, hs⟩ := (right_iff t).mp hr
  rcases ht.cases with hl | ⟨hd, ts, pow, n⟩
  · have h103 : bt t 0 = 103 := by have := leaf_bytes hl; omega
    have h1 : leafF t = 1 := by unfold leafF; rw [if_pos h103]
    have h2 : t.size = 1 := by have := hl.2; omega
    have he : expsF t = [] := by unfold expsF; rw [if_pos h103]
    rw [he]
    refine ⟨?_, by simp, by simp, List.Pairwise.nil⟩
    refine ext_bt h2 fun j hj => ?_
    obtain rfl : j = 0 := by omega
    rw [show ((0 : Nat) : Int) = 0 from rfl, h103]
    rfl
  · have hp : pow = true ∧ bt t 0 = 101 := by
      rcases node_bytes n with q | q | q | q | q | q
      all_goals first | exact ⟨q.2, q.1⟩ | omega
    obtain ⟨rfl, h101⟩ := hp
    have he := exps_node n hs
    rw [he]
    have hd2 := n.head
    have hr := n.rises rfl
    have hsorted := (rises_nil ts).mp hr
    cases hd2 with
    | pow _ h1 h2 =>
      have hne : ts ≠ [] := by rintro rfl; simp at h1
      refine ⟨?_, h2, fun x hx => ⟨(n.parts x hx).1, (n.parts x hx).2, (n.small hs x hx).2⟩, hsorted⟩
      unfold elmOf
      rw [if_neg hne, sortB_of_sorted hsorted]
      exact n.eq
theorem elem_of_node {l : List ByteArray} (h0 : l ≠ []) (h1 : l.length ≤ 32) (hp : ∀ x ∈ l, Tm x ∧ depF x ≤ 399) (hs : (elmOf l).size ≤ 20000) : elemB (elmOf l) = true ∧ expsF (elmOf l) = sortB l := by
  have n := elmOf_node h0 h1 hp
  refine ⟨?_, exps_node n hs⟩
  unfold elemB
  rw [(right_iff _).mpr ⟨n.tm.1, hs⟩, bt_head n]
  rfl
theorem gen_elem : elemB ⟨#[103]⟩ = true ∧ expsF ⟨#[103]⟩ = [] := by
  have hl : Leaf ⟨#[103]⟩ := by
    have : leafF ⟨#[103]⟩ = 1 := by unfold leafF; rfl
    exact ⟨by rw [this]; decide, by rw [this]; rfl⟩
  refine ⟨?_, rfl⟩
  unfold elemB
  rw [(right_iff _).mpr ⟨hl.tm.1, by decide⟩]
  rfl
/-- What a power comes to. -/
theorem pow_eq {a b : ByteArray} (ha : elemB a = true) (hb : rightB b = true) : powF a b = if 32 < (expsF a).length + 1 then (⟨#[]⟩, 3) else wholeF (elmOf (expsF a ++ [b])) := by
  unfold powF
  rw [if_pos ha, if_pos hb]
  by_cases c : 32 < (expsF a).length + 1
  · rw [if_pos c, if_pos c]
  · rw [if_neg c, if_neg c, head_pow _ (by omega), joinB_cat]
    unfold elmOf
    rw [if_neg (by simp), List.length_append]
    rfl
theorem whole_ok {t : ByteArray} (h : (wholeF t).2 = 0) : (wholeF t).1 = t ∧ rightB t = true ∧ t.size ≤ 20000 := by
  unfold wholeF at h ⊢
  split at h
  · exact absurd h (by decide)
  · rename_i c
    rw [if_neg c]
    split at h
    · rename_i d
      rw [if_pos d]
      exact ⟨rfl, d, by omega⟩
    · exact absurd h (by decide)
theorem whole_right {t : ByteArray} (h : rightB t = true) : wholeF t = (t, 0) := by
  have := (right_iff t).mp h
  unfold wholeF
  rw [if_neg (by omega), if_pos h]
theorem whole_codes (t : ByteArray) : (wholeF t).2 = 0 ∨ (wholeF t = (⟨#[]⟩, 3)) ∨ (wholeF t = (⟨#[]⟩, 4)) := by
  unfold wholeF
  split
  · exact .inr (.inl rfl)
  · split
    · exact .inl rfl
    · exact .inr (.inr rfl)
/-- Is a node right? -/
theorem node_right {t h : ByteArray} {ts : List ByteArray} {pow : Bool} (n : Node t h ts pow) (hs : t.size ≤ 20000) : rightB t = true := (right_iff t).mpr ⟨n.tm.1, hs⟩
theorem addF_cat (h : ByteArray) (l : List ByteArray) : addF h l = h ++ cat l := by
  unfold addF
  induction l generalizing h with
  | nil => rw [List.foldl_nil, cat, app_nil]
  | cons x l ih => rw [List.foldl_cons, ih, cat, app_assoc]
theorem ofF_ok {h : ByteArray} {l : List ByteArray} (hl : ∀ x ∈ l, rightB x = true) : ofF h l = wholeF (h ++ cat l) := by
  unfold ofF
  rw [if_pos (List.all_eq_true.mpr hl), addF_cat]
theorem ofF_bad {h : ByteArray} {l : List ByteArray} {x : ByteArray} (hx : x ∈ l) (hb : rightB x = false) : ofF h l = (⟨#[]⟩, 1) := by
  unfold ofF
  rw [if_neg]
  intro q
  have := List.all_eq_true.mp q x hx
  rw [hb] at this
  exact absurd this (by simp)
/-- A term deeper than may be is none. -/
theorem deep_not {h : ByteArray} {ts : List ByteArray} {pow : Bool} (hh : HeadOf h ts pow) (hp : ∀ x ∈ ts, Tm x) {x : ByteArray} (hx : x ∈ ts) (hd : 400 ≤ depF x) : ¬ Tm (h ++ cat ts) := by
  intro ht
  rcases ht.cases with hl | ⟨h', ts', pow', n⟩
  · have h1 := leaf_bytes hl
    rw [show bt (h ++ cat ts) 0 = bt h 0 from bt_left h (cat ts) 0 hh.pos] at h1
    have e : ∀ x, bt ⟨#[101, x]⟩ 0 = 101 := fun _ => rfl
    cases hh <;> first | exact absurd h1 (by decide) | (simp only [e] at h1; exact absurd h1 (by decide))
  · have hz : h.size = h'.size ∧ pow = pow' := by
      have h1 := bt_head n
      rw [show bt (h ++ cat ts) 0 = bt h 0 from bt_left h (cat ts) 0 hh.pos] at h1
      have h2 := n.head
      have e : ∀ x, bt ⟨#[101, x]⟩ 0 = 101 := fun _ => rfl
      cases hh <;> cases h2 <;> first | exact ⟨rfl, rfl⟩ | exact absurd h1 (by decide) | (simp only [e] at h1; exact absurd h1 (by decide))
    have h3 := congrArg bl n.eq
    rw [bl_app, bl_app] at h3
    have h4 := List.append_inj h3 hz.1
    have h5 := cat_inj hp (fun t ht => (n.parts t ht).1) (bl_inj h4.2)
    have := (n.parts x (by rw [← h5]; exact hx)).2
    omega
end Go.Proofs.Ytppimpadfgldjaa.Pure
namespace Go.Proofs.Ytppimpadfgldjaa.Pure
set_option linter.unusedVariables false
set_option linter.unusedSimpArgs false
open Go.RowKit Go.Proofs.Ytppimpadfgldjaa.F Go.Proofs.YtppimpadfgldjaaW.PrintWords Go.Proofs.YtppimpadfgldjaaW.PrintLast

/-! ### Leaves -/
theorem leaf_of {t : ByteArray} (h : leafF t = t.size) (h0 : 0 < t.size) : Leaf t := ⟨by omega, h⟩
theorem Leaf.right {t : ByteArray} (h : Leaf t) (hs : t.size ≤ 20000) : rightB t = true := (right_iff t).mpr ⟨h.tm.1, hs⟩
theorem num_leaf (n : Int) : Leaf (numF n) := by
  have b0 : bt (numF n) 0 = 117 := rfl
  have hz : (numF n).size = 9 := rfl
  exact leaf_of (by unfold leafF; rw [b0, hz]; rfl) (by omega)
theorem name_leaf (n : Int) : Leaf (nameF n) := by
  have b0 : bt (nameF n) 0 = 110 := rfl
  have hz : (nameF n).size = 9 := rfl
  exact leaf_of (by unfold leafF; rw [b0, hz]; rfl) (by omega)
theorem name_size (n : Int) : (nameF n).size = 9 := rfl
theorem gen_leaf : Leaf ⟨#[103]⟩ := leaf_of (by unfold leafF; rfl) (by decide)
theorem priv_ok {p : Int} (h1 : 1 ≤ p) (h2 : p ≤ 8) : privF p = (⟨#[105, UInt8.ofNat p.toNat]⟩, 0) ∧ Leaf ⟨#[105, UInt8.ofNat p.toNat]⟩ := by
  have e : strOfNums [105, p] = ⟨#[105, UInt8.ofNat p.toNat]⟩ := rfl
  refine ⟨by unfold privF; rw [if_pos ⟨h1, h2⟩, e], ?_⟩
  have b0 : bt ⟨#[105, UInt8.ofNat p.toNat]⟩ 0 = 105 := rfl
  have b1 : bt ⟨#[105, UInt8.ofNat p.toNat]⟩ 1 = p := by
    have h4 : bt (⟨#[105, UInt8.ofNat p.toNat]⟩ : ByteArray) 1 = ((UInt8.ofNat p.toNat).toNat : Int) := rfl
    rw [h4, UInt8.toNat_ofNat_of_lt' (by show p.toNat < 256; omega)]
    omega
  have hz : (⟨#[105, UInt8.ofNat p.toNat]⟩ : ByteArray).size = 2 := rfl
  refine leaf_of ?_ (by omega)
  unfold leafF
  rw [b0, b1, hz]
  simp only [show ¬ ((105 : Int) = 103) from by decide, show ¬ ((105 : Int) = 110 ∨ (105 : Int) = 117) from by decide, if_false, if_true]
  rw [if_pos ⟨by omega, h1, h2⟩]
  rfl
theorem text_bytes (s : ByteArray) (h : s.size ≤ 100) : bt (strOfNums [116, 0, s.size] ++ s) 0 = 116 ∧ bt (strOfNums [116, 0, s.size] ++ s) 1 = 0 ∧ bt (strOfNums [116, 0, s.size] ++ s) 2 = s.size ∧ (strOfNums [116, 0, s.size] ++ s).size = 3 + s.size := by
  have hz : (strOfNums [116, 0, (s.size : Int)]).size = 3 := rfl
  refine ⟨bt_left _ s 0 (by omega), bt_left _ s 1 (by omega), (bt_left _ s 2 (by omega)).trans ?_, by rw [ByteArray.size_append, hz]⟩
  have h4 : bt (strOfNums [116, 0, (s.size : Int)]) ((2 : Nat) : Int) = ((UInt8.ofNat ((s.size : Int)).toNat).toNat : Int) := rfl
  rw [h4, UInt8.toNat_ofNat_of_lt' (by show ((s.size : Int)).toNat < 256; omega)]
  omega
theorem text_ok {s : ByteArray} (h : s.size ≤ 100) : textF s = (strOfNums [116, 0, s.size] ++ s, 0) ∧ Leaf (strOfNums [116, 0, s.size] ++ s) := by
  refine ⟨by unfold textF; rw [if_neg (by omega)], ?_⟩
  obtain ⟨b0, b1, b2, hz⟩ := text_bytes s h
  refine leaf_of ?_ (by omega)
  unfold leafF
  rw [b0, b1, b2, hz]
  simp only [show ¬ ((116 : Int) = 103) from by decide, show ¬ ((116 : Int) = 110 ∨ (116 : Int) = 117) from by decide, show ¬ ((116 : Int) = 105) from by decide, if_false, if_true]
  rw [if_pos ⟨by omega, trivial, by omega, by omega⟩]
  omega

/-! ### What is put together -/
theorem mem2 {P : ByteArray → Prop} {a b : ByteArray} (ha : P a) (hb : P b) : ∀ x ∈ [a, b], P x := by
  intro x hx
  rcases List.mem_cons.mp hx with rfl | hx
  · exact ha
  · rw [List.mem_singleton.mp hx]; exact hb
theorem mem3 {P : ByteArray → Prop} {a b c : ByteArray} (ha : P a) (hb : P b) (hc : P c) : ∀ x ∈ [a, b, c], P x := by
  intro x hx
  rcases List.mem_cons.mp hx with rfl | hx
  · exact ha
  · exact mem2 hb hc x hx
theorem mem1 {P : ByteArray → Prop} {a : ByteArray} (ha : P a) : ∀ x ∈ [a], P x := by
  intro x hx
  rw [List.mem_singleton.mp hx]; exact ha
/-- A right term that is not too deep to be a part. -/
structure Part (m : Int) (t : ByteArray) : Prop where
  right : rightB t = true
  dep : depF t ≤ m
theorem Part.tm {m : Int} {t : ByteArray} (h : Part m t) : Tm t := ((right_iff t).mp h.right).1
theorem Part.size {m : Int} {t : ByteArray} (h : Part m t) : t.size ≤ 20000 := ((right_iff t).mp h.right).2
theorem Part.mono {m n : Int} {t : ByteArray} (h : Part m t) (hmn : m ≤ n) : Part n t := ⟨h.right, by have := h.dep; omega⟩
theorem Leaf.part {t : ByteArray} (h : Leaf t) (hs : t.size ≤ 20000) {m : Int} (hm : 1 ≤ m) : Part m t := ⟨h.right hs, by rw [h.tm.2]; exact hm⟩
/-- What is put together of right parts is as it should be, if it is not too long. -/
theorem node_made {m : Int} (hm : m ≤ 399) {h : ByteArray} {ts : List ByteArray} {pow : Bool} (hh : HeadOf h ts pow) (hp : ∀ x ∈ ts, Part m x) (hr : pow = true → Rises ⟨#[]⟩ ts) (h0 : 0 ≤ m) :
    Node (h ++ cat ts) h ts pow ∧ depF (h ++ cat ts) ≤ m + 1 := by
  have n : Node (h ++ cat ts) h ts pow := ⟨rfl, hh, fun x hx => ⟨(hp x hx).tm, by have := (hp x hx).dep; omega⟩, hr⟩
  refine ⟨n, ?_⟩
  rw [n.tm.2]
  have := deepest_le (m := m) (dep := 0) (ts := ts) (fun t ht => (hp t ht).dep) h0
  omega
theorem ofF_made {m : Int} (hm : m ≤ 399) (h0 : 0 ≤ m) {h : ByteArray} {ts : List ByteArray} (hh : HeadOf h ts false) (hp : ∀ x ∈ ts, Part m x) :
    ofF h ts = (if 20000 < (h ++ cat ts).size then (⟨#[]⟩, 3) else (h ++ cat ts, 0)) ∧ ((h ++ cat ts).size ≤ 20000 → Part (m + 1) (h ++ cat ts)) := by
  obtain ⟨n, hd⟩ := node_made hm hh hp (fun h => absurd h (by simp)) h0
  rw [ofF_ok (fun x hx => (hp x hx).right)]
  refine ⟨?_, fun hs => ⟨node_right n hs, hd⟩⟩
  unfold wholeF
  split
  · rfl
  · rw [if_pos (node_right n (by omega))]
theorem cat1 (a : ByteArray) : cat [a] = a := by simp only [cat]; exact app_nil a
theorem cat2 (a b : ByteArray) : cat [a, b] = a ++ b := by rw [cat, cat1]
theorem cat3 (a b c : ByteArray) : cat [a, b, c] = a ++ (b ++ c) := by rw [cat, cat2]
theorem pair_made {m : Int} (hm : m ≤ 399) (h0 : 0 ≤ m) {a b : ByteArray} (ha : Part m a) (hb : Part m b) (hs : a.size + b.size < 20000) : pairF a b = ((⟨#[112]⟩ : ByteArray) ++ cat [a, b], 0) ∧ Part (m + 1) ((⟨#[112]⟩ : ByteArray) ++ cat [a, b]) := by
  have hz : ((⟨#[112]⟩ : ByteArray) ++ cat [a, b]).size = 1 + (a.size + b.size) := by rw [cat2, ByteArray.size_append, ByteArray.size_append]; rfl
  have := ofF_made hm h0 (HeadOf.pair a b) (mem2 ha hb)
  exact ⟨by unfold pairF; rw [this.1, if_neg (by omega)], this.2 (by omega)⟩
theorem sign_made {m : Int} (hm : m ≤ 399) (h0 : 0 ≤ m) {a b : ByteArray} (ha : Part m a) (hb : Part m b) (hs : a.size + b.size < 20000) : signF a b = ((⟨#[120]⟩ : ByteArray) ++ cat [a, b], 0) ∧ Part (m + 1) ((⟨#[120]⟩ : ByteArray) ++ cat [a, b]) := by
  have hz : ((⟨#[120]⟩ : ByteArray) ++ cat [a, b]).size = 1 + (a.size + b.size) := by rw [cat2, ByteArray.size_append, ByteArray.size_append]; rfl
  have := ofF_made hm h0 (HeadOf.sign a b) (mem2 ha hb)
  exact ⟨by unfold signF; rw [this.1, if_neg (by omega)], this.2 (by omega)⟩
theorem hash_made {m : Int} (hm : m ≤ 399) (h0 : 0 ≤ m) {a : ByteArray} (ha : Part m a) (hs : a.size < 20000) : hashF a = ((⟨#[104]⟩ : ByteArray) ++ cat [a], 0) ∧ Part (m + 1) ((⟨#[104]⟩ : ByteArray) ++ cat [a]) := by
  have hz : ((⟨#[104]⟩ : ByteArray) ++ cat [a]).size = 1 + a.size := by rw [cat1, ByteArray.size_append]; rfl
  have := ofF_made hm h0 (HeadOf.hash a) (mem1 ha)
  exact ⟨by unfold hashF; rw [this.1, if_neg (by omega)], this.2 (by omega)⟩
theorem seal_made {m : Int} (hm : m ≤ 399) (h0 : 0 ≤ m) {a b c : ByteArray} (ha : Part m a) (hb : Part m b) (hc : Part m c) (hs : a.size + b.size + c.size < 20000) : sealF a b c = ((⟨#[115]⟩ : ByteArray) ++ cat [a, b, c], 0) ∧ Part (m + 1) ((⟨#[115]⟩ : ByteArray) ++ cat [a, b, c]) := by
  have hz : ((⟨#[115]⟩ : ByteArray) ++ cat [a, b, c]).size = 1 + (a.size + (b.size + c.size)) := by rw [cat3, ByteArray.size_append, ByteArray.size_append, ByteArray.size_append]; rfl
  have := ofF_made hm h0 (HeadOf.sealed a b c) (mem3 ha hb hc)
  exact ⟨by unfold sealF; rw [this.1, if_neg (by omega)], this.2 (by omega)⟩
theorem key_made {m : Int} (hm : m ≤ 399) (h0 : 0 ≤ m) {a : ByteArray} (ha : Part m a) (hr : (keyF a).2 = 0) : (keyF a).1 = (⟨#[107]⟩ : ByteArray) ++ cat [a] ∧ Part (m + 1) ((⟨#[107]⟩ : ByteArray) ++ cat [a]) ∧ elemB a = true := by
  unfold keyF at hr ⊢
  by_cases c : elemB a = true
  · rw [if_pos c] at hr ⊢
    have hb : bt a 0 = 103 ∨ bt a 0 = 101 := by
      unfold elemB at c
      rw [Bool.and_eq_true, Bool.or_eq_true, beq_iff_eq, beq_iff_eq] at c
      exact c.2
    obtain ⟨n, hd⟩ := node_made hm (HeadOf.key a hb) (mem1 ha) (fun h => absurd h (by simp)) h0
    have hw := whole_ok hr
    rw [cat1] at n hd ⊢
    exact ⟨hw.1, ⟨hw.2.1, hd⟩, c⟩
  · rw [if_neg c] at hr; exact absurd hr (by decide)
/-- The exponents of a right element stand less deep than it. -/
theorem exps_part {m : Int} {a : ByteArray} (ha : elemB a = true) (hp : Part m a) : ∀ x ∈ expsF a, Part (m - 1) x := by
  intro x hx
  have hc := elem_cases ha
  have hx2 := hc.2.2.1 x hx
  refine ⟨(right_iff x).mpr ⟨hx2.1, hx2.2.2⟩, ?_⟩
  have hne : expsF a ≠ [] := fun q => by rw [q] at hx; simp at hx
  have n := elmOf_node hne hc.2.1 (fun y hy => ⟨(hc.2.2.1 y hy).1, (hc.2.2.1 y hy).2.1⟩)
  rw [← hc.1] at n
  have h1 := n.tm.2
  have h2 := (le_deepest (dep := 0) (ts := sortB (expsF a))).2 x ((sortB_perm _).mem_iff.mpr hx)
  have h3 := hp.dep
  omega
theorem pow_made {m : Int} (hm : m ≤ 399) (h0 : 0 ≤ m) {a b : ByteArray} (ha : Part m a) (hb : Part m b) (hr : (powF a b).2 = 0) :
    elemB a = true ∧ (expsF a).length < 32 ∧ (powF a b).1 = elmOf (expsF a ++ [b]) ∧ Part (m + 1) (elmOf (expsF a ++ [b])) := by
  by_cases c : elemB a = true
  · rw [pow_eq c hb.right] at hr ⊢
    by_cases d : 32 < (expsF a).length + 1
    · rw [if_pos d] at hr; exact absurd hr (by decide)
    · rw [if_neg d] at hr ⊢
      have hw := whole_ok hr
      have hpart : ∀ x ∈ expsF a ++ [b], Part m x := by
        intro x hx
        rcases List.mem_append.mp hx with q | q
        · exact (exps_part c ha x q).mono (by omega)
        · rw [List.mem_singleton.mp q]; exact hb
      have n := elmOf_node (l := expsF a ++ [b]) (by simp) (by rw [List.length_append]; simp; omega) (fun x hx => ⟨(hpart x hx).tm, by have := (hpart x hx).dep; omega⟩)
      refine ⟨c, by omega, hw.1, ⟨hw.2.1, ?_⟩⟩
      rw [n.tm.2]
      have := deepest_le (m := m) (dep := 0) (ts := sortB (expsF a ++ [b])) (fun t ht => (hpart t ((sortB_perm _).mem_iff.mp ht)).dep) h0
      omega
  · unfold powF at hr
    rw [if_neg c] at hr; exact absurd hr (by decide)

/-! ### Raw numbers -/
def absF (c : Int) : Int := if c < 0 then -(c + 1) else c
def pickF (c n : Int) : Int := absF c % n
theorem pickF_range (c : Int) {n : Int} (h : 0 < n) : 0 ≤ pickF c n ∧ pickF c n < n := ⟨Int.emod_nonneg _ (by omega), Int.emod_lt_of_pos _ h⟩
theorem absF_range {c : Int} (h : -9223372036854775808 ≤ c ∧ c ≤ 9223372036854775807) : 0 ≤ absF c ∧ absF c ≤ 9223372036854775807 := by unfold absF; split <;> omega
def ab (j : Int) : ByteArray := (⟨#[97, 98]⟩ : ByteArray).extract 0 j.toNat
/-- A term of a raw number. -/
def nameT (n : Int) : ByteArray :=
  if absF n % 6 = 0 ∨ absF n % 6 = 1 then nameF (absF n / 6 % 5) else if absF n % 6 = 2 then numF (absF n / 6 % 5) else if absF n % 6 = 3 then (privF (1 + absF n / 6 % 5)).1
  else if absF n % 6 = 4 then (textF (ab (absF n / 6 % 5 % 3))).1 else ⟨#[103]⟩
theorem ab_size (j : Int) : (ab j).size ≤ 2 := by
  unfold ab
  rw [ByteArray.size_extract]
  show min _ 2 - 0 ≤ 2
  omega
theorem nameT_leaf (n : Int) : Leaf (nameT n) ∧ (nameT n).size ≤ 9 := by
  unfold nameT
  have h5 : 0 ≤ absF n / 6 % 5 ∧ absF n / 6 % 5 < 5 := ⟨Int.emod_nonneg _ (by omega), Int.emod_lt_of_pos _ (by omega)⟩
  split
  · exact ⟨name_leaf _, Nat.le_refl _⟩
  split
  · exact ⟨num_leaf _, Nat.le_refl _⟩
  split
  · have := priv_ok (p := 1 + absF n / 6 % 5) (by omega) (by omega)
    rw [this.1]
    exact ⟨this.2, by show 2 ≤ 9; omega⟩
  split
  · have hs := ab_size (absF n / 6 % 5 % 3)
    have := text_ok (s := ab (absF n / 6 % 5 % 3)) (by omega)
    rw [this.1]
    exact ⟨this.2, by rw [(text_bytes _ (by omega)).2.2.2]; omega⟩
  · exact ⟨gen_leaf, by show 1 ≤ 9; omega⟩
def atF (l : List ByteArray) (i : Int) : ByteArray := rdOf ByteArray.empty l i
/-- What a step makes, or what is wrong. -/
def resT (out : List ByteArray) (x : Int × Int × Int × Int) : ByteArray × Int :=
  let a := atF out (pickF x.2.1 out.length); let b := atF out (pickF x.2.2.1 out.length); let c := atF out (pickF x.2.2.2 out.length)
  if pickF x.1 10 = 1 ∨ pickF x.1 10 = 2 ∨ pickF x.1 10 = 3 then powF a b else if pickF x.1 10 = 4 then keyF a else if pickF x.1 10 = 5 ∨ pickF x.1 10 = 6 then pairF a b
  else if pickF x.1 10 = 7 then hashF a else if pickF x.1 10 = 8 then sealF a b c else if pickF x.1 10 = 9 then signF a b else (nameT x.2.1, 0)
def pickT (r : ByteArray × Int) (b : Int) : ByteArray := if r.2 = 0 ∧ r.1.size ≤ 600 then r.1 else nameT b
def mstepT (out : List ByteArray) (x : Int × Int × Int × Int) : List ByteArray := out ++ [pickT (resT out x) x.2.2.1]
def madeT (l : List (Int × Int × Int × Int)) : List ByteArray := (l.take 40).foldl mstepT [⟨#[103]⟩, nameT 1]
/-- What holds of terms that are made: right, short, no deeper than they are many. -/
structure MadeOk (out : List ByteArray) : Prop where
  two : 2 ≤ out.length
  small : ∀ t ∈ out, t.size ≤ 600
  part : ∀ t ∈ out, Part out.length t
theorem atF_mem {l : List ByteArray} {i : Int} (h0 : 0 ≤ i) (h : i < l.length) : atF l i ∈ l := by
  unfold atF rdOf
  rw [List.getD_eq_getElem?_getD, List.getElem?_eq_getElem (by omega)]
  exact List.getElem_mem _
theorem mstepT_ok {out : List ByteArray} (h : MadeOk out) (hl : out.length ≤ 100) (x : Int × Int × Int × Int) : MadeOk (mstepT out x) := by
  have h2 := h.two
  have hpos : (0 : Int) < (out.length : Int) := by omega
  have hm : ∀ c : Int, atF out (pickF c out.length) ∈ out := fun c => atF_mem (pickF_range c hpos).1 (pickF_range c hpos).2
  have hnew : (pickT (resT out x) x.2.2.1).size ≤ 600 ∧ Part (out.length + 1) (pickT (resT out x) x.2.2.1) := by
    unfold pickT
    split
    case isFalse =>
      have := nameT_leaf x.2.2.1
      exact ⟨by omega, this.1.part (by omega) (by omega)⟩
    rename_i hr
    refine ⟨hr.2, ?_⟩
    have hr := hr.1
    obtain ⟨a, ha⟩ : ∃ a, a = atF out (pickF x.2.1 out.length) := ⟨_, rfl⟩
    obtain ⟨b, hb⟩ : ∃ b, b = atF out (pickF x.2.2.1 out.length) := ⟨_, rfl⟩
    obtain ⟨c, hc⟩ : ∃ c, c = atF out (pickF x.2.2.2 out.length) := ⟨_, rfl⟩
    have ma := hm x.2.1
    have mb := hm x.2.2.1
    have mc := hm x.2.2.2
    unfold resT at hr ⊢
    simp only at hr ⊢
    rw [← ha] at ma hr ⊢
    rw [← hb] at mb hr ⊢
    rw [← hc] at mc hr ⊢
    have sa := h.small a ma
    have sb := h.small b mb
    have sc := h.small c mc
    have pa := h.part a ma
    have pb := h.part b mb
    have pc := h.part c mc
    split at hr
    · rename_i q
      rw [if_pos q]
      have := pow_made (by omega) (by omega) pa pb hr
      rw [this.2.2.1]; exact this.2.2.2
    rename_i q1
    rw [if_neg q1]
    split at hr
    · rename_i q
      rw [if_pos q]
      have := key_made (by omega) (by omega) pa hr
      rw [this.1]; exact this.2.1
    rename_i q2
    rw [if_neg q2]
    split
    · have := pair_made (by omega) (by omega) pa pb (by omega)
      rw [this.1]; exact this.2
    split
    · have := hash_made (by omega) (by omega) pa (by omega)
      rw [this.1]; exact this.2
    split
    · have := seal_made (by omega) (by omega) pa pb pc (by omega)
      rw [this.1]; exact this.2
    split
    · have := sign_made (by omega) (by omega) pa pb (by omega)
      rw [this.1]; exact this.2
    · have := nameT_leaf x.2.1
      exact this.1.part (by omega) (by omega)
  unfold mstepT
  refine ⟨by rw [List.length_append]; omega, ?_, ?_⟩
  · intro t ht
    rcases List.mem_append.mp ht with q | q
    · exact h.small t q
    · rw [List.mem_singleton.mp q]; exact hnew.1
  · intro t ht
    rw [List.length_append]
    rcases List.mem_append.mp ht with q | q
    · exact (h.part t q).mono (by simp; omega)
    · rw [List.mem_singleton.mp q]
      exact hnew.2.mono (by simp)
theorem fold_ok : ∀ (l : List (Int × Int × Int × Int)) (out : List ByteArray), MadeOk out → out.length + l.length ≤ 100 → MadeOk (l.foldl mstepT out) ∧ (l.foldl mstepT out).length = out.length + l.length
  | [], out, h, _ => ⟨h, rfl⟩
  | x :: l, out, h, hl => by
    rw [List.length_cons] at hl
    have h1 := mstepT_ok h (by omega) x
    have h2 : (mstepT out x).length = out.length + 1 := by unfold mstepT; rw [List.length_append]; rfl
    have := fold_ok l (mstepT out x) h1 (by omega)
    rw [List.foldl_cons, List.length_cons]
    exact ⟨this.1, by omega⟩
theorem made_start : MadeOk [⟨#[103]⟩, nameT 1] := by
  have h1 := nameT_leaf 1
  refine ⟨Nat.le_refl _, mem2 (by decide) (by omega), mem2 (gen_leaf.part (by decide) (by decide)) (h1.1.part (by omega) (by decide))⟩
theorem madeT_ok (l : List (Int × Int × Int × Int)) : MadeOk (madeT l) ∧ (madeT l).length ≤ 42 := by
  have := fold_ok (l.take 40) _ made_start (by rw [List.length_take]; show 2 + _ ≤ _; omega)
  refine ⟨this.1, ?_⟩
  have h2 := this.2
  rw [List.length_take] at h2
  unfold madeT
  rw [h2]
  show 2 + _ ≤ _
  omega
theorem MadeOk.at_ {out : List ByteArray} (h : MadeOk out) (hl : out.length ≤ 42) (c : Int) : Part 42 (atF out (pickF c out.length)) ∧ (atF out (pickF c out.length)).size ≤ 600 := by
  have h2 := h.two
  have hpos : (0 : Int) < (out.length : Int) := by omega
  have hm : atF out (pickF c out.length) ∈ out := atF_mem (pickF_range c hpos).1 (pickF_range c hpos).2
  exact ⟨(h.part _ hm).mono (by omega), h.small _ hm⟩
end Go.Proofs.Ytppimpadfgldjaa.Pure
namespace Go.Proofs.Ytppimpadfgldjaa.Pure
set_option linter.unusedVariables false
set_option linter.unusedSimpArgs false
open Go.RowKit Go.Proofs.Ytppimpadfgldjaa.F Go.Proofs.YtppimpadfgldjaaW.PrintWords Go.Proofs.YtppimpadfgldjaaW.PrintLast Go.Proofs.YtppimpadfgldjaaW.PrintMore

theorem rg64 {a : Int} (h : (Lit.int .i64 a).wf = true) : -9223372036854775808 ≤ a ∧ a ≤ 9223372036854775807 := by
  simp only [Lit.wf, IntKind.min, IntKind.max, IntKind.signed, IntKind.bits, Bool.and_eq_true, decide_eq_true_eq, if_true, Bool.false_eq_true, if_false] at h
  omega
theorem rgu64 {a : Int} (h : (Lit.int .u64 a).wf = true) : 0 ≤ a ∧ a < 18446744073709551616 := by
  simp only [Lit.wf, IntKind.min, IntKind.max, IntKind.signed, IntKind.bits, Bool.and_eq_true, decide_eq_true_eq, if_true, Bool.false_eq_true, if_false] at h
  omega
theorem tl_eq {a b : ByteArray} : a.toList = b.toList ↔ a = b :=
  ⟨fun h => by rw [ByteArray.toList_eq, ByteArray.toList_eq] at h; exact ByteArray.ext (Array.ext' h), fun h => by rw [h]⟩
theorem tl_beq {a b c d : ByteArray} (h : a = b ↔ c = d) : (a.toList == b.toList) = (c.toList == d.toList) := by
  rw [Bool.eq_iff_iff, beq_iff_eq, beq_iff_eq, tl_eq, tl_eq]; exact h
theorem tl_beq_int {a b : ByteArray} {x y : Int} (h : a = b ↔ x = y) : (a.toList == b.toList) = (x == y) := by
  rw [Bool.eq_iff_iff, beq_iff_eq, beq_iff_eq, tl_eq]; exact h
theorem ne_bt {a b : ByteArray} (h : bt a 0 ≠ bt b 0) : ¬ a.toList = b.toList := fun q => h (by rw [tl_eq.mp q])
theorem tl_nil {a : ByteArray} : a.toList = ([] : List UInt8) ↔ a = ⟨#[]⟩ := by
  have : (⟨#[]⟩ : ByteArray).toList = [] := by rw [ByteArray.toList_eq]
  constructor
  · intro h; exact tl_eq.mp (h.trans this.symm)
  · intro h; rw [h, this]
theorem depth_right {t : ByteArray} (h : rightB t = true) : depthF t = depF t := by
  have ht := ((right_iff t).mp h).1
  unfold depthF scanF
  rw [if_pos h, if_pos ht.1]; rfl
theorem depth_not {t : ByteArray} (h : rightB t = false) : depthF t = 0 := by
  unfold depthF
  rw [if_neg (by rw [h]; simp)]
theorem leaf_dep {t : ByteArray} (h : Leaf t) (hs : t.size ≤ 20000) : depthF t = 1 := by rw [depth_right (h.right hs), h.tm.2]
theorem Part.dep1 {m : Int} {t : ByteArray} (h : Part m t) : 1 ≤ depF t := h.tm.dep.1
/-! ### Eight bytes say a number -/
theorem cnt_byte {a b : Int} (h : UInt8.ofNat (a % 256).toNat = UInt8.ofNat (b % 256).toNat) : a % 256 = b % 256 := by
  have := congrArg UInt8.toNat h
  rw [UInt8.toNat_ofNat_of_lt' (by show (a % 256).toNat < 256; omega), UInt8.toNat_ofNat_of_lt' (by show (b % 256).toNat < 256; omega)] at this
  omega
theorem cnt_inj {c a b : Int} (ha : 0 ≤ a ∧ a < 18446744073709551616) (hb : 0 ≤ b ∧ b < 18446744073709551616) (h : countF c a = countF c b) : a = b := by
  have h1 := congrArg (fun x => x.data.toList) h
  simp only [countF, strOfNums, eightL, List.map_cons, List.map_nil, List.toList_toArray, List.cons.injEq, and_true, true_and] at h1
  obtain ⟨h7, h6, h5, h4, h3, h2, h1, h0⟩ := h1
  replace h7 := cnt_byte h7
  replace h6 := cnt_byte h6
  replace h5 := cnt_byte h5
  replace h4 := cnt_byte h4
  replace h3 := cnt_byte h3
  replace h2 := cnt_byte h2
  replace h1 := cnt_byte h1
  replace h0 := cnt_byte h0
  have s : ∀ (x : Int) (j : Nat), j ≤ 64 → shr .u64 x (j : Int) = x / ((2 ^ j : Nat) : Int) := by
    intro x j hj
    unfold shr
    rw [Nat.min_eq_left (by show ((j : Int)).toNat ≤ 64; omega), Int.toNat_natCast]
    congr 1
  have t : ∀ (x : Int) (j : Nat), j ≤ 56 → shr .u64 x ((j + 8 : Nat) : Int) = shr .u64 x (j : Int) / 256 := by
    intro x j hj
    rw [s x _ (by omega), s x _ (by omega), Int.ediv_ediv_of_nonneg (Int.natCast_nonneg _), Nat.pow_add]
    simp
  have step : ∀ j : Nat, j ≤ 56 → shr .u64 a (j : Int) % 256 = shr .u64 b (j : Int) % 256 → shr .u64 a ((j + 8 : Nat) : Int) = shr .u64 b ((j + 8 : Nat) : Int) → shr .u64 a (j : Int) = shr .u64 b (j : Int) := by
    intro j hj e1 e2
    rw [t a j hj, t b j hj] at e2
    omega
  have top : shr .u64 a ((64 : Nat) : Int) = shr .u64 b ((64 : Nat) : Int) := by
    rw [s a 64 (by omega), s b 64 (by omega)]
    have : ((2 ^ 64 : Nat) : Int) = 18446744073709551616 := by decide
    rw [this]
    omega
  have r := step 0 (by omega) h0 (step 8 (by omega) h1 (step 16 (by omega) h2 (step 24 (by omega) h3 (step 32 (by omega) h4 (step 40 (by omega) h5 (step 48 (by omega) h6 (step 56 (by omega) h7 top)))))))
  rw [s a 0 (by omega), s b 0 (by omega)] at r
  simpa using r
theorem text_inj {s t : ByteArray} (hs : s.size ≤ 100) (ht : t.size ≤ 100) (h : (textF s).1 = (textF t).1) : s = t := by
  rw [(text_ok hs).1, (text_ok ht).1] at h
  have h2 := congrArg bl h
  rw [bl_app, bl_app] at h2
  exact bl_inj (List.append_inj h2 rfl).2
end Go.Proofs.Ytppimpadfgldjaa.Pure
