/- The document's functions on what stands in terms; no condition. -/
import Derived.Test.YtpfpmjdifnoeoaaMSealClosesF0
import Derived.Test.YtpfpmjdifnoeoaaMSealClosesB4
import Derived.Test.YtpfpmjdifnoeoaaMSealClosesB1
import Derived.Test.YtpfpmjdifnoeoaaMSealClosesB3
namespace Go.Proofs.Ytpfpmjdifnoeoaa.F
open Go.RowKit Go.Proofs.YtpfpmjdifnoeoaaW.PrintWords Go.Proofs.YtpfpmjdifnoeoaaW.PrintLast Go.Proofs.YtpfpmjdifnoeoaaW.PrintMore
attribute [local go_sem] max2_int min2_int max_two min_two max_three min_three max_four min_four
set_option linter.unusedVariables false
set_option linter.unusedSimpArgs false
def gemotref2_Kind_p.f (a0 : ByteArray) : Option (Int) := (gemotref1_Right.f a0).bind fun t1001 => (if t1001 = true then (if 0 < (a0.size : Int) then (some (bt a0 0)) else (none)) else (some 0))
set_option maxHeartbeats 8000000 in
set_option maxRecDepth 100000 in
theorem gemotref2_Kind_p.calls (a0 : ByteArray) (r : Int) (w : World) (h : gemotref2_Kind_p.f a0 = some r) :
    Calls Try.prog 72 #[.string a0] w fun e w' => e = .returned (.int .u8 r) ∧ Below w.heap.size w w' := by
  have HB := Aside0.mk (Below.refl w.heap.size w)
  have H : ((gemotref1_Right.f a0).bind fun t1001 => (if t1001 = true then (if 0 < (a0.size : Int) then (some (bt a0 0)) else (none)) else (some 0))) = some r := h
  clear h
  replace H := Option.bind_eq_some_iff.mp H
  obtain ⟨t1001, A20, H⟩ := H
  replace H : (if t1001 = true then (if 0 < (a0.size : Int) then (some (bt a0 0)) else (none)) else (some 0)) = some r := H
  have A2 := Aside0.mk A20
  clear A20
  by_cases c3 : t1001 = true
  · subst c3
    have H1 : (if 0 < (a0.size : Int) then (some (bt a0 0)) else (none)) = some r := by rw [if_pos rfl] at H; exact H
    clear H
    have H := H1
    clear H1
    by_cases c4 : 0 < (a0.size : Int)
    · rw [if_pos c4] at H
      have c4b0 : decide (0 < (a0.size : Int)) = true := decide_eq_true c4
      have c4b1 : decide (0 < a0.size) = true := decide_eq_true (by omega)
      clear c4
      obtain rfl := Option.some.inj H
      go_enter Try.func72, Try.ntmps72
      go_wp2_with (first | ((with_reducible refine gate_callee (f := 114) rfl ?_); refine goesL_ (some 4) rfl rfl Try.func114 (by kernel_rfl) rfl #[.string a0] rfl (by simp only [List.map_toArray, List.map_cons, List.map_nil] <;> rfl) ?_; (with_reducible refine (gemotref1_Right.calls a0 true _ A2.out).mono ?_); rintro e w6 ⟨rfl, hb⟩; refine ⟨_, rfl, ?_⟩; have n0_ := Aside0.mk (below_step (by repeat with_reducible first | exact HB.out | apply below_alloc | apply pw_below_drewN | apply below_drew1) hb); clear HB; have HB := n0_; clear n0_; (try clear hb); have p5 : 0 ≤ (0 : Int) := (by omega); have q5 : 0 < a0.size := (by have : (0 : Int) < (a0.size : Int) := of_decide_eq_true (by assumption); omega); have hx5 : ∀ h : 0 < a0.size, ((a0[0]'h).toNat : Int) = bt a0 0 := bt_at a0 0; clear p5; have qi5 : (0 < (a0.size : Int)) = True := eq_true (of_decide_eq_true (by assumption)); replace q5 := eq_true q5))
      go_ret
      exact ⟨by first | rfl | (simp [errW_none, errW_some] <;> rfl) | (simp [*, errW_none, errW_some] <;> rfl), by repeat (first | (with_reducible first | exact HB.out | apply below_alloc | apply pw_below_drewN | apply below_drew1) | exact HB.out)⟩
    · rw [if_neg c4] at H
      exact absurd H (by simp)
  · replace c3 := Bool.eq_false_iff.mpr c3
    subst c3
    have H1 : (some 0) = some r := by rw [if_neg (show ¬ (false = true) by decide)] at H; exact H
    clear H
    have H := H1
    clear H1
    obtain rfl := Option.some.inj H
    go_enter Try.func72, Try.ntmps72
    go_wp2_with (first | ((with_reducible refine gate_callee (f := 114) rfl ?_); refine goesL_ (some 4) rfl rfl Try.func114 (by kernel_rfl) rfl #[.string a0] rfl (by simp only [List.map_toArray, List.map_cons, List.map_nil] <;> rfl) ?_; (with_reducible refine (gemotref1_Right.calls a0 false _ A2.out).mono ?_); rintro e w7 ⟨rfl, hb⟩; refine ⟨_, rfl, ?_⟩; have n0_ := Aside0.mk (below_step (by repeat with_reducible first | exact HB.out | apply below_alloc | apply pw_below_drewN | apply below_drew1) hb); clear HB; have HB := n0_; clear n0_; (try clear hb)))
    go_ret
    exact ⟨by first | rfl | (simp [errW_none, errW_some] <;> rfl) | (simp [*, errW_none, errW_some] <;> rfl), by repeat (first | (with_reducible first | exact HB.out | apply below_alloc | apply pw_below_drewN | apply below_drew1) | exact HB.out)⟩
def gemotref2_Kind.f (t : ByteArray) : Option Int := if t.size < 9223372036854775808 then some (kindF t) else none
theorem gemotref2_Kind.eq (t : ByteArray) (hs : t.size < 9223372036854775808) : gemotref2_Kind_p.f t = gemotref2_Kind.f t := by
  unfold gemotref2_Kind_p.f gemotref1_Right.f gemotref2_Kind.f kindF
  rw [if_pos hs, if_pos hs]
  simp only [Option.bind_some]
  by_cases c : rightB t = true
  · have h0 : 0 < t.size := by
      unfold rightB at c
      rw [decide_eq_true_eq] at c
      have := scanF_end c.1
      omega
    rw [if_pos c, if_pos c, if_pos (by omega)]
  · rw [if_neg c, if_neg c]
theorem gemotref2_Kind.calls (a0 : ByteArray) (r : Int) (w : World) (h : gemotref2_Kind.f a0 = some r) :
    Calls Try.prog 72 #[.string a0] w fun e w' => e = .returned (.int .u8 r) ∧ Below w.heap.size w w' := by
  have hs : a0.size < 9223372036854775808 := by
    unfold gemotref2_Kind.f at h
    split at h
    · assumption
    · cases h
  exact gemotref2_Kind_p.calls a0 r w ((gemotref2_Kind.eq a0 hs).trans h)
end Go.Proofs.Ytpfpmjdifnoeoaa.F
namespace Go.Proofs.Ytpfpmjdifnoeoaa.F
open Go.RowKit Go.Proofs.YtpfpmjdifnoeoaaW.PrintWords Go.Proofs.YtpfpmjdifnoeoaaW.PrintLast Go.Proofs.YtpfpmjdifnoeoaaW.PrintMore
attribute [local go_sem] max2_int min2_int max_two min_two max_three min_three max_four min_four
set_option linter.unusedVariables false
set_option linter.unusedSimpArgs false
mutual
def gemotref2_Of_p.j1 : Nat → ByteArray → List ByteArray → Int → Option (List ByteArray)
  | 0, _, _, _ => none
  | k + 1, x0, x3, x4 => gemotref2_Of_p.l0 k x0 x3 x4
def gemotref2_Of_p.l0 : Nat → ByteArray → List ByteArray → Int → Option (List ByteArray)
  | 0, _, _, _ => none
  | k + 1, x0, x3, x4 => if x4 < (x0.size : Int) then ((gemotref1_End.f x0 x4 400).bind fun bt1002 => (if 0 ≤ x4 then (if x4 ≤ bt1002.1 then (if bt1002.1 ≤ (x0.size : Int) then (if x3.length < 8796093022208 then (gemotref2_Of_p.l0 k x0 (x3 ++ [x0.extract (x4 : Int).toNat (bt1002.1 : Int).toNat]) bt1002.1) else (none)) else (none)) else (none)) else (none))) else (some x3)
def gemotref2_Of_p.j0 : Nat → ByteArray → List ByteArray → Int → Int → Bool → Option (List ByteArray)
  | 0, _, _, _, _, _ => none
  | k + 1, x0, x3, x4, x8, x9 => if x9 = true then (gemotref2_Of_p.j1 k x0 x3 x4) else (if x8 = 101 then (gemotref2_Of_p.j1 k x0 x3 2) else (some ([] : List ByteArray)))
end
def gemotref2_Of_p.f (k : Nat) (a0 : ByteArray) : Option (List ByteArray) := (gemotref2_Kind.f a0).bind fun t1001 => (if t1001 = 107 then (gemotref2_Of_p.j0 k a0 ([] : List ByteArray) 1 t1001 (t1001 == 107)) else (if t1001 = 104 then (gemotref2_Of_p.j0 k a0 ([] : List ByteArray) 1 t1001 (t1001 == 104)) else (if t1001 = 112 then (gemotref2_Of_p.j0 k a0 ([] : List ByteArray) 1 t1001 (t1001 == 112)) else (if t1001 = 115 then (gemotref2_Of_p.j0 k a0 ([] : List ByteArray) 1 t1001 (t1001 == 115)) else (gemotref2_Of_p.j0 k a0 ([] : List ByteArray) 1 t1001 (t1001 == 120))))))
set_option maxHeartbeats 8000000 in
set_option maxRecDepth 100000 in
theorem gemotref2_Of_p.calls (k : Nat) (a0 : ByteArray) (r : List ByteArray) (w : World) (h : gemotref2_Of_p.f k a0 = some r) :
    Calls Try.prog 75 #[.string a0] w fun e w' => ∃ v0_ : Value, e = .returned (v0_) ∧ Kd.R Kd.string 9 w' w.heap.size (fun _ => True) v0_ r ∧ Below w.heap.size w w' := by
  have HB := Aside0.mk (Below.refl w.heap.size w)
  have H : ((gemotref2_Kind.f a0).bind fun t1001 => (if t1001 = 107 then (gemotref2_Of_p.j0 k a0 ([] : List ByteArray) 1 t1001 (t1001 == 107)) else (if t1001 = 104 then (gemotref2_Of_p.j0 k a0 ([] : List ByteArray) 1 t1001 (t1001 == 104)) else (if t1001 = 112 then (gemotref2_Of_p.j0 k a0 ([] : List ByteArray) 1 t1001 (t1001 == 112)) else (if t1001 = 115 then (gemotref2_Of_p.j0 k a0 ([] : List ByteArray) 1 t1001 (t1001 == 115)) else (gemotref2_Of_p.j0 k a0 ([] : List ByteArray) 1 t1001 (t1001 == 120))))))) = some r := h
  clear h; replace H := Option.bind_eq_some_iff.mp H
  obtain ⟨t1001, A20, H⟩ := H; replace H : (if t1001 = 107 then (gemotref2_Of_p.j0 k a0 ([] : List ByteArray) 1 t1001 (t1001 == 107)) else (if t1001 = 104 then (gemotref2_Of_p.j0 k a0 ([] : List ByteArray) 1 t1001 (t1001 == 104)) else (if t1001 = 112 then (gemotref2_Of_p.j0 k a0 ([] : List ByteArray) 1 t1001 (t1001 == 112)) else (if t1001 = 115 then (gemotref2_Of_p.j0 k a0 ([] : List ByteArray) 1 t1001 (t1001 == 115)) else (gemotref2_Of_p.j0 k a0 ([] : List ByteArray) 1 t1001 (t1001 == 120)))))) = some r := H
  have A2 := Aside0.mk A20
  clear A20; have HC3 := Aside0.mk H
  clear H; go_enter Try.func75, Try.ntmps75
  go_upto_block 0 with (first | ((with_reducible refine gate_callee (f := 72) rfl ?_); refine goesL_ (some 8) rfl rfl Try.func72 (by kernel_rfl) rfl #[.string a0] rfl (by simp only [List.map_toArray, List.map_cons, List.map_nil] <;> rfl) ?_; (with_reducible refine (gemotref2_Kind.calls a0 t1001 _ A2.out).mono ?_); rintro e w4 ⟨rfl, hb⟩; refine ⟨_, rfl, ?_⟩; have n0_ := Aside0.mk (below_step (by repeat with_reducible first | exact HB.out | apply below_alloc | apply pw_below_drewN | apply below_drew1) hb); clear HB; have HB := n0_; clear n0_; (try clear hb)))
  (try simp only [Act.put, List.setIfInBounds_toArray, List.set_cons_zero, List.set_cons_succ]); go_cut [4] (fun v4 wc => ∃ (kq : Nat) (x4_2 : Int), v4 = .int .i64 x4_2 ∧ Aside0 (gemotref2_Of_p.j1 kq a0 ([] : List ByteArray) x4_2 = some r) ∧ Aside0 (kq ≤ k) ∧ Aside0 (Kd.R Kd.string 9 wc w.heap.size (fun _ => True) (.slice none 0 0) ([] : List ByteArray)) ∧ Aside0 (Below w.heap.size w wc))
  case first =>
    have H := HC3.out; clear HC3; have HC5 := Aside0.mk H
    clear H; go_upto_if 9 with (fail)
    go_cut [9] (fun v9 wc => ∃ (kq : Nat) (x9_4 : Bool), v9 = .bool x9_4 ∧ Aside0 (gemotref2_Of_p.j0 kq a0 ([] : List ByteArray) 1 t1001 x9_4 = some r) ∧ Aside0 (kq ≤ k) ∧ Aside0 (Kd.R Kd.string 9 wc w.heap.size (fun _ => True) (.slice none 0 0) ([] : List ByteArray)) ∧ Aside0 (Below w.heap.size w wc))
    case first =>
      have H := HC5.out; clear HC5; by_cases c6 : t1001 = 107
      · rw [if_pos c6] at H
        have c6b0 : (t1001 == 107) = true := beq_iff_eq.mpr c6
        have c6b1 : (t1001 != 107) = false := bne_eq_false_iff_eq.mpr c6
        clear c6; (first | rw [c6b0] | (simp only [i64_w, i32_w]; rw [c6b0]) | skip); have H' := Aside0.mk H
        clear H; go_wp2; go_meet
        case rel => exact ⟨_, ((t1001 == 107)), (by first | rfl | (simp; done) | (simp [*]; done)), H', ⟨by first | omega | exact Nat.le_refl _⟩, ⟨by first | exact Kd.R_nil _ _ _ _ _ | exact Kd.N_nil _ _ _ _ _ | exact Kd.V_nil _ _ _ _ _ | exact Kd.Q_nil _ _ _ _ _ | exact Kd.S_nil _ _ _ _ _⟩, ⟨by repeat (first | (with_reducible first | exact HB.out | apply below_alloc | apply pw_below_drewN | apply below_drew1) | exact HB.out)⟩⟩
      · rw [if_neg c6] at H
        have c6b0 : (t1001 == 107) = false := beq_eq_false_iff_ne.mpr c6
        have c6b1 : (t1001 != 107) = true := bne_iff_ne.mpr c6
        (first | rw [c6b0] | (simp only [i64_w, i32_w]; rw [c6b0]) | skip); by_cases c7 : t1001 = 104
        · rw [if_pos c7] at H
          have c7b0 : (t1001 == 104) = true := beq_iff_eq.mpr c7
          have c7b1 : (t1001 != 104) = false := bne_eq_false_iff_eq.mpr c7
          clear c7; have H' := Aside0.mk H
          clear H; go_wp2; go_meet
          case rel => exact ⟨_, ((t1001 == 104)), (by first | rfl | (simp; done) | (simp [*]; done)), H', ⟨by first | omega | exact Nat.le_refl _⟩, ⟨by first | exact Kd.R_nil _ _ _ _ _ | exact Kd.N_nil _ _ _ _ _ | exact Kd.V_nil _ _ _ _ _ | exact Kd.Q_nil _ _ _ _ _ | exact Kd.S_nil _ _ _ _ _⟩, ⟨by repeat (first | (with_reducible first | exact HB.out | apply below_alloc | apply pw_below_drewN | apply below_drew1) | exact HB.out)⟩⟩
        · rw [if_neg c7] at H
          have c7b0 : (t1001 == 104) = false := beq_eq_false_iff_ne.mpr c7
          have c7b1 : (t1001 != 104) = true := bne_iff_ne.mpr c7
          by_cases c8 : t1001 = 112
          · rw [if_pos c8] at H
            have c8b0 : (t1001 == 112) = true := beq_iff_eq.mpr c8
            have c8b1 : (t1001 != 112) = false := bne_eq_false_iff_eq.mpr c8
            clear c8; have H' := Aside0.mk H
            clear H; go_wp2; go_meet
            case rel => exact ⟨_, ((t1001 == 112)), (by first | rfl | (simp; done) | (simp [*]; done)), H', ⟨by first | omega | exact Nat.le_refl _⟩, ⟨by first | exact Kd.R_nil _ _ _ _ _ | exact Kd.N_nil _ _ _ _ _ | exact Kd.V_nil _ _ _ _ _ | exact Kd.Q_nil _ _ _ _ _ | exact Kd.S_nil _ _ _ _ _⟩, ⟨by repeat (first | (with_reducible first | exact HB.out | apply below_alloc | apply pw_below_drewN | apply below_drew1) | exact HB.out)⟩⟩
          · rw [if_neg c8] at H
            have c8b0 : (t1001 == 112) = false := beq_eq_false_iff_ne.mpr c8
            have c8b1 : (t1001 != 112) = true := bne_iff_ne.mpr c8
            by_cases c9 : t1001 = 115
            · rw [if_pos c9] at H
              have c9b0 : (t1001 == 115) = true := beq_iff_eq.mpr c9
              have c9b1 : (t1001 != 115) = false := bne_eq_false_iff_eq.mpr c9
              clear c9; have H' := Aside0.mk H
              clear H; go_wp2; go_meet
              case rel => exact ⟨_, ((t1001 == 115)), (by first | rfl | (simp; done) | (simp [*]; done)), H', ⟨by first | omega | exact Nat.le_refl _⟩, ⟨by first | exact Kd.R_nil _ _ _ _ _ | exact Kd.N_nil _ _ _ _ _ | exact Kd.V_nil _ _ _ _ _ | exact Kd.Q_nil _ _ _ _ _ | exact Kd.S_nil _ _ _ _ _⟩, ⟨by repeat (first | (with_reducible first | exact HB.out | apply below_alloc | apply pw_below_drewN | apply below_drew1) | exact HB.out)⟩⟩
            · rw [if_neg c9] at H
              have c9b0 : (t1001 == 115) = false := beq_eq_false_iff_ne.mpr c9
              have c9b1 : (t1001 != 115) = true := bne_iff_ne.mpr c9
              have H' := Aside0.mk H
              clear H; go_wp2; go_meet
              case rel => exact ⟨_, ((t1001 == 120)), (by first | rfl | (simp; done) | (simp [*]; done)), H', ⟨by first | omega | exact Nat.le_refl _⟩, ⟨by first | exact Kd.R_nil _ _ _ _ _ | exact Kd.N_nil _ _ _ _ _ | exact Kd.V_nil _ _ _ _ _ | exact Kd.Q_nil _ _ _ _ _ | exact Kd.S_nil _ _ _ _ _⟩, ⟨by repeat (first | (with_reducible first | exact HB.out | apply below_alloc | apply pw_below_drewN | apply below_drew1) | exact HB.out)⟩⟩
    case rest =>
      clear HC5; try clear p2
      try clear c6
      try clear c6b0
      try clear c6b1
      try clear c7
      try clear c7b0
      try clear c7b1
      try clear c8
      try clear c8b0
      try clear c8b1
      try clear c9
      try clear c9b0
      try clear c9b1
      obtain ⟨kq, x9_4, rfl, HA, HJ4, HO_3, HB⟩ := hcut; cases kq with
      | zero => exact absurd HA.out (by simp [gemotref2_Of_p.j0])
      | succ kj4 =>
        have H := HA.out; clear HA; simp only [gemotref2_Of_p.j0] at H; by_cases c10 : x9_4 = true
        · subst c10; have H1 : (gemotref2_Of_p.j1 kj4 a0 ([] : List ByteArray) 1) = some r := by rw [if_pos rfl] at H; exact H
          clear H; have H := H1; clear H1; have H' := Aside0.mk H
          clear H; go_wp2; go_meet
          case rel => exact ⟨_, (1), (by first | rfl | (simp; done) | (simp [*]; done)), H', ⟨by have := HJ4.out; first | omega | exact Nat.le_refl _⟩, ⟨by (with_reducible repeat (first | apply Kd.R_alloc | apply Kd.R_drewN | apply Kd.R_drew)); exact HO_3.out⟩, ⟨by repeat (first | (with_reducible first | exact HB.out | apply below_alloc | apply pw_below_drewN | apply below_drew1) | exact HB.out)⟩⟩
        · replace c10 := Bool.eq_false_iff.mpr c10
          subst c10; have H1 : (if t1001 = 101 then (gemotref2_Of_p.j1 kj4 a0 ([] : List ByteArray) 2) else (some ([] : List ByteArray))) = some r := by rw [if_neg (show ¬ (false = true) by decide)] at H; exact H
          clear H; have H := H1; clear H1; by_cases c11 : t1001 = 101
          · rw [if_pos c11] at H
            have c11b0 : (t1001 == 101) = true := beq_iff_eq.mpr c11
            have c11b1 : (t1001 != 101) = false := bne_eq_false_iff_eq.mpr c11
            clear c11; have H' := Aside0.mk H
            clear H; go_wp2; go_meet
            case rel => exact ⟨_, (2), (by first | rfl | (simp; done) | (simp [*]; done)), H', ⟨by have := HJ4.out; first | omega | exact Nat.le_refl _⟩, ⟨by (with_reducible repeat (first | apply Kd.R_alloc | apply Kd.R_drewN | apply Kd.R_drew)); exact HO_3.out⟩, ⟨by repeat (first | (with_reducible first | exact HB.out | apply below_alloc | apply pw_below_drewN | apply below_drew1) | exact HB.out)⟩⟩
          · rw [if_neg c11] at H
            have c11b0 : (t1001 == 101) = false := beq_eq_false_iff_ne.mpr c11
            have c11b1 : (t1001 != 101) = true := bne_iff_ne.mpr c11
            obtain rfl := Option.some.inj H
            go_wp2; go_ret
            exact ⟨_, by first | rfl | (simp [errW_none, errW_some] <;> rfl) | (simp [*, errW_none, errW_some] <;> rfl), by first | exact Kd.R_nil _ _ _ _ _ | exact Kd.N_nil _ _ _ _ _ | exact Kd.V_nil _ _ _ _ _ | exact Kd.Q_nil _ _ _ _ _ | exact Kd.S_nil _ _ _ _ _, by repeat (first | (with_reducible first | exact HB.out | apply below_alloc | apply pw_below_drewN | apply below_drew1) | exact HB.out)⟩
  case rest =>
    clear HC3; try clear c1
    try clear p2
    try clear c6
    try clear c6b0
    try clear c6b1
    try clear c7
    try clear c7b0
    try clear c7b1
    try clear c8
    try clear c8b0
    try clear c8b1
    try clear c9
    try clear c9b0
    try clear c9b1
    try clear c10
    try clear c11
    try clear c11b0
    try clear c11b1
    try clear p2
    obtain ⟨kq, x4_2, rfl, HA, HJ2, HO_3, HB⟩ := hcut; cases kq with
    | zero => exact absurd HA.out (by simp [gemotref2_Of_p.j1])
    | succ kj2 =>
      have H := HA.out; clear HA; simp only [gemotref2_Of_p.j1] at H; have H' := Aside0.mk H
      clear H; go_wp2; go_loopg [3, 4] kj2 (fun kq v3 v4 w' => ∃ (x3_2 : List ByteArray) (x4_2 : Int), v4 = .int .i64 x4_2 ∧ Aside0 (gemotref2_Of_p.l0 kq a0 x3_2 x4_2 = some r) ∧ Aside0 (kq ≤ kj2) ∧ Aside0 (Kd.R Kd.string 9 w' w.heap.size (fun _ => True) v3 x3_2) ∧ Aside0 (Below w.heap.size w w'))
      case atStart => exact ⟨(([] : List ByteArray)), (x4_2), (by first | rfl | (simp; done) | (simp [*]; done)), H', ⟨Nat.le_refl _⟩, ⟨by (with_reducible repeat (first | apply Kd.R_alloc | apply Kd.R_drewN | apply Kd.R_drew)); exact HO_3.out⟩, ⟨by repeat (first | (with_reducible first | exact HB.out | apply below_alloc | apply pw_below_drewN | apply below_drew1) | exact HB.out)⟩⟩
      case round =>
        clear H'; try clear c1
        try clear p2
        try clear c6
        try clear c6b0
        try clear c6b1
        try clear c7
        try clear c7b0
        try clear c7b1
        try clear c8
        try clear c8b0
        try clear c8b1
        try clear c9
        try clear c9b0
        try clear c9b1
        try clear c10
        try clear c11
        try clear c11b0
        try clear c11b1
        try clear p2
        obtain ⟨x3_2, x4_2, rfl, HA, HK2, HO_3, HB⟩ := hrel; cases gk with
        | zero => exact absurd HA.out (by simp [gemotref2_Of_p.l0])
        | succ k2 =>
          have H := HA.out; clear HA; simp only [gemotref2_Of_p.l0] at H; by_cases c12 : x4_2 < (a0.size : Int)
          · rw [if_pos c12] at H
            have c12b0 : decide (x4_2 < (a0.size : Int)) = true := decide_eq_true c12
            clear c12; replace H := Option.bind_eq_some_iff.mp H
            obtain ⟨⟨t1002, t1003⟩, A130, H⟩ := H
            replace H : (if 0 ≤ x4_2 then (if x4_2 ≤ t1002 then (if t1002 ≤ (a0.size : Int) then (if x3_2.length < 8796093022208 then (gemotref2_Of_p.l0 k2 a0 (x3_2 ++ [a0.extract (x4_2 : Int).toNat (t1002 : Int).toNat]) t1002) else (none)) else (none)) else (none)) else (none)) = some r := H
            have A13 := Aside0.mk A130
            clear A130; by_cases c14 : 0 ≤ x4_2
            · rw [if_pos c14] at H
              have c14b0 := eq_true c14
              have c14b1 : decide (0 ≤ x4_2) = true := decide_eq_true c14
              clear c14; by_cases c15 : x4_2 ≤ t1002
              · rw [if_pos c15] at H
                have c15b0 := eq_true c15
                have c15b1 : decide (x4_2 ≤ t1002) = true := decide_eq_true c15
                clear c15; by_cases c16 : t1002 ≤ (a0.size : Int)
                · rw [if_pos c16] at H
                  have c16b0 := eq_true c16
                  have c16b1 : decide (t1002 ≤ (a0.size : Int)) = true := decide_eq_true c16
                  clear c16; by_cases c17 : x3_2.length < 8796093022208
                  · rw [if_pos c17] at H
                    have LMc17 := Aside0.mk c17
                    clear c17; obtain ⟨y1004, hy1004⟩ : ∃ y_ : List ByteArray, y_ = (x3_2 ++ [a0.extract (x4_2 : Int).toNat (t1002 : Int).toNat]) := ⟨_, rfl⟩
                    replace H : (gemotref2_Of_p.l0 k2 a0 y1004 t1002) = some r := by first | (rw [hy1004]; with_reducible exact H) | (have H2_ := (Option.bind_some _ _).symm.trans H; rw [hy1004]; with_reducible exact H2_) | (have H2_ := (Option.bind_some _ _).symm.trans H; with_reducible exact H2_) | with_reducible exact H | (rw [hy1004]; exact H) | exact H
                    have Ny1004 := Aside0.mk hy1004
                    clear hy1004; have H' := Aside0.mk H
                    clear H; go_wp2_with (first | ((with_reducible refine gate_callee (f := 126) rfl ?_); refine goesL_ (some 24) rfl rfl Try.func126 (by kernel_rfl) rfl #[.string a0, .int .i64 x4_2, .int .i64 400] rfl (by simp only [List.map_toArray, List.map_cons, List.map_nil] <;> rfl) ?_; (with_reducible refine (gemotref1_End.calls a0 x4_2 400 t1002 t1003 _ A13.out).mono ?_); rintro e w18 ⟨rfl, hb⟩; refine ⟨_, rfl, ?_⟩; have n0_ := Aside0.mk (Kd.R_below (by (with_reducible repeat (first | apply Kd.R_alloc | apply Kd.R_drewN | apply Kd.R_drew)); exact HO_3.out) hb); have n1_ := Aside0.mk (below_step (by repeat with_reducible first | exact HB.out | apply below_alloc | apply pw_below_drewN | apply below_drew1) hb); clear HO_3; clear HB; have HO_3 := n0_; have HB := n1_; clear n0_ n1_; (try clear hb)) | ((with_reducible refine gate_builtin (b := .append) (xs := #[.tmp 27, .tmp 32]) rfl ?_); at_builtin; refine Kd.R_append Kd.string (w0 := w) w.heap.size rfl (.tmp 27) (.tmp 32) 43 9 (.string ⟨#[]⟩) 16 rfl Try.underlying43 info9 rfl (by decide) (by omega) u3 x3_2 (a0.extract (x4_2 : Int).toNat (t1002 : Int).toNat) [.string (a0.extract (x4_2 : Int).toNat (t1002 : Int).toNat)] (fun _ => True) (fun _ => False) rfl rfl ?aP (fun _ hk => hk.elim) ?aF ?aO ?aB ?aS ?aL ?_; (case aP => exact rfl); (case aB => exact (by repeat with_reducible first | exact HB.out | apply below_alloc | apply pw_below_drewN | apply below_drew1)); (case aF => exact (fun _ _ => trivial)); (case aO => exact (by (with_reducible repeat (first | apply Kd.R_alloc | apply Kd.R_drewN | apply Kd.R_drew)); exact HO_3.out)); (case aS => exact (below_size (by repeat with_reducible first | exact HB.out | apply below_alloc | apply pw_below_drewN | apply below_drew1))); (case aL => have := LMc17.out; omega); intro v1005 w19 ho hb hg hat; rw [← Ny1004.out] at ho; have n0_ := Aside0.mk (hb); have n1_ := Aside0.mk (ho); clear HB; clear HO_3; have HB := n0_; have HO1006 := n1_; clear n0_ n1_; clear ho hb hg hat))
                    go_roundg k2
                    case measure => have := HJ2.out; have := HK2.out; omega
                    case rel => exact ⟨(y1004), (t1002), (by first | rfl | (simp; done) | (simp [*]; done)), H', ⟨by have := HJ2.out; have := HK2.out; omega⟩, ⟨by (with_reducible repeat (first | apply Kd.R_alloc | apply Kd.R_drewN | apply Kd.R_drew)); exact HO1006.out⟩, ⟨by repeat (first | (with_reducible first | exact HB.out | apply below_alloc | apply pw_below_drewN | apply below_drew1) | exact HB.out)⟩⟩
                  · rw [if_neg c17] at H
                    exact absurd H (by simp)
                · rw [if_neg c16] at H
                  exact absurd H (by simp)
              · rw [if_neg c15] at H
                exact absurd H (by simp)
            · rw [if_neg c14] at H
              exact absurd H (by simp)
          · rw [if_neg c12] at H
            have c12b0 : decide (x4_2 < (a0.size : Int)) = false := decide_eq_false c12
            clear c12; obtain rfl := Option.some.inj H
            go_wp2; go_ret
            exact ⟨_, by first | rfl | (simp [errW_none, errW_some] <;> rfl) | (simp [*, errW_none, errW_some] <;> rfl), by (with_reducible repeat (first | apply Kd.R_alloc | apply Kd.R_drewN | apply Kd.R_drew)); exact HO_3.out, by repeat (first | (with_reducible first | exact HB.out | apply below_alloc | apply pw_below_drewN | apply below_drew1) | exact HB.out)⟩
open Go.Proofs.Ytpfpmjdifnoeoaa.Pure
def gemotref2_Of.f (t : ByteArray) : Option (List ByteArray) := if t.size < 9223372036854775808 then some (kidsP t) else none
theorem gemotref2_Of.loop {t : ByteArray} (hs : t.size ≤ 20000) : ∀ (ts : List ByteArray) (i : Nat) (acc : List ByteArray), Lies t (cat ts) i → i + (cat ts).size = t.size → (∀ x ∈ ts, Tm x) → acc.length ≤ i →
    ∃ K, ∀ k, K ≤ k → gemotref2_Of_p.l0 k t acc i = some (acc ++ ts)
  | [], i, acc, hl, he, _, _ => by
    refine ⟨1, fun k hk => ?_⟩
    obtain ⟨k, rfl⟩ : ∃ m, k = m + 1 := ⟨k - 1, by omega⟩
    have hz : (cat []).size = 0 := rfl
    simp only [gemotref2_Of_p.l0]; rw [if_neg (by omega), List.append_nil]
  | x :: ts, i, acc, hl, he, hx, ha => by
    have hz : (cat (x :: ts)).size = x.size + (cat ts).size := by rw [cat, ByteArray.size_append]
    have hp := (hx x List.mem_cons_self).pos
    have h1 : Lies t x i := by have := hl.trans (Lies.first x (cat ts)); rwa [Nat.add_zero] at this
    have h2 : Lies t (cat ts) (i + x.size) := hl.trans (Lies.last x (cat ts))
    obtain ⟨K, hK⟩ := gemotref2_Of.loop hs ts (i + x.size) (acc ++ [x]) h2 (by omega) (fun y hy => hx y (List.mem_cons_of_mem _ hy)) (by rw [List.length_append]; simp; omega)
    refine ⟨K + 1, fun k hk => ?_⟩
    obtain ⟨k, rfl⟩ : ∃ m, k = m + 1 := ⟨k - 1, by omega⟩
    have h3 := Tm.at_ h1 (hx x List.mem_cons_self) 400 (by have := (hx x List.mem_cons_self).dep; omega)
    simp only [gemotref2_Of_p.l0]; unfold gemotref1_End.f refEnd
    rw [if_pos (by omega), if_pos (by omega), show ((400 : Int)).toNat = 400 from rfl, h3]
    simp only [Option.bind_some, finR, if_true]; rw [if_pos (by omega), if_pos (by omega), if_pos (by omega), if_pos (by omega)]
    have h4 : t.extract ((i : Int)).toNat ((i : Int) + (x.size : Int)).toNat = x := by
      rw [show ((i : Int)).toNat = i by omega, show ((i : Int) + (x.size : Int)).toNat = i + x.size by omega]
      exact h1.whole
    rw [h4, show ((i : Int) + (x.size : Int)) = ((i + x.size : Nat) : Int) by omega, hK k (by omega), List.append_assoc]
    rfl
theorem gemotref2_Of.eq (t : ByteArray) (hs : t.size < 9223372036854775808) : ∃ k, gemotref2_Of_p.f k t = some (kidsP t) := by
  unfold gemotref2_Of_p.f gemotref2_Kind.f
  simp only [if_pos hs, Option.bind_some]; by_cases c : rightB t = true
  · have hk : kindF t = bt t 0 := by unfold kindF; rw [if_pos c]
    have hz := ((right_iff t).mp c).2
    have hp : kidsP t = kidsF t := by unfold kidsP; rw [if_pos c]
    rw [hk, hp]
    rcases right_cases c with hl | ⟨hd, pow, n⟩
    · have hb := leaf_bytes hl
      refine ⟨1, ?_⟩
      rw [if_neg (by omega), if_neg (by omega), if_neg (by omega), if_neg (by omega), kids_leaf hl]
      simp only [gemotref2_Of_p.j0]; rw [if_neg (by simp; omega), if_neg (by omega)]
    · have hl : Lies t (cat (kidsF t)) hd.size := by
        have := Lies.last hd (cat (kidsF t))
        rwa [← n.eq] at this
      have he : hd.size + (cat (kidsF t)).size = t.size := by have := congrArg ByteArray.size n.eq; rw [ByteArray.size_append] at this; omega
      obtain ⟨K, hK⟩ := gemotref2_Of.loop hz (kidsF t) hd.size [] hl he (fun x hx => (n.parts x hx).1) (Nat.zero_le _)
      have h1 := hK K (Nat.le_refl _)
      rw [List.nil_append] at h1
      have h3 := bt_head n
      have hh := n.head; have hsz := hh.size; refine ⟨K + 2, ?_⟩
      have hj : ∀ b, b = true → pow = false → gemotref2_Of_p.j0 (K + 2) t [] 1 (bt t 0) b = some (kidsF t) := by
        intro b hb hpw; subst hpw; simp only [gemotref2_Of_p.j0, gemotref2_Of_p.j1]; rw [if_pos hb]
        rw [hsz] at h1
        exact h1
      rcases node_bytes n with q | q | q | q | q | q
      · have hpw : pow = false := by
          rw [h3] at q
          generalize kidsF t = ts at *
          cases hh <;> first | rfl | exact absurd q (by show ¬ ((101 : Int) = _); decide)
        rw [if_pos q]; exact hj _ (by rw [q]; rfl) hpw
      · have hpw : pow = false := by
          rw [h3] at q
          generalize kidsF t = ts at *
          cases hh <;> first | rfl | exact absurd q (by show ¬ ((101 : Int) = _); decide)
        rw [if_neg (by omega), if_pos q]; exact hj _ (by rw [q]; rfl) hpw
      · have hpw : pow = false := by
          rw [h3] at q
          generalize kidsF t = ts at *
          cases hh <;> first | rfl | exact absurd q (by show ¬ ((101 : Int) = _); decide)
        rw [if_neg (by omega), if_neg (by omega), if_pos q]; exact hj _ (by rw [q]; rfl) hpw
      · have hpw : pow = false := by
          rw [h3] at q
          generalize kidsF t = ts at *
          cases hh <;> first | rfl | exact absurd q (by show ¬ ((101 : Int) = _); decide)
        rw [if_neg (by omega), if_neg (by omega), if_neg (by omega), if_neg (by omega)]; exact hj _ (by rw [q]; rfl) hpw
      · have hpw : pow = false := by
          rw [h3] at q
          generalize kidsF t = ts at *
          cases hh <;> first | rfl | exact absurd q (by show ¬ ((101 : Int) = _); decide)
        rw [if_neg (by omega), if_neg (by omega), if_neg (by omega), if_pos q]; exact hj _ (by rw [q]; rfl) hpw
      · obtain ⟨q, rfl⟩ := q; rw [if_neg (by omega), if_neg (by omega), if_neg (by omega), if_neg (by omega), q]
        simp only [gemotref2_Of_p.j0, gemotref2_Of_p.j1]; rw [if_neg (by decide), if_pos trivial]
        rw [hsz] at h1
        exact h1
  · have hk : kindF t = 0 := by unfold kindF; rw [if_neg c]
    have hp : kidsP t = [] := by unfold kidsP; rw [if_neg c]
    refine ⟨1, ?_⟩
    rw [hk, hp, if_neg (by decide), if_neg (by decide), if_neg (by decide), if_neg (by decide)]
    simp only [gemotref2_Of_p.j0]; rw [if_neg (by decide), if_neg (by decide)]
theorem gemotref2_Of.calls (a0 : ByteArray) (r : List ByteArray) (w : World) (h : gemotref2_Of.f a0 = some r) :
    Calls Try.prog 75 #[.string a0] w fun e w' => ∃ v0_ : Value, e = .returned (v0_) ∧ Kd.R Kd.string 9 w' w.heap.size (fun _ => True) v0_ r ∧ Below w.heap.size w w' := by
  unfold gemotref2_Of.f at h
  split at h
  case isFalse => cases h
  rename_i hs
  obtain ⟨k, hk⟩ := gemotref2_Of.eq a0 hs
  exact gemotref2_Of_p.calls k a0 r w (hk.trans h)
end Go.Proofs.Ytpfpmjdifnoeoaa.F
namespace Go.Proofs.Ytpfpmjdifnoeoaa.F
open Go.RowKit Go.Proofs.YtpfpmjdifnoeoaaW.PrintWords Go.Proofs.YtpfpmjdifnoeoaaW.PrintLast Go.Proofs.YtpfpmjdifnoeoaaW.PrintMore
attribute [local go_sem] max2_int min2_int max_two min_two max_three min_three max_four min_four
set_option linter.unusedVariables false
set_option linter.unusedSimpArgs false
open Go.Proofs.Ytpfpmjdifnoeoaa.Pure
end Go.Proofs.Ytpfpmjdifnoeoaa.F
namespace Go.Proofs.Ytpfpmjdifnoeoaa.F
open Go.RowKit Go.Proofs.YtpfpmjdifnoeoaaW.PrintWords Go.Proofs.YtpfpmjdifnoeoaaW.PrintLast Go.Proofs.YtpfpmjdifnoeoaaW.PrintMore
attribute [local go_sem] max2_int min2_int max_two min_two max_three min_three max_four min_four
set_option linter.unusedVariables false
set_option linter.unusedSimpArgs false
def gemotref2_Said_p.f (a0 : ByteArray) : Option (ByteArray × Bool) := (gemotref2_Kind.f a0).bind fun t1001 => (if t1001 = 116 then (if 3 ≤ (a0.size : Int) then (some (a0.extract 3 a0.size, true)) else (none)) else (some ((⟨#[]⟩ : ByteArray), false)))
set_option maxHeartbeats 8000000 in
set_option maxRecDepth 100000 in
theorem gemotref2_Said_p.calls (a0 : ByteArray) (r1 : ByteArray) (r2 : Bool) (w : World) (h : gemotref2_Said_p.f a0 = some (r1, r2)) :
    Calls Try.prog 70 #[.string a0] w fun e w' => e = .returned (.tuple #[.string r1, .bool r2]) ∧ Below w.heap.size w w' := by
  have HB := Aside0.mk (Below.refl w.heap.size w)
  have H : ((gemotref2_Kind.f a0).bind fun t1001 => (if t1001 = 116 then (if 3 ≤ (a0.size : Int) then (some (a0.extract 3 a0.size, true)) else (none)) else (some ((⟨#[]⟩ : ByteArray), false)))) = some (r1, r2) := h
  clear h
  replace H := Option.bind_eq_some_iff.mp H
  obtain ⟨t1001, A20, H⟩ := H
  replace H : (if t1001 = 116 then (if 3 ≤ (a0.size : Int) then (some (a0.extract 3 a0.size, true)) else (none)) else (some ((⟨#[]⟩ : ByteArray), false))) = some (r1, r2) := H
  have A2 := Aside0.mk A20
  clear A20
  by_cases c3 : t1001 = 116
  · rw [if_pos c3] at H
    have c3b0 : (t1001 == 116) = true := beq_iff_eq.mpr c3
    have c3b1 : (t1001 != 116) = false := bne_eq_false_iff_eq.mpr c3
    clear c3
    by_cases c4 : 3 ≤ (a0.size : Int)
    · rw [if_pos c4] at H
      have c4b0 := eq_true c4
      have c4b1 : decide (3 ≤ (a0.size : Int)) = true := decide_eq_true c4
      clear c4
      simp only [Option.some.injEq, Prod.mk.injEq] at H
      obtain ⟨rfl, rfl⟩ := H
      go_enter Try.func70, Try.ntmps70
      go_wp2_with (first | ((with_reducible refine gate_callee (f := 72) rfl ?_); refine goesL_ (some 5) rfl rfl Try.func72 (by kernel_rfl) rfl #[.string a0] rfl (by simp only [List.map_toArray, List.map_cons, List.map_nil] <;> rfl) ?_; (with_reducible refine (gemotref2_Kind.calls a0 t1001 _ A2.out).mono ?_); rintro e w5 ⟨rfl, hb⟩; refine ⟨_, rfl, ?_⟩; have n0_ := Aside0.mk (below_step (by repeat with_reducible first | exact HB.out | apply below_alloc | apply pw_below_drewN | apply below_drew1) hb); clear HB; have HB := n0_; clear n0_; (try clear hb)))
      go_ret2
      exact ⟨by first | rfl | (simp [errW_none, errW_some] <;> rfl) | (simp [*, errW_none, errW_some] <;> rfl), by repeat (first | (with_reducible first | exact HB.out | apply below_alloc | apply pw_below_drewN | apply below_drew1) | exact HB.out)⟩
    · rw [if_neg c4] at H
      exact absurd H (by simp)
  · rw [if_neg c3] at H
    have c3b0 : (t1001 == 116) = false := beq_eq_false_iff_ne.mpr c3
    have c3b1 : (t1001 != 116) = true := bne_iff_ne.mpr c3
    simp only [Option.some.injEq, Prod.mk.injEq] at H
    obtain ⟨rfl, rfl⟩ := H
    go_enter Try.func70, Try.ntmps70
    go_wp2_with (first | ((with_reducible refine gate_callee (f := 72) rfl ?_); refine goesL_ (some 5) rfl rfl Try.func72 (by kernel_rfl) rfl #[.string a0] rfl (by simp only [List.map_toArray, List.map_cons, List.map_nil] <;> rfl) ?_; (with_reducible refine (gemotref2_Kind.calls a0 t1001 _ A2.out).mono ?_); rintro e w6 ⟨rfl, hb⟩; refine ⟨_, rfl, ?_⟩; have n0_ := Aside0.mk (below_step (by repeat with_reducible first | exact HB.out | apply below_alloc | apply pw_below_drewN | apply below_drew1) hb); clear HB; have HB := n0_; clear n0_; (try clear hb)))
    go_ret2
    exact ⟨by first | rfl | (simp [errW_none, errW_some] <;> rfl) | (simp [*, errW_none, errW_some] <;> rfl), by repeat (first | (with_reducible first | exact HB.out | apply below_alloc | apply pw_below_drewN | apply below_drew1) | exact HB.out)⟩
open Go.Proofs.Ytpfpmjdifnoeoaa.Pure
def gemotref2_Said.f (t : ByteArray) : Option (ByteArray × Bool) := if t.size < 9223372036854775808 then some (saidF t) else none
theorem gemotref2_Said.eq (t : ByteArray) (hs : t.size < 9223372036854775808) : gemotref2_Said_p.f t = some (saidF t) := by
  unfold gemotref2_Said_p.f gemotref2_Kind.f saidF
  simp only [if_pos hs, Option.bind_some]
  by_cases c : kindF t = 116
  · have := said_size c
    rw [if_pos c, if_pos c, if_pos (by omega)]
  · rw [if_neg c, if_neg c]
theorem gemotref2_Said.calls (a0 : ByteArray) (r1 : ByteArray) (r2 : Bool) (w : World) (h : gemotref2_Said.f a0 = some (r1, r2)) :
    Calls Try.prog 70 #[.string a0] w fun e w' => e = .returned (.tuple #[.string r1, .bool r2]) ∧ Below w.heap.size w w' := by
  unfold gemotref2_Said.f at h
  split at h
  case isFalse => cases h
  rename_i hs
  exact gemotref2_Said_p.calls a0 r1 r2 w ((gemotref2_Said.eq a0 hs).trans h)
end Go.Proofs.Ytpfpmjdifnoeoaa.F
namespace Go.Proofs.Ytpfpmjdifnoeoaa.F
open Go.RowKit Go.Proofs.YtpfpmjdifnoeoaaW.PrintWords Go.Proofs.YtpfpmjdifnoeoaaW.PrintLast Go.Proofs.YtpfpmjdifnoeoaaW.PrintMore
attribute [local go_sem] max2_int min2_int max_two min_two max_three min_three max_four min_four
set_option linter.unusedVariables false
set_option linter.unusedSimpArgs false
def gemotref2_Open_p.f (a0 : ByteArray) (a1 : ByteArray) : Option (ByteArray × ByteArray × Int) := (gemotref2_Kind.f a0).bind fun t1001 => (if t1001 = 115 then ((gemotref2_Of.f a0).bind fun t1002 => (if 0 < (t1002.length : Int) then (if (rdOf ByteArray.empty t1002 0).toList = a1.toList then (if 1 < (t1002.length : Int) then (if 2 < (t1002.length : Int) then (some (rdOf ByteArray.empty t1002 1, rdOf ByteArray.empty t1002 2, 0)) else (none)) else (none)) else (some ((⟨#[]⟩ : ByteArray), (⟨#[]⟩ : ByteArray), 6))) else (none))) else (some ((⟨#[]⟩ : ByteArray), (⟨#[]⟩ : ByteArray), 2)))
set_option maxHeartbeats 8000000 in
set_option maxRecDepth 100000 in
theorem gemotref2_Open_p.calls (a0 : ByteArray) (a1 : ByteArray) (r1 : ByteArray) (r2 : ByteArray) (r3 : Int) (w : World) (h : gemotref2_Open_p.f a0 a1 = some (r1, r2, r3)) :
    Calls Try.prog 38 #[.string a0, .string a1] w fun e w' => e = .returned (.tuple #[.string r1, .string r2, .int .i64 r3]) ∧ Below w.heap.size w w' := by
  have HB := Aside0.mk (Below.refl w.heap.size w)
  have H : ((gemotref2_Kind.f a0).bind fun t1001 => (if t1001 = 115 then ((gemotref2_Of.f a0).bind fun t1002 => (if 0 < (t1002.length : Int) then (if (rdOf ByteArray.empty t1002 0).toList = a1.toList then (if 1 < (t1002.length : Int) then (if 2 < (t1002.length : Int) then (some (rdOf ByteArray.empty t1002 1, rdOf ByteArray.empty t1002 2, 0)) else (none)) else (none)) else (some ((⟨#[]⟩ : ByteArray), (⟨#[]⟩ : ByteArray), 6))) else (none))) else (some ((⟨#[]⟩ : ByteArray), (⟨#[]⟩ : ByteArray), 2)))) = some (r1, r2, r3) := h
  clear h; replace H := Option.bind_eq_some_iff.mp H
  obtain ⟨t1001, A30, H⟩ := H; replace H : (if t1001 = 115 then ((gemotref2_Of.f a0).bind fun t1002 => (if 0 < (t1002.length : Int) then (if (rdOf ByteArray.empty t1002 0).toList = a1.toList then (if 1 < (t1002.length : Int) then (if 2 < (t1002.length : Int) then (some (rdOf ByteArray.empty t1002 1, rdOf ByteArray.empty t1002 2, 0)) else (none)) else (none)) else (some ((⟨#[]⟩ : ByteArray), (⟨#[]⟩ : ByteArray), 6))) else (none))) else (some ((⟨#[]⟩ : ByteArray), (⟨#[]⟩ : ByteArray), 2))) = some (r1, r2, r3) := H
  have A3 := Aside0.mk A30
  clear A30; by_cases c4 : t1001 = 115
  · rw [if_pos c4] at H
    have c4b0 : (t1001 == 115) = true := beq_iff_eq.mpr c4
    have c4b1 : (t1001 != 115) = false := bne_eq_false_iff_eq.mpr c4
    clear c4; replace H := Option.bind_eq_some_iff.mp H
    obtain ⟨t1002, A50, H⟩ := H; replace H : (if 0 < (t1002.length : Int) then (if (rdOf ByteArray.empty t1002 0).toList = a1.toList then (if 1 < (t1002.length : Int) then (if 2 < (t1002.length : Int) then (some (rdOf ByteArray.empty t1002 1, rdOf ByteArray.empty t1002 2, 0)) else (none)) else (none)) else (some ((⟨#[]⟩ : ByteArray), (⟨#[]⟩ : ByteArray), 6))) else (none)) = some (r1, r2, r3) := H
    have A5 := Aside0.mk A50
    clear A50; by_cases c6 : 0 < (t1002.length : Int)
    · rw [if_pos c6] at H
      have c6b0 : decide (0 < (t1002.length : Int)) = true := decide_eq_true c6
      have c6b1 : decide (0 < t1002.length) = true := decide_eq_true (by omega)
      clear c6; by_cases c7 : (rdOf ByteArray.empty t1002 0).toList = a1.toList
      · rw [if_pos c7] at H
        have c7b0 : ((rdOf ByteArray.empty t1002 0).toList == a1.toList) = true := beq_iff_eq.mpr c7
        have c7b1 : ((rdOf ByteArray.empty t1002 0).toList != a1.toList) = false := bne_eq_false_iff_eq.mpr c7
        clear c7; by_cases c8 : 1 < (t1002.length : Int)
        · rw [if_pos c8] at H
          have c8b0 : decide (1 < (t1002.length : Int)) = true := decide_eq_true c8
          have c8b1 : decide (1 < t1002.length) = true := decide_eq_true (by omega)
          clear c8; by_cases c9 : 2 < (t1002.length : Int)
          · rw [if_pos c9] at H
            have c9b0 : decide (2 < (t1002.length : Int)) = true := decide_eq_true c9
            have c9b1 : decide (2 < t1002.length) = true := decide_eq_true (by omega)
            clear c9; simp only [Option.some.injEq, Prod.mk.injEq] at H; obtain ⟨rfl, rfl, rfl⟩ := H; go_enter Try.func38, Try.ntmps38
            go_wp2_with (first | (go_at_call 72; (with_reducible refine (gemotref2_Kind.calls a0 t1001 _ A3.out).mono ?_); rintro e w10 ⟨rfl, hb⟩; have n0_ := Aside0.mk (below_step (by repeat with_reducible first | exact HB.out | apply below_alloc | apply pw_below_drewN | apply below_drew1) hb); clear HB; have HB := n0_; clear n0_; (try clear hb)) | (go_at_call 75; (with_reducible refine (gemotref2_Of.calls a0 t1002 _ A5.out).mono ?_); rintro e w11 ⟨v1003, rfl, ho0, hb⟩; have n0_ := Aside0.mk (Kd.R_lower ho0 (below_size (by repeat with_reducible first | exact HB.out | apply below_alloc | apply pw_below_drewN | apply below_drew1))); have n1_ := Aside0.mk (below_step (by repeat with_reducible first | exact HB.out | apply below_alloc | apply pw_below_drewN | apply below_drew1) hb); clear HB; have HO1004 := n0_; have HB := n1_; clear n0_ n1_; (try clear hb); (try clear ho0); obtain ⟨Ao12, co12, eo12⟩ := Kd.R_slice HO1004.out; subst eo12; have p1005 : 0 ≤ (0 : Int) := (by omega); have q1005 : 0 < (t1002.length : Int) := of_decide_eq_true (by assumption); obtain ⟨ad1005, e1005, hx1005_0⟩ := Kd.at_string (Kd.R_reads' HO1004.out).2.2 0 p1005 q1005; cases e1005; have qi1005 : (0 < t1002.length) = True := eq_true (by omega); (try rw [show ((0 : Int)).toNat = 0 from rfl] at hx1005_0); (try rw [Addr.add_zero'] at hx1005_0); replace p1005 := eq_true p1005; replace q1005 := eq_true q1005; have p1006 : 0 ≤ (1 : Int) := (by omega); have q1006 : 1 < (t1002.length : Int) := of_decide_eq_true (by assumption); obtain ⟨ad1006, e1006, hx1006_0⟩ := Kd.at_string (Kd.R_reads' HO1004.out).2.2 1 p1006 q1006; obtain rfl : ad1005 = ad1006 := (by injection e1006); (try simp only [show (1 : Int).toNat = 1 from rfl, Nat.reduceMul, Nat.reduceEqDiff, Go.Addr.add, ↓reduceIte] at hx1006_0); have qi1006 : (1 < t1002.length) = True := eq_true (by omega); (try rw [show ((1 : Int)).toNat = 1 from rfl] at hx1006_0); replace p1006 := eq_true p1006; replace q1006 := eq_true q1006; have p1007 : 0 ≤ (2 : Int) := (by omega); have q1007 : 2 < (t1002.length : Int) := of_decide_eq_true (by assumption); obtain ⟨ad1007, e1007, hx1007_0⟩ := Kd.at_string (Kd.R_reads' HO1004.out).2.2 2 p1007 q1007; obtain rfl : ad1005 = ad1007 := (by injection e1007); (try simp only [show (2 : Int).toNat = 2 from rfl, Nat.reduceMul, Nat.reduceEqDiff, Go.Addr.add, ↓reduceIte] at hx1007_0); have qi1007 : (2 < t1002.length) = True := eq_true (by omega); (try rw [show ((2 : Int)).toNat = 2 from rfl] at hx1007_0); replace p1007 := eq_true p1007; replace q1007 := eq_true q1007))
            repeat (go_quiet (first | (go_at_call 72; (with_reducible refine (gemotref2_Kind.calls a0 t1001 _ A3.out).mono ?_); rintro e w10 ⟨rfl, hb⟩; have n0_ := Aside0.mk (below_step (by repeat with_reducible first | exact HB.out | apply below_alloc | apply pw_below_drewN | apply below_drew1) hb); clear HB; have HB := n0_; clear n0_; (try clear hb)) | (go_at_call 75; (with_reducible refine (gemotref2_Of.calls a0 t1002 _ A5.out).mono ?_); rintro e w11 ⟨v1003, rfl, ho0, hb⟩; have n0_ := Aside0.mk (Kd.R_lower ho0 (below_size (by repeat with_reducible first | exact HB.out | apply below_alloc | apply pw_below_drewN | apply below_drew1))); have n1_ := Aside0.mk (below_step (by repeat with_reducible first | exact HB.out | apply below_alloc | apply pw_below_drewN | apply below_drew1) hb); clear HB; have HO1004 := n0_; have HB := n1_; clear n0_ n1_; (try clear hb); (try clear ho0); obtain ⟨Ao12, co12, eo12⟩ := Kd.R_slice HO1004.out; subst eo12; have p1005 : 0 ≤ (0 : Int) := (by omega); have q1005 : 0 < (t1002.length : Int) := of_decide_eq_true (by assumption); obtain ⟨ad1005, e1005, hx1005_0⟩ := Kd.at_string (Kd.R_reads' HO1004.out).2.2 0 p1005 q1005; cases e1005; have qi1005 : (0 < t1002.length) = True := eq_true (by omega); (try rw [show ((0 : Int)).toNat = 0 from rfl] at hx1005_0); (try rw [Addr.add_zero'] at hx1005_0); replace p1005 := eq_true p1005; replace q1005 := eq_true q1005; have p1006 : 0 ≤ (1 : Int) := (by omega); have q1006 : 1 < (t1002.length : Int) := of_decide_eq_true (by assumption); obtain ⟨ad1006, e1006, hx1006_0⟩ := Kd.at_string (Kd.R_reads' HO1004.out).2.2 1 p1006 q1006; obtain rfl : ad1005 = ad1006 := (by injection e1006); (try simp only [show (1 : Int).toNat = 1 from rfl, Nat.reduceMul, Nat.reduceEqDiff, Go.Addr.add, ↓reduceIte] at hx1006_0); have qi1006 : (1 < t1002.length) = True := eq_true (by omega); (try rw [show ((1 : Int)).toNat = 1 from rfl] at hx1006_0); replace p1006 := eq_true p1006; replace q1006 := eq_true q1006; have p1007 : 0 ≤ (2 : Int) := (by omega); have q1007 : 2 < (t1002.length : Int) := of_decide_eq_true (by assumption); obtain ⟨ad1007, e1007, hx1007_0⟩ := Kd.at_string (Kd.R_reads' HO1004.out).2.2 2 p1007 q1007; obtain rfl : ad1005 = ad1007 := (by injection e1007); (try simp only [show (2 : Int).toNat = 2 from rfl, Nat.reduceMul, Nat.reduceEqDiff, Go.Addr.add, ↓reduceIte] at hx1007_0); have qi1007 : (2 < t1002.length) = True := eq_true (by omega); (try rw [show ((2 : Int)).toNat = 2 from rfl] at hx1007_0); replace p1007 := eq_true p1007; replace q1007 := eq_true q1007)); try go_wp2_with (first | (go_at_call 72; (with_reducible refine (gemotref2_Kind.calls a0 t1001 _ A3.out).mono ?_); rintro e w10 ⟨rfl, hb⟩; have n0_ := Aside0.mk (below_step (by repeat with_reducible first | exact HB.out | apply below_alloc | apply pw_below_drewN | apply below_drew1) hb); clear HB; have HB := n0_; clear n0_; (try clear hb)) | (go_at_call 75; (with_reducible refine (gemotref2_Of.calls a0 t1002 _ A5.out).mono ?_); rintro e w11 ⟨v1003, rfl, ho0, hb⟩; have n0_ := Aside0.mk (Kd.R_lower ho0 (below_size (by repeat with_reducible first | exact HB.out | apply below_alloc | apply pw_below_drewN | apply below_drew1))); have n1_ := Aside0.mk (below_step (by repeat with_reducible first | exact HB.out | apply below_alloc | apply pw_below_drewN | apply below_drew1) hb); clear HB; have HO1004 := n0_; have HB := n1_; clear n0_ n1_; (try clear hb); (try clear ho0); obtain ⟨Ao12, co12, eo12⟩ := Kd.R_slice HO1004.out; subst eo12; have p1005 : 0 ≤ (0 : Int) := (by omega); have q1005 : 0 < (t1002.length : Int) := of_decide_eq_true (by assumption); obtain ⟨ad1005, e1005, hx1005_0⟩ := Kd.at_string (Kd.R_reads' HO1004.out).2.2 0 p1005 q1005; cases e1005; have qi1005 : (0 < t1002.length) = True := eq_true (by omega); (try rw [show ((0 : Int)).toNat = 0 from rfl] at hx1005_0); (try rw [Addr.add_zero'] at hx1005_0); replace p1005 := eq_true p1005; replace q1005 := eq_true q1005; have p1006 : 0 ≤ (1 : Int) := (by omega); have q1006 : 1 < (t1002.length : Int) := of_decide_eq_true (by assumption); obtain ⟨ad1006, e1006, hx1006_0⟩ := Kd.at_string (Kd.R_reads' HO1004.out).2.2 1 p1006 q1006; obtain rfl : ad1005 = ad1006 := (by injection e1006); (try simp only [show (1 : Int).toNat = 1 from rfl, Nat.reduceMul, Nat.reduceEqDiff, Go.Addr.add, ↓reduceIte] at hx1006_0); have qi1006 : (1 < t1002.length) = True := eq_true (by omega); (try rw [show ((1 : Int)).toNat = 1 from rfl] at hx1006_0); replace p1006 := eq_true p1006; replace q1006 := eq_true q1006; have p1007 : 0 ≤ (2 : Int) := (by omega); have q1007 : 2 < (t1002.length : Int) := of_decide_eq_true (by assumption); obtain ⟨ad1007, e1007, hx1007_0⟩ := Kd.at_string (Kd.R_reads' HO1004.out).2.2 2 p1007 q1007; obtain rfl : ad1005 = ad1007 := (by injection e1007); (try simp only [show (2 : Int).toNat = 2 from rfl, Nat.reduceMul, Nat.reduceEqDiff, Go.Addr.add, ↓reduceIte] at hx1007_0); have qi1007 : (2 < t1002.length) = True := eq_true (by omega); (try rw [show ((2 : Int)).toNat = 2 from rfl] at hx1007_0); replace p1007 := eq_true p1007; replace q1007 := eq_true q1007)))
            go_ret3
            exact ⟨by first | rfl | (simp [errW_none, errW_some] <;> rfl) | (simp [*, errW_none, errW_some] <;> rfl), by repeat (first | (with_reducible first | exact HB.out | apply below_alloc | apply pw_below_drewN | apply below_drew1) | exact HB.out)⟩
          · rw [if_neg c9] at H
            exact absurd H (by simp)
        · rw [if_neg c8] at H
          exact absurd H (by simp)
      · rw [if_neg c7] at H
        have c7b0 : ((rdOf ByteArray.empty t1002 0).toList == a1.toList) = false := beq_eq_false_iff_ne.mpr c7
        have c7b1 : ((rdOf ByteArray.empty t1002 0).toList != a1.toList) = true := bne_iff_ne.mpr c7
        simp only [Option.some.injEq, Prod.mk.injEq] at H; obtain ⟨rfl, rfl, rfl⟩ := H; go_enter Try.func38, Try.ntmps38
        go_wp2_with (first | (go_at_call 72; (with_reducible refine (gemotref2_Kind.calls a0 t1001 _ A3.out).mono ?_); rintro e w13 ⟨rfl, hb⟩; have n0_ := Aside0.mk (below_step (by repeat with_reducible first | exact HB.out | apply below_alloc | apply pw_below_drewN | apply below_drew1) hb); clear HB; have HB := n0_; clear n0_; (try clear hb)) | (go_at_call 75; (with_reducible refine (gemotref2_Of.calls a0 t1002 _ A5.out).mono ?_); rintro e w14 ⟨v1003, rfl, ho0, hb⟩; have n0_ := Aside0.mk (Kd.R_lower ho0 (below_size (by repeat with_reducible first | exact HB.out | apply below_alloc | apply pw_below_drewN | apply below_drew1))); have n1_ := Aside0.mk (below_step (by repeat with_reducible first | exact HB.out | apply below_alloc | apply pw_below_drewN | apply below_drew1) hb); clear HB; have HO1004 := n0_; have HB := n1_; clear n0_ n1_; (try clear hb); (try clear ho0); obtain ⟨Ao15, co15, eo15⟩ := Kd.R_slice HO1004.out; subst eo15; have p1005 : 0 ≤ (0 : Int) := (by omega); have q1005 : 0 < (t1002.length : Int) := of_decide_eq_true (by assumption); obtain ⟨ad1005, e1005, hx1005_0⟩ := Kd.at_string (Kd.R_reads' HO1004.out).2.2 0 p1005 q1005; cases e1005; have qi1005 : (0 < t1002.length) = True := eq_true (by omega); (try rw [show ((0 : Int)).toNat = 0 from rfl] at hx1005_0); (try rw [Addr.add_zero'] at hx1005_0); replace p1005 := eq_true p1005; replace q1005 := eq_true q1005))
        repeat (go_quiet (first | (go_at_call 72; (with_reducible refine (gemotref2_Kind.calls a0 t1001 _ A3.out).mono ?_); rintro e w13 ⟨rfl, hb⟩; have n0_ := Aside0.mk (below_step (by repeat with_reducible first | exact HB.out | apply below_alloc | apply pw_below_drewN | apply below_drew1) hb); clear HB; have HB := n0_; clear n0_; (try clear hb)) | (go_at_call 75; (with_reducible refine (gemotref2_Of.calls a0 t1002 _ A5.out).mono ?_); rintro e w14 ⟨v1003, rfl, ho0, hb⟩; have n0_ := Aside0.mk (Kd.R_lower ho0 (below_size (by repeat with_reducible first | exact HB.out | apply below_alloc | apply pw_below_drewN | apply below_drew1))); have n1_ := Aside0.mk (below_step (by repeat with_reducible first | exact HB.out | apply below_alloc | apply pw_below_drewN | apply below_drew1) hb); clear HB; have HO1004 := n0_; have HB := n1_; clear n0_ n1_; (try clear hb); (try clear ho0); obtain ⟨Ao15, co15, eo15⟩ := Kd.R_slice HO1004.out; subst eo15; have p1005 : 0 ≤ (0 : Int) := (by omega); have q1005 : 0 < (t1002.length : Int) := of_decide_eq_true (by assumption); obtain ⟨ad1005, e1005, hx1005_0⟩ := Kd.at_string (Kd.R_reads' HO1004.out).2.2 0 p1005 q1005; cases e1005; have qi1005 : (0 < t1002.length) = True := eq_true (by omega); (try rw [show ((0 : Int)).toNat = 0 from rfl] at hx1005_0); (try rw [Addr.add_zero'] at hx1005_0); replace p1005 := eq_true p1005; replace q1005 := eq_true q1005)); try go_wp2_with (first | (go_at_call 72; (with_reducible refine (gemotref2_Kind.calls a0 t1001 _ A3.out).mono ?_); rintro e w13 ⟨rfl, hb⟩; have n0_ := Aside0.mk (below_step (by repeat with_reducible first | exact HB.out | apply below_alloc | apply pw_below_drewN | apply below_drew1) hb); clear HB; have HB := n0_; clear n0_; (try clear hb)) | (go_at_call 75; (with_reducible refine (gemotref2_Of.calls a0 t1002 _ A5.out).mono ?_); rintro e w14 ⟨v1003, rfl, ho0, hb⟩; have n0_ := Aside0.mk (Kd.R_lower ho0 (below_size (by repeat with_reducible first | exact HB.out | apply below_alloc | apply pw_below_drewN | apply below_drew1))); have n1_ := Aside0.mk (below_step (by repeat with_reducible first | exact HB.out | apply below_alloc | apply pw_below_drewN | apply below_drew1) hb); clear HB; have HO1004 := n0_; have HB := n1_; clear n0_ n1_; (try clear hb); (try clear ho0); obtain ⟨Ao15, co15, eo15⟩ := Kd.R_slice HO1004.out; subst eo15; have p1005 : 0 ≤ (0 : Int) := (by omega); have q1005 : 0 < (t1002.length : Int) := of_decide_eq_true (by assumption); obtain ⟨ad1005, e1005, hx1005_0⟩ := Kd.at_string (Kd.R_reads' HO1004.out).2.2 0 p1005 q1005; cases e1005; have qi1005 : (0 < t1002.length) = True := eq_true (by omega); (try rw [show ((0 : Int)).toNat = 0 from rfl] at hx1005_0); (try rw [Addr.add_zero'] at hx1005_0); replace p1005 := eq_true p1005; replace q1005 := eq_true q1005)))
        go_ret3
        exact ⟨by first | rfl | (simp [errW_none, errW_some] <;> rfl) | (simp [*, errW_none, errW_some] <;> rfl), by repeat (first | (with_reducible first | exact HB.out | apply below_alloc | apply pw_below_drewN | apply below_drew1) | exact HB.out)⟩
    · rw [if_neg c6] at H
      exact absurd H (by simp)
  · rw [if_neg c4] at H
    have c4b0 : (t1001 == 115) = false := beq_eq_false_iff_ne.mpr c4
    have c4b1 : (t1001 != 115) = true := bne_iff_ne.mpr c4
    simp only [Option.some.injEq, Prod.mk.injEq] at H; obtain ⟨rfl, rfl, rfl⟩ := H; go_enter Try.func38, Try.ntmps38
    go_wp2_with (first | (go_at_call 72; (with_reducible refine (gemotref2_Kind.calls a0 t1001 _ A3.out).mono ?_); rintro e w16 ⟨rfl, hb⟩; have n0_ := Aside0.mk (below_step (by repeat with_reducible first | exact HB.out | apply below_alloc | apply pw_below_drewN | apply below_drew1) hb); clear HB; have HB := n0_; clear n0_; (try clear hb)))
    repeat (go_quiet (first | (go_at_call 72; (with_reducible refine (gemotref2_Kind.calls a0 t1001 _ A3.out).mono ?_); rintro e w16 ⟨rfl, hb⟩; have n0_ := Aside0.mk (below_step (by repeat with_reducible first | exact HB.out | apply below_alloc | apply pw_below_drewN | apply below_drew1) hb); clear HB; have HB := n0_; clear n0_; (try clear hb))); try go_wp2_with (first | (go_at_call 72; (with_reducible refine (gemotref2_Kind.calls a0 t1001 _ A3.out).mono ?_); rintro e w16 ⟨rfl, hb⟩; have n0_ := Aside0.mk (below_step (by repeat with_reducible first | exact HB.out | apply below_alloc | apply pw_below_drewN | apply below_drew1) hb); clear HB; have HB := n0_; clear n0_; (try clear hb))))
    go_ret3
    exact ⟨by first | rfl | (simp [errW_none, errW_some] <;> rfl) | (simp [*, errW_none, errW_some] <;> rfl), by repeat (first | (with_reducible first | exact HB.out | apply below_alloc | apply pw_below_drewN | apply below_drew1) | exact HB.out)⟩
open Go.Proofs.Ytpfpmjdifnoeoaa.Pure
def gemotref2_Open.f (t key : ByteArray) : Option (ByteArray × ByteArray × Int) := if t.size < 9223372036854775808 then some (openP t key) else none
theorem gemotref2_Open.eq (t key : ByteArray) (hs : t.size < 9223372036854775808) : gemotref2_Open_p.f t key = some (openP t key) := by
  unfold gemotref2_Open_p.f gemotref2_Kind.f gemotref2_Of.f openP
  simp only [if_pos hs, Option.bind_some]; by_cases c : kindF t = 115
  · obtain ⟨hr, hb⟩ := kind_right c (by decide)
    obtain ⟨x, y, z, hk, _⟩ := kids_seal hr hb
    have hp : kidsP t = [x, y, z] := by unfold kidsP; rw [if_pos hr, hk]
    rw [if_pos c, if_pos c, hp, hk, if_pos (by simp)]
    have hx : rdOf ByteArray.empty [x, y, z] 0 = x := rfl
    rw [hx]
    by_cases d : x = key
    · rw [if_pos d, if_pos (by rw [d]), if_pos (by simp), if_pos (by simp)]
    · rw [if_neg d, if_neg (fun h => d (same_text h))]
  · rw [if_neg c, if_neg c]
theorem gemotref2_Open.calls (a0 : ByteArray) (a1 : ByteArray) (r1 : ByteArray) (r2 : ByteArray) (r3 : Int) (w : World) (h : gemotref2_Open.f a0 a1 = some (r1, r2, r3)) :
    Calls Try.prog 38 #[.string a0, .string a1] w fun e w' => e = .returned (.tuple #[.string r1, .string r2, .int .i64 r3]) ∧ Below w.heap.size w w' := by
  unfold gemotref2_Open.f at h
  split at h
  case isFalse => cases h
  rename_i hs
  exact gemotref2_Open_p.calls a0 a1 r1 r2 r3 w ((gemotref2_Open.eq a0 a1 hs).trans h)
end Go.Proofs.Ytpfpmjdifnoeoaa.F
namespace Go.Proofs.Ytpfpmjdifnoeoaa.F
open Go.RowKit Go.Proofs.YtpfpmjdifnoeoaaW.PrintWords Go.Proofs.YtpfpmjdifnoeoaaW.PrintLast Go.Proofs.YtpfpmjdifnoeoaaW.PrintMore
attribute [local go_sem] max2_int min2_int max_two min_two max_three min_three max_four min_four
set_option linter.unusedVariables false
set_option linter.unusedSimpArgs false
open Go.Proofs.Ytpfpmjdifnoeoaa.Pure
end Go.Proofs.Ytpfpmjdifnoeoaa.F
