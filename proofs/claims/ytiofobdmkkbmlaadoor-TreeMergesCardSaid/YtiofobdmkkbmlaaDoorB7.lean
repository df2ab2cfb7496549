/- The document's functions on trees; no condition. -/
import Derived.Test.YtiofobdmkkbmlaaDoorF0
import Derived.Test.YtiofobdmkkbmlaaDoorF29
namespace Go.Proofs.YtiofobdmkkbmlaaDoor.F
open Go.RowKit Go.Proofs.YtiofobdmkkbmlaaDoorW.PrintWords Go.Proofs.YtiofobdmkkbmlaaDoorW.PrintLast Go.Proofs.YtiofobdmkkbmlaaDoorW.PrintMore
attribute [local go_sem] max2_int min2_int max_two min_two max_three min_three max_four min_four
set_option linter.unusedVariables false
set_option linter.unusedSimpArgs false

/-! ### gemotref13_leaf: function 45 -/
def gemotref13_leaf.f (a0 : Int) : Option (ByteArray) := if 0 ≤ a0 then (if a0 ≤ (wrap64 (a0 + 1)) then (if (wrap64 (a0 + 1)) ≤ 9 then (some ((⟨#[48, 49, 50, 51, 52, 53, 54, 55, 56]⟩ : ByteArray).extract (a0 : Int).toNat ((wrap64 (a0 + 1)) : Int).toNat)) else (none)) else (none)) else (none)
set_option maxHeartbeats 8000000 in
set_option maxRecDepth 100000 in
theorem gemotref13_leaf.calls (a0 : Int) (r : ByteArray) (w : World) (h : gemotref13_leaf.f a0 = some r) :
    Calls Tryd.prog 45 #[.int .i64 a0] w fun e w' => e = .returned (.string r) ∧ Drawn0 w w' := by
  have H : (if 0 ≤ a0 then (if a0 ≤ (wrap64 (a0 + 1)) then (if (wrap64 (a0 + 1)) ≤ 9 then (some ((⟨#[48, 49, 50, 51, 52, 53, 54, 55, 56]⟩ : ByteArray).extract (a0 : Int).toNat ((wrap64 (a0 + 1)) : Int).toNat)) else (none)) else (none)) else (none)) = some r := h
  clear h
  by_cases c2 : 0 ≤ a0
  · rw [if_pos c2] at H
    have c2b0 := eq_true c2
    have c2b1 : decide (0 ≤ a0) = true := decide_eq_true c2
    clear c2
    by_cases c3 : a0 ≤ (wrap64 (a0 + 1))
    · rw [if_pos c3] at H
      have c3b0 := eq_true c3
      have c3b1 : decide (a0 ≤ (wrap64 (a0 + 1))) = true := decide_eq_true c3
      by_cases c4 : (wrap64 (a0 + 1)) ≤ 9
      · rw [if_pos c4] at H
        have c4b0 := eq_true c4
        have c4b1 : decide ((wrap64 (a0 + 1)) ≤ 9) = true := decide_eq_true c4
        obtain rfl := Option.some.inj H
        go_enter Tryd.func45, Tryd.ntmps45
        go_wp2
        go_ret
        exact ⟨by first | rfl | (simp; done) | (simp [*]; done), by repeat (first | exact Drawn0.refl _ | apply Drawn0.step)⟩
      · rw [if_neg c4] at H
        exact absurd H (by simp)
    · rw [if_neg c3] at H
      exact absurd H (by simp)
  · rw [if_neg c2] at H
    exact absurd H (by simp)

end Go.Proofs.YtiofobdmkkbmlaaDoor.F
namespace Go.Proofs.YtiofobdmkkbmlaaDoor.F
open Go.RowKit Go.Proofs.YtiofobdmkkbmlaaDoorW.PrintWords Go.Proofs.YtiofobdmkkbmlaaDoorW.PrintLast Go.Proofs.YtiofobdmkkbmlaaDoorW.PrintMore
attribute [local go_sem] max2_int min2_int max_two min_two max_three min_three max_four min_four
set_option linter.unusedVariables false
set_option linter.unusedSimpArgs false

/-! ### gemotref13_End: function 46 -/
mutual
def gemotref13_End.j0 : Nat → ByteArray → Int → Bool → Option (Int)
  | 0, _, _, _ => none
  | k + 1, x0, x1, x19 => if x19 = true then (some (wrap64 (x1 + 1))) else (if 0 ≤ x1 then (if x1 < (x0.size : Int) then (if (bt x0 x1) = 40 then ((gemotref13_End.f k x0 (wrap64 (x1 + 1))).bind fun t1001 => (if t1001 < 0 then (some (-1)) else ((gemotref13_End.f k x0 t1001).bind fun t1002 => (if t1002 < 0 then (some (-1)) else (if t1002 ≥ (x0.size : Int) then (some (-1)) else (if 0 ≤ t1002 then (if t1002 < (x0.size : Int) then (if (bt x0 t1002) = 41 then (some (wrap64 (t1002 + 1))) else (some (-1))) else (none)) else (none))))))) else (some (-1))) else (none)) else (none))
def gemotref13_End.f : Nat → ByteArray → Int → Option (Int)
  | 0, _, _ => none
  | k + 1, a0, a1 => if a1 ≥ (a0.size : Int) then (some (-1)) else (if 0 ≤ a1 then (if a1 < (a0.size : Int) then (if (bt a0 a1) ≥ 49 then (gemotref13_End.j0 k a0 a1 (decide ((bt a0 a1) ≤ 56))) else (gemotref13_End.j0 k a0 a1 false)) else (none)) else (none))
end
theorem gemotref13_End.mono_l : ∀ k, (∀ y0 y1, LeO (gemotref13_End.f k y0 y1) (gemotref13_End.f (k + 1) y0 y1)) ∧ (∀ y0 y1 y2, LeO (gemotref13_End.j0 k y0 y1 y2) (gemotref13_End.j0 (k + 1) y0 y1 y2))
  | 0 => ⟨fun _ _ r h => by simp [gemotref13_End.f] at h, fun _ _ _ r h => by simp [gemotref13_End.j0] at h⟩
  | k + 1 => by
    obtain ⟨ih0, ih1⟩ := gemotref13_End.mono_l k; refine ⟨?_, ?_⟩
    · intro y0 y1; unfold gemotref13_End.f
      repeat' first
      | (with_reducible exact ih0 _ _)
      | (with_reducible exact ih1 _ _ _)
      | (with_reducible exact LeO.refl _)
      | (with_reducible exact LeO.none _)
      | (with_reducible refine LeO.ite ?_ ?_)
      | (with_reducible refine LeO.bind ?_ (fun _ => ?_))
      | exact ih0 _ _
      | exact ih1 _ _ _
      | exact LeO.none _
      | refine LeO.ite ?_ ?_
      | refine LeO.bind ?_ (fun _ => ?_)
    · intro y0 y1 y2; unfold gemotref13_End.j0
      repeat' first
      | (with_reducible exact ih0 _ _)
      | (with_reducible exact ih1 _ _ _)
      | (with_reducible exact LeO.refl _)
      | (with_reducible exact LeO.none _)
      | (with_reducible refine LeO.ite ?_ ?_)
      | (with_reducible refine LeO.bind ?_ (fun _ => ?_))
      | exact ih0 _ _
      | exact ih1 _ _ _
      | exact LeO.none _
      | refine LeO.ite ?_ ?_
      | refine LeO.bind ?_ (fun _ => ?_)
theorem gemotref13_End.mono : ∀ a0 a1 k, LeO (gemotref13_End.f k a0 a1) (gemotref13_End.f (k + 1) a0 a1) := by
  intro a0 a1 k; obtain ⟨ih0, ih1⟩ := gemotref13_End.mono_l k; exact ih0 a0 a1
set_option maxHeartbeats 8000000 in
set_option maxRecDepth 100000 in
theorem gemotref13_End.calls (k : Nat) : ∀ (a0 : ByteArray) (a1 : Int) (r : Int) (w : World) (h : gemotref13_End.f k a0 a1 = some r),
    Calls Tryd.prog 46 #[.string a0, .int .i64 a1] w fun e w' => e = .returned (.int .i64 r) ∧ Drawn0 w w' := by
  induction k using Nat.strongRecOn with
  | _ k ih =>
  intro a0 a1 r w h; cases k with
  | zero => exact absurd h (by simp [gemotref13_End.f])
  | succ k =>
  simp only [gemotref13_End.f] at h; have H : (if a1 ≥ (a0.size : Int) then (some (-1)) else (if 0 ≤ a1 then (if a1 < (a0.size : Int) then (if (bt a0 a1) ≥ 49 then (gemotref13_End.j0 k a0 a1 (decide ((bt a0 a1) ≤ 56))) else (gemotref13_End.j0 k a0 a1 false)) else (none)) else (none))) = some r := h
  clear h; by_cases c3 : a1 ≥ (a0.size : Int)
  · rw [if_pos c3] at H
    have c3b0 : decide ((a0.size : Int) ≤ a1) = true := decide_eq_true c3
    clear c3; obtain rfl := Option.some.inj H
    go_enter Tryd.func46, Tryd.ntmps46
    go_wp2; go_ret
    exact ⟨by first | rfl | (simp; done) | (simp [*]; done), by repeat (first | exact Drawn0.refl _ | apply Drawn0.step)⟩
  · rw [if_neg c3] at H
    have c3b0 : decide ((a0.size : Int) ≤ a1) = false := decide_eq_false c3
    clear c3; have HC4 := Aside0.mk H
    clear H; go_enter Tryd.func46, Tryd.ntmps46
    go_upto_region 3 with (fail)
    go_cut [19] (fun v19 wc => ∃ (kq : Nat) (x19_3 : Bool), v19 = .bool x19_3 ∧ Aside0 (gemotref13_End.j0 kq a0 a1 x19_3 = some r) ∧ Aside0 (kq ≤ k) ∧ Drawn0 w wc)
    case first =>
      have H := HC4.out; clear HC4; by_cases c5 : 0 ≤ a1
      · rw [if_pos c5] at H
        have c5b0 : decide (0 ≤ a1) = true := decide_eq_true c5
        clear c5; (first | rw [c5b0] | (simp only [i64_w, i32_w]; rw [c5b0]) | skip); by_cases c6 : a1 < (a0.size : Int)
        · rw [if_pos c6] at H
          have c6b0 : decide (a1 < (a0.size : Int)) = true := decide_eq_true c6
          clear c6; by_cases c8 : (bt a0 a1) ≥ 49
          · rw [if_pos c8] at H
            have c8b0 : decide (49 ≤ (bt a0 a1)) = true := decide_eq_true c8
            clear c8; have H' := Aside0.mk H
            clear H; have p7 : 0 ≤ (a1 : Int) := of_decide_eq_true (by first | (with_reducible assumption) | assumption)
            have q7 : a1 < (a0.size : Int) := of_decide_eq_true (by first | (with_reducible assumption) | assumption)
            have hx7 := bt_at a0 a1
            replace p7 := eq_true p7
            replace q7 := eq_true q7
            have p9 : 0 ≤ (a1 : Int) := of_decide_eq_true (by first | (with_reducible assumption) | assumption)
            have q9 : a1 < (a0.size : Int) := of_decide_eq_true (by first | (with_reducible assumption) | assumption)
            have hx9 := bt_at a0 a1
            replace p9 := eq_true p9
            replace q9 := eq_true q9
            go_wp2; go_meet
            case rel => exact ⟨_, (decide ((bt a0 a1) ≤ 56)), (by first | rfl | (simp; done) | (simp [*]; done)), H', ⟨by first | omega | exact Nat.le_refl _⟩, by repeat (first | exact Drawn0.refl _ | apply Drawn0.step)⟩
          · rw [if_neg c8] at H
            have c8b0 : decide (49 ≤ (bt a0 a1)) = false := decide_eq_false c8
            clear c8; have H' := Aside0.mk H
            clear H; have p7 : 0 ≤ (a1 : Int) := of_decide_eq_true (by first | (with_reducible assumption) | assumption)
            have q7 : a1 < (a0.size : Int) := of_decide_eq_true (by first | (with_reducible assumption) | assumption)
            have hx7 := bt_at a0 a1
            replace p7 := eq_true p7
            replace q7 := eq_true q7
            go_wp2; go_meet
            case rel => exact ⟨_, (false), (by first | rfl | (simp; done) | (simp [*]; done)), H', ⟨by first | omega | exact Nat.le_refl _⟩, by repeat (first | exact Drawn0.refl _ | apply Drawn0.step)⟩
        · rw [if_neg c6] at H
          exact absurd H (by simp)
      · rw [if_neg c5] at H
        exact absurd H (by simp)
    case rest =>
      clear HC4; try clear p2
      try clear c3
      try clear c3b0
      try clear c4
      try clear c5
      try clear c5b0
      try clear c6
      try clear c6b0
      try clear p7
      try clear q7
      try clear hx7
      try clear c8
      try clear c8b0
      try clear p9
      try clear q9
      try clear hx9
      try clear p7
      try clear p9
      try clear q7
      try clear q9
      obtain ⟨kq, x19_3, rfl, HA, HJ3, ⟨mc3, rfl⟩⟩ := hcut
      cases kq with
      | zero => exact absurd HA.out (by simp [gemotref13_End.j0])
      | succ kj3 =>
        have H := HA.out; clear HA; simp only [gemotref13_End.j0] at H; by_cases c10 : x19_3 = true
        · subst c10; have H1 : (some (wrap64 (a1 + 1))) = some r := by rw [if_pos rfl] at H; exact H
          clear H; have H := H1; clear H1; obtain rfl := Option.some.inj H
          go_wp2; go_ret
          exact ⟨by first | rfl | (simp; done) | (simp [*]; done), by repeat (first | exact Drawn0.refl _ | apply Drawn0.step)⟩
        · replace c10 := Bool.eq_false_iff.mpr c10
          subst c10; have H1 : (if 0 ≤ a1 then (if a1 < (a0.size : Int) then (if (bt a0 a1) = 40 then ((gemotref13_End.f kj3 a0 (wrap64 (a1 + 1))).bind fun t1001 => (if t1001 < 0 then (some (-1)) else ((gemotref13_End.f kj3 a0 t1001).bind fun t1002 => (if t1002 < 0 then (some (-1)) else (if t1002 ≥ (a0.size : Int) then (some (-1)) else (if 0 ≤ t1002 then (if t1002 < (a0.size : Int) then (if (bt a0 t1002) = 41 then (some (wrap64 (t1002 + 1))) else (some (-1))) else (none)) else (none))))))) else (some (-1))) else (none)) else (none)) = some r := by rw [if_neg (show ¬ (false = true) by decide)] at H; exact H
          clear H; have H := H1; clear H1; by_cases c11 : 0 ≤ a1
          · rw [if_pos c11] at H
            have c11b0 : decide (0 ≤ a1) = true := decide_eq_true c11
            clear c11; by_cases c12 : a1 < (a0.size : Int)
            · rw [if_pos c12] at H
              have c12b0 : decide (a1 < (a0.size : Int)) = true := decide_eq_true c12
              clear c12; by_cases c14 : (bt a0 a1) = 40
              · rw [if_pos c14] at H
                have c14b0 : ((bt a0 a1) == 40) = true := beq_iff_eq.mpr c14
                have c14b1 : ((bt a0 a1) != 40) = false := bne_eq_false_iff_eq.mpr c14
                clear c14; replace H := Option.bind_eq_some_iff.mp H
                obtain ⟨t1001, A150, H⟩ := H; replace H : (if t1001 < 0 then (some (-1)) else ((gemotref13_End.f kj3 a0 t1001).bind fun t1002 => (if t1002 < 0 then (some (-1)) else (if t1002 ≥ (a0.size : Int) then (some (-1)) else (if 0 ≤ t1002 then (if t1002 < (a0.size : Int) then (if (bt a0 t1002) = 41 then (some (wrap64 (t1002 + 1))) else (some (-1))) else (none)) else (none)))))) = some r := H
                have A15 := Aside0.mk A150
                clear A150; by_cases c16 : t1001 < 0
                · rw [if_pos c16] at H
                  have c16b0 : decide (t1001 < 0) = true := decide_eq_true c16
                  clear c16; obtain rfl := Option.some.inj H
                  have p13 : 0 ≤ (a1 : Int) := of_decide_eq_true (by first | (with_reducible assumption) | assumption)
                  have q13 : a1 < (a0.size : Int) := of_decide_eq_true (by first | (with_reducible assumption) | assumption)
                  have hx13 := bt_at a0 a1
                  replace p13 := eq_true p13
                  replace q13 := eq_true q13
                  go_wp2_with (first | ((with_reducible refine gate_callee (f := 46) rfl ?_); refine goesL_ (some 29) rfl rfl Tryd.func46 (by kernel_rfl) rfl #[.string a0, .int .i64 (wrap64 (a1 + 1))] rfl (by simp only [List.map_toArray, List.map_cons, List.map_nil] <;> rfl) ?_; (with_reducible refine (ih kj3 (by have := HJ3.out; omega) a0 (wrap64 (a1 + 1)) t1001 _ A15.out).mono ?_); rintro e w' ⟨rfl, ⟨nd, rfl⟩⟩; refine ⟨_, rfl, ?_⟩))
                  go_ret
                  exact ⟨by first | rfl | (simp; done) | (simp [*]; done), by repeat (first | exact Drawn0.refl _ | apply Drawn0.step)⟩
                · rw [if_neg c16] at H
                  have c16b0 : decide (t1001 < 0) = false := decide_eq_false c16
                  clear c16; replace H := Option.bind_eq_some_iff.mp H
                  obtain ⟨t1002, A170, H⟩ := H; replace H : (if t1002 < 0 then (some (-1)) else (if t1002 ≥ (a0.size : Int) then (some (-1)) else (if 0 ≤ t1002 then (if t1002 < (a0.size : Int) then (if (bt a0 t1002) = 41 then (some (wrap64 (t1002 + 1))) else (some (-1))) else (none)) else (none)))) = some r := H
                  have A17 := Aside0.mk A170
                  clear A170; by_cases c18 : t1002 < 0
                  · rw [if_pos c18] at H
                    have c18b0 : decide (t1002 < 0) = true := decide_eq_true c18
                    clear c18; obtain rfl := Option.some.inj H
                    have p13 : 0 ≤ (a1 : Int) := of_decide_eq_true (by first | (with_reducible assumption) | assumption)
                    have q13 : a1 < (a0.size : Int) := of_decide_eq_true (by first | (with_reducible assumption) | assumption)
                    have hx13 := bt_at a0 a1
                    replace p13 := eq_true p13
                    replace q13 := eq_true q13
                    go_wp2_with (first | ((with_reducible refine gate_callee (f := 46) rfl ?_); refine goesL_ (some 29) rfl rfl Tryd.func46 (by kernel_rfl) rfl #[.string a0, .int .i64 (wrap64 (a1 + 1))] rfl (by simp only [List.map_toArray, List.map_cons, List.map_nil] <;> rfl) ?_; (with_reducible refine (ih kj3 (by have := HJ3.out; omega) a0 (wrap64 (a1 + 1)) t1001 _ A15.out).mono ?_); rintro e w' ⟨rfl, ⟨nd, rfl⟩⟩; refine ⟨_, rfl, ?_⟩) | ((with_reducible refine gate_callee (f := 46) rfl ?_); refine goesL_ (some 34) rfl rfl Tryd.func46 (by kernel_rfl) rfl #[.string a0, .int .i64 t1001] rfl (by simp only [List.map_toArray, List.map_cons, List.map_nil] <;> rfl) ?_; (with_reducible refine (ih kj3 (by have := HJ3.out; omega) a0 t1001 t1002 _ A17.out).mono ?_); rintro e w' ⟨rfl, ⟨nd, rfl⟩⟩; refine ⟨_, rfl, ?_⟩))
                    go_ret
                    exact ⟨by first | rfl | (simp; done) | (simp [*]; done), by repeat (first | exact Drawn0.refl _ | apply Drawn0.step)⟩
                  · rw [if_neg c18] at H
                    have c18b0 : decide (t1002 < 0) = false := decide_eq_false c18
                    clear c18; by_cases c19 : t1002 ≥ (a0.size : Int)
                    · rw [if_pos c19] at H
                      have c19b0 : decide ((a0.size : Int) ≤ t1002) = true := decide_eq_true c19
                      clear c19; obtain rfl := Option.some.inj H
                      have p13 : 0 ≤ (a1 : Int) := of_decide_eq_true (by first | (with_reducible assumption) | assumption)
                      have q13 : a1 < (a0.size : Int) := of_decide_eq_true (by first | (with_reducible assumption) | assumption)
                      have hx13 := bt_at a0 a1
                      replace p13 := eq_true p13
                      replace q13 := eq_true q13
                      go_wp2_with (first | ((with_reducible refine gate_callee (f := 46) rfl ?_); refine goesL_ (some 29) rfl rfl Tryd.func46 (by kernel_rfl) rfl #[.string a0, .int .i64 (wrap64 (a1 + 1))] rfl (by simp only [List.map_toArray, List.map_cons, List.map_nil] <;> rfl) ?_; (with_reducible refine (ih kj3 (by have := HJ3.out; omega) a0 (wrap64 (a1 + 1)) t1001 _ A15.out).mono ?_); rintro e w' ⟨rfl, ⟨nd, rfl⟩⟩; refine ⟨_, rfl, ?_⟩) | ((with_reducible refine gate_callee (f := 46) rfl ?_); refine goesL_ (some 34) rfl rfl Tryd.func46 (by kernel_rfl) rfl #[.string a0, .int .i64 t1001] rfl (by simp only [List.map_toArray, List.map_cons, List.map_nil] <;> rfl) ?_; (with_reducible refine (ih kj3 (by have := HJ3.out; omega) a0 t1001 t1002 _ A17.out).mono ?_); rintro e w' ⟨rfl, ⟨nd, rfl⟩⟩; refine ⟨_, rfl, ?_⟩))
                      go_ret
                      exact ⟨by first | rfl | (simp; done) | (simp [*]; done), by repeat (first | exact Drawn0.refl _ | apply Drawn0.step)⟩
                    · rw [if_neg c19] at H
                      have c19b0 : decide ((a0.size : Int) ≤ t1002) = false := decide_eq_false c19
                      clear c19; by_cases c20 : 0 ≤ t1002
                      · rw [if_pos c20] at H
                        have c20b0 : decide (0 ≤ t1002) = true := decide_eq_true c20
                        clear c20; by_cases c21 : t1002 < (a0.size : Int)
                        · rw [if_pos c21] at H
                          have c21b0 : decide (t1002 < (a0.size : Int)) = true := decide_eq_true c21
                          clear c21; by_cases c23 : (bt a0 t1002) = 41
                          · rw [if_pos c23] at H
                            have c23b0 : ((bt a0 t1002) == 41) = true := beq_iff_eq.mpr c23
                            have c23b1 : ((bt a0 t1002) != 41) = false := bne_eq_false_iff_eq.mpr c23
                            clear c23; obtain rfl := Option.some.inj H
                            have p13 : 0 ≤ (a1 : Int) := of_decide_eq_true (by first | (with_reducible assumption) | assumption)
                            have q13 : a1 < (a0.size : Int) := of_decide_eq_true (by first | (with_reducible assumption) | assumption)
                            have hx13 := bt_at a0 a1
                            replace p13 := eq_true p13
                            replace q13 := eq_true q13
                            go_wp2_with (first | ((with_reducible refine gate_callee (f := 46) rfl ?_); refine goesL_ (some 29) rfl rfl Tryd.func46 (by kernel_rfl) rfl #[.string a0, .int .i64 (wrap64 (a1 + 1))] rfl (by simp only [List.map_toArray, List.map_cons, List.map_nil] <;> rfl) ?_; (with_reducible refine (ih kj3 (by have := HJ3.out; omega) a0 (wrap64 (a1 + 1)) t1001 _ A15.out).mono ?_); rintro e w' ⟨rfl, ⟨nd, rfl⟩⟩; refine ⟨_, rfl, ?_⟩) | ((with_reducible refine gate_callee (f := 46) rfl ?_); refine goesL_ (some 34) rfl rfl Tryd.func46 (by kernel_rfl) rfl #[.string a0, .int .i64 t1001] rfl (by simp only [List.map_toArray, List.map_cons, List.map_nil] <;> rfl) ?_; (with_reducible refine (ih kj3 (by have := HJ3.out; omega) a0 t1001 t1002 _ A17.out).mono ?_); rintro e w' ⟨rfl, ⟨nd, rfl⟩⟩; refine ⟨_, rfl, ?_⟩; have p22 : 0 ≤ (t1002 : Int) := of_decide_eq_true (by assumption); have q22 : t1002 < (a0.size : Int) := of_decide_eq_true (by assumption); have hx22 := bt_at a0 t1002; replace p22 := eq_true p22; replace q22 := eq_true q22))
                            go_ret
                            exact ⟨by first | rfl | (simp; done) | (simp [*]; done), by repeat (first | exact Drawn0.refl _ | apply Drawn0.step)⟩
                          · rw [if_neg c23] at H
                            have c23b0 : ((bt a0 t1002) == 41) = false := beq_eq_false_iff_ne.mpr c23
                            have c23b1 : ((bt a0 t1002) != 41) = true := bne_iff_ne.mpr c23
                            obtain rfl := Option.some.inj H
                            have p13 : 0 ≤ (a1 : Int) := of_decide_eq_true (by first | (with_reducible assumption) | assumption)
                            have q13 : a1 < (a0.size : Int) := of_decide_eq_true (by first | (with_reducible assumption) | assumption)
                            have hx13 := bt_at a0 a1
                            replace p13 := eq_true p13
                            replace q13 := eq_true q13
                            go_wp2_with (first | ((with_reducible refine gate_callee (f := 46) rfl ?_); refine goesL_ (some 29) rfl rfl Tryd.func46 (by kernel_rfl) rfl #[.string a0, .int .i64 (wrap64 (a1 + 1))] rfl (by simp only [List.map_toArray, List.map_cons, List.map_nil] <;> rfl) ?_; (with_reducible refine (ih kj3 (by have := HJ3.out; omega) a0 (wrap64 (a1 + 1)) t1001 _ A15.out).mono ?_); rintro e w' ⟨rfl, ⟨nd, rfl⟩⟩; refine ⟨_, rfl, ?_⟩) | ((with_reducible refine gate_callee (f := 46) rfl ?_); refine goesL_ (some 34) rfl rfl Tryd.func46 (by kernel_rfl) rfl #[.string a0, .int .i64 t1001] rfl (by simp only [List.map_toArray, List.map_cons, List.map_nil] <;> rfl) ?_; (with_reducible refine (ih kj3 (by have := HJ3.out; omega) a0 t1001 t1002 _ A17.out).mono ?_); rintro e w' ⟨rfl, ⟨nd, rfl⟩⟩; refine ⟨_, rfl, ?_⟩; have p22 : 0 ≤ (t1002 : Int) := of_decide_eq_true (by assumption); have q22 : t1002 < (a0.size : Int) := of_decide_eq_true (by assumption); have hx22 := bt_at a0 t1002; replace p22 := eq_true p22; replace q22 := eq_true q22))
                            go_ret
                            exact ⟨by first | rfl | (simp; done) | (simp [*]; done), by repeat (first | exact Drawn0.refl _ | apply Drawn0.step)⟩
                        · rw [if_neg c21] at H
                          exact absurd H (by simp)
                      · rw [if_neg c20] at H
                        exact absurd H (by simp)
              · rw [if_neg c14] at H
                have c14b0 : ((bt a0 a1) == 40) = false := beq_eq_false_iff_ne.mpr c14
                have c14b1 : ((bt a0 a1) != 40) = true := bne_iff_ne.mpr c14
                obtain rfl := Option.some.inj H
                have p13 : 0 ≤ (a1 : Int) := of_decide_eq_true (by first | (with_reducible assumption) | assumption)
                have q13 : a1 < (a0.size : Int) := of_decide_eq_true (by first | (with_reducible assumption) | assumption)
                have hx13 := bt_at a0 a1
                replace p13 := eq_true p13
                replace q13 := eq_true q13
                go_wp2; go_ret
                exact ⟨by first | rfl | (simp; done) | (simp [*]; done), by repeat (first | exact Drawn0.refl _ | apply Drawn0.step)⟩
            · rw [if_neg c12] at H
              exact absurd H (by simp)
          · rw [if_neg c11] at H
            exact absurd H (by simp)

end Go.Proofs.YtiofobdmkkbmlaaDoor.F
namespace Go.Proofs.YtiofobdmkkbmlaaDoor.F
open Go.RowKit Go.Proofs.YtiofobdmkkbmlaaDoorW.PrintWords Go.Proofs.YtiofobdmkkbmlaaDoorW.PrintLast Go.Proofs.YtiofobdmkkbmlaaDoorW.PrintMore
attribute [local go_sem] max2_int min2_int max_two min_two max_three min_three max_four min_four
set_option linter.unusedVariables false
set_option linter.unusedSimpArgs false

/-! ### gemotref13_digits: function 39 -/
def gemotref13_digits.l0 : Nat → ByteArray → List Int → Int → Option (List Int)
  | 0, _, _, _ => none
  | k + 1, x0, x3, x4 => if x4 < (x0.size : Int) then (if 0 ≤ x4 then (if (bt x0 x4) ≥ 49 then (if (bt x0 x4) ≤ 56 then (if x3.length < 17592186044416 then (gemotref13_digits.l0 k x0 (x3 ++ [((bt x0 x4) - 48) % 256]) (wrap64 (x4 + 1))) else (none)) else (gemotref13_digits.l0 k x0 x3 (wrap64 (x4 + 1)))) else (gemotref13_digits.l0 k x0 x3 (wrap64 (x4 + 1)))) else (none)) else (some x3)
def gemotref13_digits.f (k : Nat) (a0 : ByteArray) : Option (List Int) := gemotref13_digits.l0 k a0 ([] : List Int) 0
theorem gemotref13_digits.mono_l : ∀ k, (∀ y0 y1 y2, LeO (gemotref13_digits.l0 k y0 y1 y2) (gemotref13_digits.l0 (k + 1) y0 y1 y2))
  | 0 => fun _ _ _ r h => by simp [gemotref13_digits.l0] at h
  | k + 1 => by
    have ih0 := gemotref13_digits.mono_l k
    · intro y0 y1 y2
      unfold gemotref13_digits.l0
      repeat' first
      | (with_reducible exact ih0 _ _ _)
      | (with_reducible exact LeO.refl _)
      | (with_reducible exact LeO.none _)
      | (with_reducible refine LeO.ite ?_ ?_)
      | (with_reducible refine LeO.bind ?_ (fun _ => ?_))
      | exact ih0 _ _ _
      | exact LeO.none _
      | refine LeO.ite ?_ ?_
      | refine LeO.bind ?_ (fun _ => ?_)
theorem gemotref13_digits.mono : ∀ a0 k, LeO (gemotref13_digits.f k a0) (gemotref13_digits.f (k + 1) a0) := by
  intro a0 k
  have ih0 := gemotref13_digits.mono_l k
  unfold gemotref13_digits.f
  repeat' first
      | (with_reducible exact ih0 _ _ _)
      | (with_reducible exact LeO.refl _)
      | (with_reducible exact LeO.none _)
      | (with_reducible refine LeO.ite ?_ ?_)
      | (with_reducible refine LeO.bind ?_ (fun _ => ?_))
      | exact ih0 _ _ _
      | exact LeO.none _
      | refine LeO.ite ?_ ?_
      | refine LeO.bind ?_ (fun _ => ?_)
set_option maxHeartbeats 8000000 in
set_option maxRecDepth 100000 in
theorem gemotref13_digits.calls (k : Nat) (a0 : ByteArray) (r : List Int) (w : World) (h : gemotref13_digits.f k a0 = some r) :
    Calls Tryd.prog 39 #[.string a0] w fun e w' => ∃ v0_ : Value, e = .returned (v0_) ∧ Kd.R (Kd.int .i64) 3 w' w.heap.size (fun _ => True) v0_ r ∧ Below w.heap.size w w' := by
  have HB := Aside0.mk (Below.refl w.heap.size w)
  have H : (gemotref13_digits.l0 k a0 ([] : List Int) 0) = some r := h
  clear h
  have H' := Aside0.mk H
  clear H
  go_enter Tryd.func39, Tryd.ntmps39
  go_wp2
  go_loopg [3, 4] k (fun kq v3 v4 w' => ∃ (x3_1 : List Int) (x4_1 : Int), v4 = .int .i64 x4_1 ∧ Aside0 (gemotref13_digits.l0 kq a0 x3_1 x4_1 = some r) ∧ Aside0 (kq ≤ k) ∧ Aside0 (Kd.R (Kd.int .i64) 3 w' w.heap.size (fun _ => True) v3 x3_1) ∧ Aside0 (Below w.heap.size w w'))
  case atStart => exact ⟨(([] : List Int)), (0), (by first | rfl | (simp; done) | (simp [*]; done)), H', ⟨Nat.le_refl _⟩, ⟨by first | exact Kd.R_nil _ _ _ _ _ | exact Kd.N_nil _ _ _ _ _ | exact Kd.V_nil _ _ _ _ _ | exact Kd.Q_nil _ _ _ _ _ | exact Kd.S_nil _ _ _ _ _⟩, ⟨by repeat (first | (with_reducible first | exact HB.out | apply below_alloc | apply pw_below_drewN | apply below_drew1) | exact HB.out)⟩⟩
  case round =>
    clear H'
    obtain ⟨x3_1, x4_1, rfl, HA, HK1, HO_3, HB⟩ := hrel
    cases gk with
    | zero => exact absurd HA.out (by simp [gemotref13_digits.l0])
    | succ k1 =>
      have H := HA.out
      clear HA
      simp only [gemotref13_digits.l0] at H
      by_cases c2 : x4_1 < (a0.size : Int)
      · rw [if_pos c2] at H
        have c2b0 : decide (x4_1 < (a0.size : Int)) = true := decide_eq_true c2
        clear c2
        by_cases c3 : 0 ≤ x4_1
        · rw [if_pos c3] at H
          have c3b0 : decide (0 ≤ x4_1) = true := decide_eq_true c3
          clear c3
          by_cases c5 : (bt a0 x4_1) ≥ 49
          · rw [if_pos c5] at H
            have c5b0 : decide (49 ≤ (bt a0 x4_1)) = true := decide_eq_true c5
            clear c5
            by_cases c7 : (bt a0 x4_1) ≤ 56
            · rw [if_pos c7] at H
              have c7b0 : decide ((bt a0 x4_1) ≤ 56) = true := decide_eq_true c7
              clear c7
              by_cases c9 : x3_1.length < 17592186044416
              · rw [if_pos c9] at H
                have LMc9 := Aside0.mk c9
                clear c9
                obtain ⟨y1001, hy1001⟩ : ∃ y_ : List Int, y_ = (x3_1 ++ [((bt a0 x4_1) - 48) % 256]) := ⟨_, rfl⟩
                replace H : (gemotref13_digits.l0 k1 a0 y1001 (wrap64 (x4_1 + 1))) = some r := by first | (rw [hy1001]; with_reducible exact H) | (have H2_ := (Option.bind_some _ _).symm.trans H; rw [hy1001]; with_reducible exact H2_) | (have H2_ := (Option.bind_some _ _).symm.trans H; with_reducible exact H2_) | with_reducible exact H | (rw [hy1001]; exact H) | exact H
                have Ny1001 := Aside0.mk hy1001
                clear hy1001
                have H' := Aside0.mk H
                clear H
                have p4 : 0 ≤ (x4_1 : Int) := of_decide_eq_true (by first | (with_reducible assumption) | assumption)
                have q4 : x4_1 < (a0.size : Int) := of_decide_eq_true (by first | (with_reducible assumption) | assumption)
                have hx4 := bt_at a0 x4_1
                replace p4 := eq_true p4
                replace q4 := eq_true q4
                have p6 : 0 ≤ (x4_1 : Int) := of_decide_eq_true (by first | (with_reducible assumption) | assumption)
                have q6 : x4_1 < (a0.size : Int) := of_decide_eq_true (by first | (with_reducible assumption) | assumption)
                have hx6 := bt_at a0 x4_1
                replace p6 := eq_true p6
                replace q6 := eq_true q6
                have p8 : 0 ≤ (x4_1 : Int) := of_decide_eq_true (by first | (with_reducible assumption) | assumption)
                have q8 : x4_1 < (a0.size : Int) := of_decide_eq_true (by first | (with_reducible assumption) | assumption)
                have hx8 := bt_at a0 x4_1
                replace p8 := eq_true p8
                replace q8 := eq_true q8
                go_wp2_with (first | ((with_reducible refine gate_builtin (b := .append) (xs := #[.tmp 21, .tmp 27]) rfl ?_); at_builtin; refine Kd.R_append (Kd.int .i64) (w0 := w) w.heap.size rfl (.tmp 21) (.tmp 27) 34 3 (.int .i64 0) 8 rfl Tryd.underlying34 info3 rfl (by decide) (by omega) u3 x3_1 (((bt a0 x4_1) - 48) % 256) [.int .i64 (((bt a0 x4_1) - 48) % 256)] (fun _ => True) (fun _ => False) rfl rfl ?aP (fun _ hk => hk.elim) ?aF ?aO ?aB ?aS ?aL ?_; (case aP => exact rfl); (case aB => exact (by repeat with_reducible first | exact HB.out | apply below_alloc | apply pw_below_drewN | apply below_drew1)); (case aF => exact (fun _ _ => trivial)); (case aO => exact (by (with_reducible repeat (first | apply Kd.R_alloc | apply Kd.R_drewN | apply Kd.R_drew)); exact HO_3.out)); (case aS => exact (below_size (by repeat with_reducible first | exact HB.out | apply below_alloc | apply pw_below_drewN | apply below_drew1))); (case aL => have := LMc9.out; omega); intro v1002 w10 ho hb hg hat; rw [← Ny1001.out] at ho; have n0_ := Aside0.mk (hb); have n1_ := Aside0.mk (ho); clear HB; clear HO_3; have HB := n0_; have HO1003 := n1_; clear n0_ n1_; clear ho hb hg hat))
                go_roundg k1
                case measure => have := HK1.out; omega
                case rel => exact ⟨(y1001), (wrap64 (x4_1 + 1)), (by first | rfl | (simp; done) | (simp [*]; done)), H', ⟨by have := HK1.out; omega⟩, ⟨by (with_reducible repeat (first | apply Kd.R_alloc | apply Kd.R_drewN | apply Kd.R_drew)); exact HO1003.out⟩, ⟨by repeat (first | (with_reducible first | exact HB.out | apply below_alloc | apply pw_below_drewN | apply below_drew1) | exact HB.out)⟩⟩
              · rw [if_neg c9] at H
                exact absurd H (by simp)
            · rw [if_neg c7] at H
              have c7b0 : decide ((bt a0 x4_1) ≤ 56) = false := decide_eq_false c7
              clear c7
              have H' := Aside0.mk H
              clear H
              have p4 : 0 ≤ (x4_1 : Int) := of_decide_eq_true (by first | (with_reducible assumption) | assumption)
              have q4 : x4_1 < (a0.size : Int) := of_decide_eq_true (by first | (with_reducible assumption) | assumption)
              have hx4 := bt_at a0 x4_1
              replace p4 := eq_true p4
              replace q4 := eq_true q4
              have p6 : 0 ≤ (x4_1 : Int) := of_decide_eq_true (by first | (with_reducible assumption) | assumption)
              have q6 : x4_1 < (a0.size : Int) := of_decide_eq_true (by first | (with_reducible assumption) | assumption)
              have hx6 := bt_at a0 x4_1
              replace p6 := eq_true p6
              replace q6 := eq_true q6
              go_wp2
              go_roundg k1
              case measure => have := HK1.out; omega
              case rel => exact ⟨(x3_1), (wrap64 (x4_1 + 1)), (by first | rfl | (simp; done) | (simp [*]; done)), H', ⟨by have := HK1.out; omega⟩, ⟨by (with_reducible repeat (first | apply Kd.R_alloc | apply Kd.R_drewN | apply Kd.R_drew)); exact HO_3.out⟩, ⟨by repeat (first | (with_reducible first | exact HB.out | apply below_alloc | apply pw_below_drewN | apply below_drew1) | exact HB.out)⟩⟩
          · rw [if_neg c5] at H
            have c5b0 : decide (49 ≤ (bt a0 x4_1)) = false := decide_eq_false c5
            clear c5
            have H' := Aside0.mk H
            clear H
            have p4 : 0 ≤ (x4_1 : Int) := of_decide_eq_true (by first | (with_reducible assumption) | assumption)
            have q4 : x4_1 < (a0.size : Int) := of_decide_eq_true (by first | (with_reducible assumption) | assumption)
            have hx4 := bt_at a0 x4_1
            replace p4 := eq_true p4
            replace q4 := eq_true q4
            go_wp2
            go_roundg k1
            case measure => have := HK1.out; omega
            case rel => exact ⟨(x3_1), (wrap64 (x4_1 + 1)), (by first | rfl | (simp; done) | (simp [*]; done)), H', ⟨by have := HK1.out; omega⟩, ⟨by (with_reducible repeat (first | apply Kd.R_alloc | apply Kd.R_drewN | apply Kd.R_drew)); exact HO_3.out⟩, ⟨by repeat (first | (with_reducible first | exact HB.out | apply below_alloc | apply pw_below_drewN | apply below_drew1) | exact HB.out)⟩⟩
        · rw [if_neg c3] at H
          exact absurd H (by simp)
      · rw [if_neg c2] at H
        have c2b0 : decide (x4_1 < (a0.size : Int)) = false := decide_eq_false c2
        clear c2
        obtain rfl := Option.some.inj H
        go_wp2
        go_ret
        exact ⟨_, by first | rfl | (simp [errW_none, errW_some] <;> rfl) | (simp [*, errW_none, errW_some] <;> rfl), by (with_reducible repeat (first | apply Kd.R_alloc | apply Kd.R_drewN | apply Kd.R_drew)); exact HO_3.out, by repeat (first | (with_reducible first | exact HB.out | apply below_alloc | apply pw_below_drewN | apply below_drew1) | exact HB.out)⟩

end Go.Proofs.YtiofobdmkkbmlaaDoor.F
namespace Go.Proofs.YtiofobdmkkbmlaaDoor.F
open Go.RowKit Go.Proofs.YtiofobdmkkbmlaaDoorW.PrintWords Go.Proofs.YtiofobdmkkbmlaaDoorW.PrintLast Go.Proofs.YtiofobdmkkbmlaaDoorW.PrintMore
attribute [local go_sem] max2_int min2_int max_two min_two max_three min_three max_four min_four
set_option linter.unusedVariables false
set_option linter.unusedSimpArgs false

/-! ### gemotref13_Parts: function 59 -/
def gemotref13_Parts.f (k : Nat) (a0 : ByteArray) : Option (ByteArray × ByteArray) := (gemotref13_End.f k a0 1).bind fun t1001 => (if 1 ≤ t1001 then (if t1001 ≤ (a0.size : Int) then (if 0 ≤ t1001 then (if t1001 ≤ (wrap64 ((a0.size : Int) - 1)) then (if (wrap64 ((a0.size : Int) - 1)) ≤ (a0.size : Int) then (some (a0.extract 1 (t1001 : Int).toNat, a0.extract (t1001 : Int).toNat ((wrap64 ((a0.size : Int) - 1)) : Int).toNat)) else (none)) else (none)) else (none)) else (none)) else (none))
theorem gemotref13_Parts.mono : ∀ a0 k, LeO (gemotref13_Parts.f k a0) (gemotref13_Parts.f (k + 1) a0) := by
  intro a0 k
  unfold gemotref13_Parts.f
  repeat' first
      | (with_reducible exact gemotref13_End.mono _ _ _)
      | (with_reducible exact LeO.refl _)
      | (with_reducible exact LeO.none _)
      | (with_reducible refine LeO.ite ?_ ?_)
      | (with_reducible refine LeO.bind ?_ (fun _ => ?_))
      | exact gemotref13_End.mono _ _ _
      | exact LeO.none _
      | refine LeO.ite ?_ ?_
      | refine LeO.bind ?_ (fun _ => ?_)
set_option maxHeartbeats 8000000 in
set_option maxRecDepth 100000 in
theorem gemotref13_Parts.calls (k : Nat) (a0 : ByteArray) (r1 : ByteArray) (r2 : ByteArray) (w : World) (h : gemotref13_Parts.f k a0 = some (r1, r2)) :
    Calls Tryd.prog 59 #[.string a0] w fun e w' => e = .returned (.tuple #[.string r1, .string r2]) ∧ Drawn0 w w' := by
  have H : ((gemotref13_End.f k a0 1).bind fun t1001 => (if 1 ≤ t1001 then (if t1001 ≤ (a0.size : Int) then (if 0 ≤ t1001 then (if t1001 ≤ (wrap64 ((a0.size : Int) - 1)) then (if (wrap64 ((a0.size : Int) - 1)) ≤ (a0.size : Int) then (some (a0.extract 1 (t1001 : Int).toNat, a0.extract (t1001 : Int).toNat ((wrap64 ((a0.size : Int) - 1)) : Int).toNat)) else (none)) else (none)) else (none)) else (none)) else (none))) = some (r1, r2) := h
  clear h
  replace H := Option.bind_eq_some_iff.mp H
  obtain ⟨t1001, A20, H⟩ := H
  replace H : (if 1 ≤ t1001 then (if t1001 ≤ (a0.size : Int) then (if 0 ≤ t1001 then (if t1001 ≤ (wrap64 ((a0.size : Int) - 1)) then (if (wrap64 ((a0.size : Int) - 1)) ≤ (a0.size : Int) then (some (a0.extract 1 (t1001 : Int).toNat, a0.extract (t1001 : Int).toNat ((wrap64 ((a0.size : Int) - 1)) : Int).toNat)) else (none)) else (none)) else (none)) else (none)) else (none)) = some (r1, r2) := H
  have A2 := Aside0.mk A20
  clear A20
  by_cases c3 : 1 ≤ t1001
  · rw [if_pos c3] at H
    have c3b0 := eq_true c3
    have c3b1 : decide (1 ≤ t1001) = true := decide_eq_true c3
    clear c3
    by_cases c4 : t1001 ≤ (a0.size : Int)
    · rw [if_pos c4] at H
      have c4b0 := eq_true c4
      have c4b1 : decide (t1001 ≤ (a0.size : Int)) = true := decide_eq_true c4
      clear c4
      by_cases c5 : 0 ≤ t1001
      · rw [if_pos c5] at H
        have c5b0 := eq_true c5
        have c5b1 : decide (0 ≤ t1001) = true := decide_eq_true c5
        clear c5
        by_cases c6 : t1001 ≤ (wrap64 ((a0.size : Int) - 1))
        · rw [if_pos c6] at H
          have c6b0 := eq_true c6
          have c6b1 : decide (t1001 ≤ (wrap64 ((a0.size : Int) - 1))) = true := decide_eq_true c6
          clear c6
          by_cases c7 : (wrap64 ((a0.size : Int) - 1)) ≤ (a0.size : Int)
          · rw [if_pos c7] at H
            have c7b0 := eq_true c7
            have c7b1 : decide ((wrap64 ((a0.size : Int) - 1)) ≤ (a0.size : Int)) = true := decide_eq_true c7
            clear c7
            simp only [Option.some.injEq, Prod.mk.injEq] at H
            obtain ⟨rfl, rfl⟩ := H
            go_enter Tryd.func59, Tryd.ntmps59
            go_wp2_with (first | (go_at_call 46; (with_reducible refine (gemotref13_End.calls k a0 1 t1001 _ A2.out).mono ?_); rintro e w' ⟨rfl, ⟨nd, rfl⟩⟩; (try first | exact ⟨rfl, _, World.drewN_drewN _ _ _⟩ | exact ⟨rfl, _, Eq.trans (World.drewN_drewN _ _ _) (congrArg (World.drewN _) (Nat.add_assoc _ _ _))⟩)))
            repeat (go_quiet (first | (go_at_call 46; (with_reducible refine (gemotref13_End.calls k a0 1 t1001 _ A2.out).mono ?_); rintro e w' ⟨rfl, ⟨nd, rfl⟩⟩; (try first | exact ⟨rfl, _, World.drewN_drewN _ _ _⟩ | exact ⟨rfl, _, Eq.trans (World.drewN_drewN _ _ _) (congrArg (World.drewN _) (Nat.add_assoc _ _ _))⟩))); try go_wp2_with (first | (go_at_call 46; (with_reducible refine (gemotref13_End.calls k a0 1 t1001 _ A2.out).mono ?_); rintro e w' ⟨rfl, ⟨nd, rfl⟩⟩; (try first | exact ⟨rfl, _, World.drewN_drewN _ _ _⟩ | exact ⟨rfl, _, Eq.trans (World.drewN_drewN _ _ _) (congrArg (World.drewN _) (Nat.add_assoc _ _ _))⟩))))
            go_ret2
            exact ⟨by first | rfl | (simp; done) | (simp [*]; done), by repeat (first | exact Drawn0.refl _ | apply Drawn0.step)⟩
          · rw [if_neg c7] at H
            exact absurd H (by simp)
        · rw [if_neg c6] at H
          exact absurd H (by simp)
      · rw [if_neg c5] at H
        exact absurd H (by simp)
    · rw [if_neg c4] at H
      exact absurd H (by simp)
  · rw [if_neg c3] at H
    exact absurd H (by simp)

end Go.Proofs.YtiofobdmkkbmlaaDoor.F
namespace Go.Proofs.YtiofobdmkkbmlaaDoor.F
open Go.RowKit Go.Proofs.YtiofobdmkkbmlaaDoorW.PrintWords Go.Proofs.YtiofobdmkkbmlaaDoorW.PrintLast Go.Proofs.YtiofobdmkkbmlaaDoorW.PrintMore
attribute [local go_sem] max2_int min2_int max_two min_two max_three min_three max_four min_four
set_option linter.unusedVariables false
set_option linter.unusedSimpArgs false

/-! ### gemotref13_deep: function 47 -/
def gemotref13_deep.f : Nat → ByteArray → Option (Int)
  | 0, _ => none
  | k + 1, a0 => if (a0.size : Int) = 1 then (some 0) else ((gemotref13_Parts.f k a0).bind fun bt1001 => ((gemotref13_deep.f k bt1001.1).bind fun t1003 => ((gemotref13_deep.f k bt1001.2).bind fun t1004 => (some (wrap64 (1 + (mx t1003 t1004)))))))
theorem gemotref13_deep.mono_l : ∀ k, (∀ y0, LeO (gemotref13_deep.f k y0) (gemotref13_deep.f (k + 1) y0))
  | 0 => fun _ r h => by simp [gemotref13_deep.f] at h
  | k + 1 => by
    have ih0 := gemotref13_deep.mono_l k
    · intro y0
      unfold gemotref13_deep.f
      repeat' first
      | (with_reducible exact ih0 _)
      | (with_reducible exact gemotref13_Parts.mono _ _)
      | (with_reducible exact LeO.refl _)
      | (with_reducible exact LeO.none _)
      | (with_reducible refine LeO.ite ?_ ?_)
      | (with_reducible refine LeO.bind ?_ (fun _ => ?_))
      | exact ih0 _
      | exact gemotref13_Parts.mono _ _
      | exact LeO.none _
      | refine LeO.ite ?_ ?_
      | refine LeO.bind ?_ (fun _ => ?_)
theorem gemotref13_deep.mono : ∀ a0 k, LeO (gemotref13_deep.f k a0) (gemotref13_deep.f (k + 1) a0) := by
  intro a0 k
  have ih0 := gemotref13_deep.mono_l k
  exact ih0 a0
set_option maxHeartbeats 8000000 in
set_option maxRecDepth 100000 in
theorem gemotref13_deep.calls (k : Nat) : ∀ (a0 : ByteArray) (r : Int) (w : World) (h : gemotref13_deep.f k a0 = some r),
    Calls Tryd.prog 47 #[.string a0] w fun e w' => e = .returned (.int .i64 r) ∧ Below w.heap.size w w' := by
  induction k using Nat.strongRecOn with
  | _ k ih =>
  intro a0 r w h
  cases k with
  | zero => exact absurd h (by simp [gemotref13_deep.f])
  | succ k =>
  simp only [gemotref13_deep.f] at h
  have HB := Aside0.mk (Below.refl w.heap.size w)
  have H : (if (a0.size : Int) = 1 then (some 0) else ((gemotref13_Parts.f k a0).bind fun bt1001 => ((gemotref13_deep.f k bt1001.1).bind fun t1003 => ((gemotref13_deep.f k bt1001.2).bind fun t1004 => (some (wrap64 (1 + (mx t1003 t1004)))))))) = some r := h
  clear h
  by_cases c2 : (a0.size : Int) = 1
  · rw [if_pos c2] at H
    have c2b0 : ((a0.size : Int) == 1) = true := beq_iff_eq.mpr c2
    have c2b1 : ((a0.size : Int) != 1) = false := bne_eq_false_iff_eq.mpr c2
    clear c2
    obtain rfl := Option.some.inj H
    go_enter Tryd.func47, Tryd.ntmps47
    go_wp2
    go_ret
    exact ⟨by first | rfl | (simp [errW_none, errW_some] <;> rfl) | (simp [*, errW_none, errW_some] <;> rfl), by repeat (first | (with_reducible first | exact HB.out | apply below_alloc | apply pw_below_drewN | apply below_drew1) | exact HB.out)⟩
  · rw [if_neg c2] at H
    have c2b0 : ((a0.size : Int) == 1) = false := beq_eq_false_iff_ne.mpr c2
    have c2b1 : ((a0.size : Int) != 1) = true := bne_iff_ne.mpr c2
    replace H := Option.bind_eq_some_iff.mp H
    obtain ⟨⟨t1001, t1002⟩, A30, H⟩ := H
    replace H : ((gemotref13_deep.f k t1001).bind fun t1003 => ((gemotref13_deep.f k t1002).bind fun t1004 => (some (wrap64 (1 + (mx t1003 t1004)))))) = some r := H
    have A3 := Aside0.mk A30
    clear A30
    replace H := Option.bind_eq_some_iff.mp H
    obtain ⟨t1003, A40, H⟩ := H
    replace H : ((gemotref13_deep.f k t1002).bind fun t1004 => (some (wrap64 (1 + (mx t1003 t1004))))) = some r := H
    have A4 := Aside0.mk A40
    clear A40
    replace H := Option.bind_eq_some_iff.mp H
    obtain ⟨t1004, A50, H⟩ := H
    replace H : (some (wrap64 (1 + (mx t1003 t1004)))) = some r := H
    have A5 := Aside0.mk A50
    clear A50
    obtain ⟨ji6, hji6⟩ : ∃ j_ : Int, (mx t1003 t1004) = j_ := ⟨_, rfl⟩
    replace H : (some (wrap64 (1 + (ji6)))) = some r := by first | (rw [hji6] at H; exact H) | (simp only [hji6] at H ⊢; exact H)
    (try rw [hji6] at A3)
    (try rw [hji6] at A4)
    (try rw [hji6] at A5)
    have hji6_ : (if t1003 < t1004 then t1004 else t1003) = ji6 := hji6
    obtain rfl := Option.some.inj H
    go_enter Tryd.func47, Tryd.ntmps47
    go_wp2_with (first | ((with_reducible refine gate_callee (f := 59) rfl ?_); refine goesL_ (some 10) rfl rfl Tryd.func59 (by kernel_rfl) rfl #[.string a0] rfl (by simp only [List.map_toArray, List.map_cons, List.map_nil] <;> rfl) ?_; (with_reducible refine (gemotref13_Parts.calls k a0 t1001 t1002 _ A3.out).mono ?_); rintro e w' ⟨rfl, ⟨nd, rfl⟩⟩; refine ⟨_, rfl, ?_⟩) | ((with_reducible refine gate_callee (f := 47) rfl ?_); refine goesL_ (some 14) rfl rfl Tryd.func47 (by kernel_rfl) rfl #[.string t1001] rfl (by simp only [List.map_toArray, List.map_cons, List.map_nil] <;> rfl) ?_; (with_reducible refine (ih k (by omega) t1001 t1003 _ A4.out).mono ?_); rintro e w7 ⟨rfl, hb⟩; refine ⟨_, rfl, ?_⟩; have n0_ := Aside0.mk (below_step (by repeat with_reducible first | exact HB.out | apply below_alloc | apply pw_below_drewN | apply below_drew1) hb); clear HB; have HB := n0_; clear n0_; (try clear hb)) | ((with_reducible refine gate_callee (f := 47) rfl ?_); refine goesL_ (some 16) rfl rfl Tryd.func47 (by kernel_rfl) rfl #[.string t1002] rfl (by simp only [List.map_toArray, List.map_cons, List.map_nil] <;> rfl) ?_; (with_reducible refine (ih k (by omega) t1002 t1004 _ A5.out).mono ?_); rintro e w8 ⟨rfl, hb⟩; refine ⟨_, rfl, ?_⟩; have n0_ := Aside0.mk (below_step (by repeat with_reducible first | exact HB.out | apply below_alloc | apply pw_below_drewN | apply below_drew1) hb); clear HB; have HB := n0_; clear n0_; (try clear hb)))
    go_ret
    exact ⟨by first | rfl | (simp [errW_none, errW_some] <;> rfl) | (simp only [← hji6]; first | rfl | (simp [errW_none, errW_some] <;> rfl)) | (simp [*, errW_none, errW_some] <;> rfl), by repeat (first | (with_reducible first | exact HB.out | apply below_alloc | apply pw_below_drewN | apply below_drew1) | exact HB.out)⟩

end Go.Proofs.YtiofobdmkkbmlaaDoor.F
namespace Go.Proofs.YtiofobdmkkbmlaaDoor.F
open Go.RowKit Go.Proofs.YtiofobdmkkbmlaaDoorW.PrintWords Go.Proofs.YtiofobdmkkbmlaaDoorW.PrintLast Go.Proofs.YtiofobdmkkbmlaaDoorW.PrintMore
attribute [local go_sem] max2_int min2_int max_two min_two max_three min_three max_four min_four
set_option linter.unusedVariables false
set_option linter.unusedSimpArgs false

/-! ### gemotref13_full: function 58 -/
def gemotref13_full.f (k : Nat) (a0 : ByteArray) : Option (Bool) := (gemotref13_digits.f k a0).bind fun t1001 => ((gemotref13_deep.f k a0).bind fun t1004 => (if 0 ≤ t1004 then (some ((t1001.length : Int) == (shl .i64 1 t1004))) else (none)))
theorem gemotref13_full.mono : ∀ a0 k, LeO (gemotref13_full.f k a0) (gemotref13_full.f (k + 1) a0) := by
  intro a0 k
  unfold gemotref13_full.f
  repeat' first
      | (with_reducible exact gemotref13_deep.mono _ _)
      | (with_reducible exact gemotref13_digits.mono _ _)
      | (with_reducible exact LeO.refl _)
      | (with_reducible exact LeO.none _)
      | (with_reducible refine LeO.ite ?_ ?_)
      | (with_reducible refine LeO.bind ?_ (fun _ => ?_))
      | exact gemotref13_deep.mono _ _
      | exact gemotref13_digits.mono _ _
      | exact LeO.none _
      | refine LeO.ite ?_ ?_
      | refine LeO.bind ?_ (fun _ => ?_)
set_option maxHeartbeats 8000000 in
set_option maxRecDepth 100000 in
theorem gemotref13_full.calls (k : Nat) (a0 : ByteArray) (r : Bool) (w : World) (h : gemotref13_full.f k a0 = some r) :
    Calls Tryd.prog 58 #[.string a0] w fun e w' => e = .returned (.bool r) ∧ Below w.heap.size w w' := by
  have HB := Aside0.mk (Below.refl w.heap.size w)
  have H : ((gemotref13_digits.f k a0).bind fun t1001 => ((gemotref13_deep.f k a0).bind fun t1004 => (if 0 ≤ t1004 then (some ((t1001.length : Int) == (shl .i64 1 t1004))) else (none)))) = some r := h
  clear h
  replace H := Option.bind_eq_some_iff.mp H
  obtain ⟨t1001, A20, H⟩ := H
  replace H : ((gemotref13_deep.f k a0).bind fun t1004 => (if 0 ≤ t1004 then (some ((t1001.length : Int) == (shl .i64 1 t1004))) else (none))) = some r := H
  have A2 := Aside0.mk A20
  clear A20
  replace H := Option.bind_eq_some_iff.mp H
  obtain ⟨t1004, A30, H⟩ := H
  replace H : (if 0 ≤ t1004 then (some ((t1001.length : Int) == (shl .i64 1 t1004))) else (none)) = some r := H
  have A3 := Aside0.mk A30
  clear A30
  by_cases c4 : 0 ≤ t1004
  · rw [if_pos c4] at H
    have c4b0 := eq_true c4
    have c4b1 : decide (0 ≤ t1004) = true := decide_eq_true c4
    clear c4
    obtain ⟨ji5, hji5⟩ : ∃ j_ : Int, (shl .i64 1 t1004) = j_ := ⟨_, rfl⟩
    replace H : (some ((t1001.length : Int) == (ji5))) = some r := by first | (rw [hji5] at H; exact H) | (simp only [hji5] at H ⊢; exact H)
    (try rw [hji5] at A2)
    (try rw [hji5] at A3)
    have hji5_ : (IntKind.i64.wrap (1 * 2 ^ min t1004.toNat 64)) = ji5 := hji5
    have hji5z : t1004 ≤ 64 → (IntKind.i64.wrap (1 * 2 ^ t1004.toNat)) = ji5 := shl_small hji5
    have hji5u : (IntKind.i64.wrap (2 ^ min t1004.toNat 64)) = ji5 := by have h_ := hji5_; rw [Int.one_mul] at h_; exact h_
    have hji5v : t1004 ≤ 64 → (IntKind.i64.wrap (2 ^ t1004.toNat)) = ji5 := fun hle_ => by have h_ := hji5z hle_; rw [Int.one_mul] at h_; exact h_
    have hji5y : (wrap64 (1 * 2 ^ min t1004.toNat 64)) = ji5 := (i64_w _).symm.trans hji5_
    have hji5x : t1004 ≤ 64 → (wrap64 (1 * 2 ^ t1004.toNat)) = ji5 := fun h_ => (i64_w _).symm.trans (hji5z h_)
    obtain rfl := Option.some.inj H
    go_enter Tryd.func58, Tryd.ntmps58
    go_wp2_with (first | ((with_reducible refine gate_callee (f := 39) rfl ?_); refine goesL_ (some 4) rfl rfl Tryd.func39 (by kernel_rfl) rfl #[.string a0] rfl (by simp only [List.map_toArray, List.map_cons, List.map_nil] <;> rfl) ?_; (with_reducible refine (gemotref13_digits.calls k a0 t1001 _ A2.out).mono ?_); rintro e w6 ⟨v1002, rfl, ho0, hb⟩; refine ⟨_, rfl, ?_⟩; have n0_ := Aside0.mk (Kd.R_lower ho0 (below_size (by repeat with_reducible first | exact HB.out | apply below_alloc | apply pw_below_drewN | apply below_drew1))); have n1_ := Aside0.mk (below_step (by repeat with_reducible first | exact HB.out | apply below_alloc | apply pw_below_drewN | apply below_drew1) hb); clear HB; have HO1003 := n0_; have HB := n1_; clear n0_ n1_; (try clear hb); (try clear ho0); obtain ⟨Ao7, co7, eo7⟩ := Kd.R_slice HO1003.out; subst eo7) | ((with_reducible refine gate_callee (f := 47) rfl ?_); refine goesL_ (some 7) rfl rfl Tryd.func47 (by kernel_rfl) rfl #[.string a0] rfl (by simp only [List.map_toArray, List.map_cons, List.map_nil] <;> rfl) ?_; (with_reducible refine (gemotref13_deep.calls k a0 t1004 _ A3.out).mono ?_); rintro e w8 ⟨rfl, hb⟩; refine ⟨_, rfl, ?_⟩; have n0_ := Aside0.mk (Kd.R_below (by (with_reducible repeat (first | apply Kd.R_alloc | apply Kd.R_drewN | apply Kd.R_drew)); exact HO1003.out) hb); have n1_ := Aside0.mk (below_step (by repeat with_reducible first | exact HB.out | apply below_alloc | apply pw_below_drewN | apply below_drew1) hb); clear HO1003; clear HB; have HO1003 := n0_; have HB := n1_; clear n0_ n1_; (try clear hb)))
    go_ret
    exact ⟨by first | rfl | (simp [errW_none, errW_some] <;> rfl) | (simp only [← hji5]; first | rfl | (simp [errW_none, errW_some] <;> rfl)) | (simp [*, errW_none, errW_some] <;> rfl), by repeat (first | (with_reducible first | exact HB.out | apply below_alloc | apply pw_below_drewN | apply below_drew1) | exact HB.out)⟩
  · rw [if_neg c4] at H
    exact absurd H (by simp)

end Go.Proofs.YtiofobdmkkbmlaaDoor.F
namespace Go.Proofs.YtiofobdmkkbmlaaDoor.F
open Go.RowKit Go.Proofs.YtiofobdmkkbmlaaDoorW.PrintWords Go.Proofs.YtiofobdmkkbmlaaDoorW.PrintLast Go.Proofs.YtiofobdmkkbmlaaDoorW.PrintMore
attribute [local go_sem] max2_int min2_int max_two min_two max_three min_three max_four min_four
set_option linter.unusedVariables false
set_option linter.unusedSimpArgs false

/-! ### gemotref13_place: function 41 -/
def gemotref13_place.f : Nat → ByteArray → Option (Int)
  | 0, _ => none
  | k + 1, a0 => (gemotref13_full.f k a0).bind fun t1001 => (if t1001 = true then ((gemotref13_deep.f k a0).bind fun t1002 => (some t1002)) else ((gemotref13_Parts.f k a0).bind fun bt1003 => ((gemotref13_place.f k bt1003.1).bind fun t1005 => ((gemotref13_place.f k bt1003.2).bind fun t1006 => (some (mn t1005 t1006))))))
theorem gemotref13_place.mono_l : ∀ k, (∀ y0, LeO (gemotref13_place.f k y0) (gemotref13_place.f (k + 1) y0))
  | 0 => fun _ r h => by simp [gemotref13_place.f] at h
  | k + 1 => by
    have ih0 := gemotref13_place.mono_l k
    · intro y0
      unfold gemotref13_place.f
      repeat' first
      | (with_reducible exact ih0 _)
      | (with_reducible exact gemotref13_Parts.mono _ _)
      | (with_reducible exact gemotref13_deep.mono _ _)
      | (with_reducible exact gemotref13_full.mono _ _)
      | (with_reducible exact LeO.refl _)
      | (with_reducible exact LeO.none _)
      | (with_reducible refine LeO.ite ?_ ?_)
      | (with_reducible refine LeO.bind ?_ (fun _ => ?_))
      | exact ih0 _
      | exact gemotref13_Parts.mono _ _
      | exact gemotref13_deep.mono _ _
      | exact gemotref13_full.mono _ _
      | exact LeO.none _
      | refine LeO.ite ?_ ?_
      | refine LeO.bind ?_ (fun _ => ?_)
theorem gemotref13_place.mono : ∀ a0 k, LeO (gemotref13_place.f k a0) (gemotref13_place.f (k + 1) a0) := by
  intro a0 k
  have ih0 := gemotref13_place.mono_l k
  exact ih0 a0
set_option maxHeartbeats 8000000 in
set_option maxRecDepth 100000 in
theorem gemotref13_place.calls (k : Nat) : ∀ (a0 : ByteArray) (r : Int) (w : World) (h : gemotref13_place.f k a0 = some r),
    Calls Tryd.prog 41 #[.string a0] w fun e w' => e = .returned (.int .i64 r) ∧ Below w.heap.size w w' := by
  induction k using Nat.strongRecOn with
  | _ k ih =>
  intro a0 r w h
  cases k with
  | zero => exact absurd h (by simp [gemotref13_place.f])
  | succ k =>
  simp only [gemotref13_place.f] at h
  have HB := Aside0.mk (Below.refl w.heap.size w)
  have H : ((gemotref13_full.f k a0).bind fun t1001 => (if t1001 = true then ((gemotref13_deep.f k a0).bind fun t1002 => (some t1002)) else ((gemotref13_Parts.f k a0).bind fun bt1003 => ((gemotref13_place.f k bt1003.1).bind fun t1005 => ((gemotref13_place.f k bt1003.2).bind fun t1006 => (some (mn t1005 t1006))))))) = some r := h
  clear h
  replace H := Option.bind_eq_some_iff.mp H
  obtain ⟨t1001, A20, H⟩ := H
  replace H : (if t1001 = true then ((gemotref13_deep.f k a0).bind fun t1002 => (some t1002)) else ((gemotref13_Parts.f k a0).bind fun bt1003 => ((gemotref13_place.f k bt1003.1).bind fun t1005 => ((gemotref13_place.f k bt1003.2).bind fun t1006 => (some (mn t1005 t1006)))))) = some r := H
  have A2 := Aside0.mk A20
  clear A20
  by_cases c3 : t1001 = true
  · subst c3
    have H1 : ((gemotref13_deep.f k a0).bind fun t1002 => (some t1002)) = some r := by rw [if_pos rfl] at H; exact H
    clear H
    have H := H1
    clear H1
    replace H := Option.bind_eq_some_iff.mp H
    obtain ⟨t1002, A40, H⟩ := H
    replace H : (some t1002) = some r := H
    have A4 := Aside0.mk A40
    clear A40
    obtain rfl := Option.some.inj H
    go_enter Tryd.func41, Tryd.ntmps41
    go_wp2_with (first | ((with_reducible refine gate_callee (f := 58) rfl ?_); refine goesL_ (some 6) rfl rfl Tryd.func58 (by kernel_rfl) rfl #[.string a0] rfl (by simp only [List.map_toArray, List.map_cons, List.map_nil] <;> rfl) ?_; (with_reducible refine (gemotref13_full.calls k a0 true _ A2.out).mono ?_); rintro e w5 ⟨rfl, hb⟩; refine ⟨_, rfl, ?_⟩; have n0_ := Aside0.mk (below_step (by repeat with_reducible first | exact HB.out | apply below_alloc | apply pw_below_drewN | apply below_drew1) hb); clear HB; have HB := n0_; clear n0_; (try clear hb)) | ((with_reducible refine gate_callee (f := 47) rfl ?_); refine goesL_ (some 8) rfl rfl Tryd.func47 (by kernel_rfl) rfl #[.string a0] rfl (by simp only [List.map_toArray, List.map_cons, List.map_nil] <;> rfl) ?_; (with_reducible refine (gemotref13_deep.calls k a0 t1002 _ A4.out).mono ?_); rintro e w6 ⟨rfl, hb⟩; refine ⟨_, rfl, ?_⟩; have n0_ := Aside0.mk (below_step (by repeat with_reducible first | exact HB.out | apply below_alloc | apply pw_below_drewN | apply below_drew1) hb); clear HB; have HB := n0_; clear n0_; (try clear hb)))
    go_ret
    exact ⟨by first | rfl | (simp [errW_none, errW_some] <;> rfl) | (simp [*, errW_none, errW_some] <;> rfl), by repeat (first | (with_reducible first | exact HB.out | apply below_alloc | apply pw_below_drewN | apply below_drew1) | exact HB.out)⟩
  · replace c3 := Bool.eq_false_iff.mpr c3
    subst c3
    have H1 : ((gemotref13_Parts.f k a0).bind fun bt1003 => ((gemotref13_place.f k bt1003.1).bind fun t1005 => ((gemotref13_place.f k bt1003.2).bind fun t1006 => (some (mn t1005 t1006))))) = some r := by rw [if_neg (show ¬ (false = true) by decide)] at H; exact H
    clear H
    have H := H1
    clear H1
    replace H := Option.bind_eq_some_iff.mp H
    obtain ⟨⟨t1003, t1004⟩, A70, H⟩ := H
    replace H : ((gemotref13_place.f k t1003).bind fun t1005 => ((gemotref13_place.f k t1004).bind fun t1006 => (some (mn t1005 t1006)))) = some r := H
    have A7 := Aside0.mk A70
    clear A70
    replace H := Option.bind_eq_some_iff.mp H
    obtain ⟨t1005, A80, H⟩ := H
    replace H : ((gemotref13_place.f k t1004).bind fun t1006 => (some (mn t1005 t1006))) = some r := H
    have A8 := Aside0.mk A80
    clear A80
    replace H := Option.bind_eq_some_iff.mp H
    obtain ⟨t1006, A90, H⟩ := H
    replace H : (some (mn t1005 t1006)) = some r := H
    have A9 := Aside0.mk A90
    clear A90
    obtain ⟨ji10, hji10⟩ : ∃ j_ : Int, (mn t1005 t1006) = j_ := ⟨_, rfl⟩
    replace H : (some ji10) = some r := by first | (rw [hji10] at H; exact H) | (simp only [hji10] at H ⊢; exact H)
    (try rw [hji10] at A2)
    (try rw [hji10] at A7)
    (try rw [hji10] at A8)
    (try rw [hji10] at A9)
    have hji10_ : (if t1006 < t1005 then t1006 else t1005) = ji10 := hji10
    obtain rfl := Option.some.inj H
    go_enter Tryd.func41, Tryd.ntmps41
    go_wp2_with (first | ((with_reducible refine gate_callee (f := 58) rfl ?_); refine goesL_ (some 6) rfl rfl Tryd.func58 (by kernel_rfl) rfl #[.string a0] rfl (by simp only [List.map_toArray, List.map_cons, List.map_nil] <;> rfl) ?_; (with_reducible refine (gemotref13_full.calls k a0 false _ A2.out).mono ?_); rintro e w11 ⟨rfl, hb⟩; refine ⟨_, rfl, ?_⟩; have n0_ := Aside0.mk (below_step (by repeat with_reducible first | exact HB.out | apply below_alloc | apply pw_below_drewN | apply below_drew1) hb); clear HB; have HB := n0_; clear n0_; (try clear hb)) | ((with_reducible refine gate_callee (f := 59) rfl ?_); refine goesL_ (some 11) rfl rfl Tryd.func59 (by kernel_rfl) rfl #[.string a0] rfl (by simp only [List.map_toArray, List.map_cons, List.map_nil] <;> rfl) ?_; (with_reducible refine (gemotref13_Parts.calls k a0 t1003 t1004 _ A7.out).mono ?_); rintro e w' ⟨rfl, ⟨nd, rfl⟩⟩; refine ⟨_, rfl, ?_⟩) | ((with_reducible refine gate_callee (f := 41) rfl ?_); refine goesL_ (some 15) rfl rfl Tryd.func41 (by kernel_rfl) rfl #[.string t1003] rfl (by simp only [List.map_toArray, List.map_cons, List.map_nil] <;> rfl) ?_; (with_reducible refine (ih k (by omega) t1003 t1005 _ A8.out).mono ?_); rintro e w12 ⟨rfl, hb⟩; refine ⟨_, rfl, ?_⟩; have n0_ := Aside0.mk (below_step (by repeat with_reducible first | exact HB.out | apply below_alloc | apply pw_below_drewN | apply below_drew1) hb); clear HB; have HB := n0_; clear n0_; (try clear hb)) | ((with_reducible refine gate_callee (f := 41) rfl ?_); refine goesL_ (some 17) rfl rfl Tryd.func41 (by kernel_rfl) rfl #[.string t1004] rfl (by simp only [List.map_toArray, List.map_cons, List.map_nil] <;> rfl) ?_; (with_reducible refine (ih k (by omega) t1004 t1006 _ A9.out).mono ?_); rintro e w13 ⟨rfl, hb⟩; refine ⟨_, rfl, ?_⟩; have n0_ := Aside0.mk (below_step (by repeat with_reducible first | exact HB.out | apply below_alloc | apply pw_below_drewN | apply below_drew1) hb); clear HB; have HB := n0_; clear n0_; (try clear hb)))
    go_ret
    exact ⟨by first | rfl | (simp [errW_none, errW_some] <;> rfl) | (simp only [← hji10]; first | rfl | (simp [errW_none, errW_some] <;> rfl)) | (simp [*, errW_none, errW_some] <;> rfl), by repeat (first | (with_reducible first | exact HB.out | apply below_alloc | apply pw_below_drewN | apply below_drew1) | exact HB.out)⟩

end Go.Proofs.YtiofobdmkkbmlaaDoor.F
namespace Go.Proofs.YtiofobdmkkbmlaaDoor.F
open Go.RowKit Go.Proofs.YtiofobdmkkbmlaaDoorW.PrintWords Go.Proofs.YtiofobdmkkbmlaaDoorW.PrintLast Go.Proofs.YtiofobdmkkbmlaaDoorW.PrintMore
attribute [local go_sem] max2_int min2_int max_two min_two max_three min_three max_four min_four
set_option linter.unusedVariables false
set_option linter.unusedSimpArgs false

/-! ### gemotref13_put: function 40 -/
def gemotref13_put.f : Nat → ByteArray → Int → Int → Option (ByteArray)
  | 0, _, _, _ => none
  | k + 1, a0, a1, a2 => (gemotref13_full.f k a0).bind fun t1001 => (if t1001 = true then (if 1 + a0.size ≤ 9223372036854775807 then ((gemotref13_leaf.f a2).bind fun t1002 => (if ((⟨#[40]⟩ : ByteArray) ++ a0).size + t1002.size ≤ 9223372036854775807 then (if (((⟨#[40]⟩ : ByteArray) ++ a0) ++ t1002).size + 1 ≤ 9223372036854775807 then (some ((((⟨#[40]⟩ : ByteArray) ++ a0) ++ t1002) ++ (⟨#[41]⟩ : ByteArray))) else (none)) else (none))) else (none)) else ((gemotref13_Parts.f k a0).bind fun bt1003 => ((gemotref13_place.f k bt1003.2).bind fun t1005 => (if t1005 = a1 then (if 1 + bt1003.1.size ≤ 9223372036854775807 then ((gemotref13_put.f k bt1003.2 a1 a2).bind fun t1006 => (if ((⟨#[40]⟩ : ByteArray) ++ bt1003.1).size + t1006.size ≤ 9223372036854775807 then (if (((⟨#[40]⟩ : ByteArray) ++ bt1003.1) ++ t1006).size + 1 ≤ 9223372036854775807 then (some ((((⟨#[40]⟩ : ByteArray) ++ bt1003.1) ++ t1006) ++ (⟨#[41]⟩ : ByteArray))) else (none)) else (none))) else (none)) else ((gemotref13_put.f k bt1003.1 a1 a2).bind fun t1007 => (if 1 + t1007.size ≤ 9223372036854775807 then (if ((⟨#[40]⟩ : ByteArray) ++ t1007).size + bt1003.2.size ≤ 9223372036854775807 then (if (((⟨#[40]⟩ : ByteArray) ++ t1007) ++ bt1003.2).size + 1 ≤ 9223372036854775807 then (some ((((⟨#[40]⟩ : ByteArray) ++ t1007) ++ bt1003.2) ++ (⟨#[41]⟩ : ByteArray))) else (none)) else (none)) else (none)))))))
theorem gemotref13_put.mono_l : ∀ k, (∀ y0 y1 y2, LeO (gemotref13_put.f k y0 y1 y2) (gemotref13_put.f (k + 1) y0 y1 y2))
  | 0 => fun _ _ _ r h => by simp [gemotref13_put.f] at h
  | k + 1 => by
    have ih0 := gemotref13_put.mono_l k
    · intro y0 y1 y2; unfold gemotref13_put.f
      repeat' first
      | (with_reducible exact ih0 _ _ _)
      | (with_reducible exact gemotref13_Parts.mono _ _)
      | (with_reducible exact gemotref13_full.mono _ _)
      | (with_reducible exact gemotref13_place.mono _ _)
      | (with_reducible exact LeO.refl _)
      | (with_reducible exact LeO.none _)
      | (with_reducible refine LeO.ite ?_ ?_)
      | (with_reducible refine LeO.bind ?_ (fun _ => ?_))
      | exact ih0 _ _ _
      | exact gemotref13_Parts.mono _ _
      | exact gemotref13_full.mono _ _
      | exact gemotref13_place.mono _ _
      | exact LeO.none _
      | refine LeO.ite ?_ ?_
      | refine LeO.bind ?_ (fun _ => ?_)
theorem gemotref13_put.mono : ∀ a0 a1 a2 k, LeO (gemotref13_put.f k a0 a1 a2) (gemotref13_put.f (k + 1) a0 a1 a2) := by
  intro a0 a1 a2 k; have ih0 := gemotref13_put.mono_l k
  exact ih0 a0 a1 a2
set_option maxHeartbeats 8000000 in
set_option maxRecDepth 100000 in
theorem gemotref13_put.calls (k : Nat) : ∀ (a0 : ByteArray) (a1 : Int) (a2 : Int) (r : ByteArray) (w : World) (h : gemotref13_put.f k a0 a1 a2 = some r),
    Calls Tryd.prog 40 #[.string a0, .int .i64 a1, .int .i64 a2] w fun e w' => e = .returned (.string r) ∧ Below w.heap.size w w' := by
  induction k using Nat.strongRecOn with
  | _ k ih =>
  intro a0 a1 a2 r w h; cases k with
  | zero => exact absurd h (by simp [gemotref13_put.f])
  | succ k =>
  simp only [gemotref13_put.f] at h; have HB := Aside0.mk (Below.refl w.heap.size w)
  have H : ((gemotref13_full.f k a0).bind fun t1001 => (if t1001 = true then (if 1 + a0.size ≤ 9223372036854775807 then ((gemotref13_leaf.f a2).bind fun t1002 => (if ((⟨#[40]⟩ : ByteArray) ++ a0).size + t1002.size ≤ 9223372036854775807 then (if (((⟨#[40]⟩ : ByteArray) ++ a0) ++ t1002).size + 1 ≤ 9223372036854775807 then (some ((((⟨#[40]⟩ : ByteArray) ++ a0) ++ t1002) ++ (⟨#[41]⟩ : ByteArray))) else (none)) else (none))) else (none)) else ((gemotref13_Parts.f k a0).bind fun bt1003 => ((gemotref13_place.f k bt1003.2).bind fun t1005 => (if t1005 = a1 then (if 1 + bt1003.1.size ≤ 9223372036854775807 then ((gemotref13_put.f k bt1003.2 a1 a2).bind fun t1006 => (if ((⟨#[40]⟩ : ByteArray) ++ bt1003.1).size + t1006.size ≤ 9223372036854775807 then (if (((⟨#[40]⟩ : ByteArray) ++ bt1003.1) ++ t1006).size + 1 ≤ 9223372036854775807 then (some ((((⟨#[40]⟩ : ByteArray) ++ bt1003.1) ++ t1006) ++ (⟨#[41]⟩ : ByteArray))) else (none)) else (none))) else (none)) else ((gemotref13_put.f k bt1003.1 a1 a2).bind fun t1007 => (if 1 + t1007.size ≤ 9223372036854775807 then (if ((⟨#[40]⟩ : ByteArray) ++ t1007).size + bt1003.2.size ≤ 9223372036854775807 then (if (((⟨#[40]⟩ : ByteArray) ++ t1007) ++ bt1003.2).size + 1 ≤ 9223372036854775807 then (some ((((⟨#[40]⟩ : ByteArray) ++ t1007) ++ bt1003.2) ++ (⟨#[41]⟩ : ByteArray))) else (none)) else (none)) else (none)))))))) = some r := h
  clear h; replace H := Option.bind_eq_some_iff.mp H
  obtain ⟨t1001, A40, H⟩ := H; replace H : (if t1001 = true then (if 1 + a0.size ≤ 9223372036854775807 then ((gemotref13_leaf.f a2).bind fun t1002 => (if ((⟨#[40]⟩ : ByteArray) ++ a0).size + t1002.size ≤ 9223372036854775807 then (if (((⟨#[40]⟩ : ByteArray) ++ a0) ++ t1002).size + 1 ≤ 9223372036854775807 then (some ((((⟨#[40]⟩ : ByteArray) ++ a0) ++ t1002) ++ (⟨#[41]⟩ : ByteArray))) else (none)) else (none))) else (none)) else ((gemotref13_Parts.f k a0).bind fun bt1003 => ((gemotref13_place.f k bt1003.2).bind fun t1005 => (if t1005 = a1 then (if 1 + bt1003.1.size ≤ 9223372036854775807 then ((gemotref13_put.f k bt1003.2 a1 a2).bind fun t1006 => (if ((⟨#[40]⟩ : ByteArray) ++ bt1003.1).size + t1006.size ≤ 9223372036854775807 then (if (((⟨#[40]⟩ : ByteArray) ++ bt1003.1) ++ t1006).size + 1 ≤ 9223372036854775807 then (some ((((⟨#[40]⟩ : ByteArray) ++ bt1003.1) ++ t1006) ++ (⟨#[41]⟩ : ByteArray))) else (none)) else (none))) else (none)) else ((gemotref13_put.f k bt1003.1 a1 a2).bind fun t1007 => (if 1 + t1007.size ≤ 9223372036854775807 then (if ((⟨#[40]⟩ : ByteArray) ++ t1007).size + bt1003.2.size ≤ 9223372036854775807 then (if (((⟨#[40]⟩ : ByteArray) ++ t1007) ++ bt1003.2).size + 1 ≤ 9223372036854775807 then (some ((((⟨#[40]⟩ : ByteArray) ++ t1007) ++ bt1003.2) ++ (⟨#[41]⟩ : ByteArray))) else (none)) else (none)) else (none))))))) = some r := H
  have A4 := Aside0.mk A40
  clear A40; by_cases c5 : t1001 = true
  · subst c5; have H1 : (if 1 + a0.size ≤ 9223372036854775807 then ((gemotref13_leaf.f a2).bind fun t1002 => (if ((⟨#[40]⟩ : ByteArray) ++ a0).size + t1002.size ≤ 9223372036854775807 then (if (((⟨#[40]⟩ : ByteArray) ++ a0) ++ t1002).size + 1 ≤ 9223372036854775807 then (some ((((⟨#[40]⟩ : ByteArray) ++ a0) ++ t1002) ++ (⟨#[41]⟩ : ByteArray))) else (none)) else (none))) else (none)) = some r := by rw [if_pos rfl] at H; exact H
    clear H; have H := H1; clear H1; by_cases c6 : 1 + a0.size ≤ 9223372036854775807
    · rw [if_pos c6] at H
      have c6b0 := eq_true c6
      have c6b1 : decide (1 + a0.size ≤ 9223372036854775807) = true := decide_eq_true c6
      try have c6b2 : (9223372036854775807 < 1 + a0.size) = False := eq_false (Nat.not_lt.2 c6)
      replace H := Option.bind_eq_some_iff.mp H
      obtain ⟨t1002, A70, H⟩ := H; replace H : (if ((⟨#[40]⟩ : ByteArray) ++ a0).size + t1002.size ≤ 9223372036854775807 then (if (((⟨#[40]⟩ : ByteArray) ++ a0) ++ t1002).size + 1 ≤ 9223372036854775807 then (some ((((⟨#[40]⟩ : ByteArray) ++ a0) ++ t1002) ++ (⟨#[41]⟩ : ByteArray))) else (none)) else (none)) = some r := H
      have A7 := Aside0.mk A70
      clear A70; by_cases c8 : ((⟨#[40]⟩ : ByteArray) ++ a0).size + t1002.size ≤ 9223372036854775807
      · rw [if_pos c8] at H
        have c8b0 := eq_true c8
        have c8b1 : decide (((⟨#[40]⟩ : ByteArray) ++ a0).size + t1002.size ≤ 9223372036854775807) = true := decide_eq_true c8
        try have c8b2 : (9223372036854775807 < ((⟨#[40]⟩ : ByteArray) ++ a0).size + t1002.size) = False := eq_false (Nat.not_lt.2 c8)
        try have c8b9 : (9223372036854775807 < 1 + a0.size + t1002.size) = False := eq_false (Nat.not_lt.2 (by have h_ := c8; simp only [ByteArray.size_append] at h_; exact h_))
        by_cases c9 : (((⟨#[40]⟩ : ByteArray) ++ a0) ++ t1002).size + 1 ≤ 9223372036854775807
        · rw [if_pos c9] at H
          have c9b0 := eq_true c9
          have c9b1 : decide ((((⟨#[40]⟩ : ByteArray) ++ a0) ++ t1002).size + 1 ≤ 9223372036854775807) = true := decide_eq_true c9
          try have c9b2 : (9223372036854775807 < (((⟨#[40]⟩ : ByteArray) ++ a0) ++ t1002).size + 1) = False := eq_false (Nat.not_lt.2 c9)
          try have c9b9 : (9223372036854775807 < 1 + a0.size + t1002.size + 1) = False := eq_false (Nat.not_lt.2 (by have h_ := c9; simp only [ByteArray.size_append] at h_; exact h_))
          obtain rfl := Option.some.inj H
          go_enter Tryd.func40, Tryd.ntmps40
          go_wp2_with (first | ((with_reducible refine gate_callee (f := 58) rfl ?_); refine goesL_ (some 10) rfl rfl Tryd.func58 (by kernel_rfl) rfl #[.string a0] rfl (by simp only [List.map_toArray, List.map_cons, List.map_nil] <;> rfl) ?_; (with_reducible refine (gemotref13_full.calls k a0 true _ A4.out).mono ?_); rintro e w10 ⟨rfl, hb⟩; refine ⟨_, rfl, ?_⟩; have n0_ := Aside0.mk (below_step (by repeat with_reducible first | exact HB.out | apply below_alloc | apply pw_below_drewN | apply below_drew1) hb); clear HB; have HB := n0_; clear n0_; (try clear hb)) | ((with_reducible refine gate_callee (f := 45) rfl ?_); refine goesL_ (some 14) rfl rfl Tryd.func45 (by kernel_rfl) rfl #[.int .i64 a2] rfl (by simp only [List.map_toArray, List.map_cons, List.map_nil] <;> rfl) ?_; (with_reducible refine (gemotref13_leaf.calls a2 t1002 _ A7.out).mono ?_); rintro e w' ⟨rfl, ⟨nd, rfl⟩⟩; refine ⟨_, rfl, ?_⟩))
          go_ret
          exact ⟨by first | rfl | (simp [errW_none, errW_some] <;> rfl) | (simp [*, errW_none, errW_some] <;> rfl), by repeat (first | (with_reducible first | exact HB.out | apply below_alloc | apply pw_below_drewN | apply below_drew1) | exact HB.out)⟩
        · rw [if_neg c9] at H
          exact absurd H (by simp)
      · rw [if_neg c8] at H
        exact absurd H (by simp)
    · rw [if_neg c6] at H
      exact absurd H (by simp)
  · replace c5 := Bool.eq_false_iff.mpr c5
    subst c5; have H1 : ((gemotref13_Parts.f k a0).bind fun bt1003 => ((gemotref13_place.f k bt1003.2).bind fun t1005 => (if t1005 = a1 then (if 1 + bt1003.1.size ≤ 9223372036854775807 then ((gemotref13_put.f k bt1003.2 a1 a2).bind fun t1006 => (if ((⟨#[40]⟩ : ByteArray) ++ bt1003.1).size + t1006.size ≤ 9223372036854775807 then (if (((⟨#[40]⟩ : ByteArray) ++ bt1003.1) ++ t1006).size + 1 ≤ 9223372036854775807 then (some ((((⟨#[40]⟩ : ByteArray) ++ bt1003.1) ++ t1006) ++ (⟨#[41]⟩ : ByteArray))) else (none)) else (none))) else (none)) else ((gemotref13_put.f k bt1003.1 a1 a2).bind fun t1007 => (if 1 + t1007.size ≤ 9223372036854775807 then (if ((⟨#[40]⟩ : ByteArray) ++ t1007).size + bt1003.2.size ≤ 9223372036854775807 then (if (((⟨#[40]⟩ : ByteArray) ++ t1007) ++ bt1003.2).size + 1 ≤ 9223372036854775807 then (some ((((⟨#[40]⟩ : ByteArray) ++ t1007) ++ bt1003.2) ++ (⟨#[41]⟩ : ByteArray))) else (none)) else (none)) else (none)))))) = some r := by rw [if_neg (show ¬ (false = true) by decide)] at H; exact H
    clear H; have H := H1; clear H1; replace H := Option.bind_eq_some_iff.mp H
    obtain ⟨⟨t1003, t1004⟩, A110, H⟩ := H
    replace H : ((gemotref13_place.f k t1004).bind fun t1005 => (if t1005 = a1 then (if 1 + t1003.size ≤ 9223372036854775807 then ((gemotref13_put.f k t1004 a1 a2).bind fun t1006 => (if ((⟨#[40]⟩ : ByteArray) ++ t1003).size + t1006.size ≤ 9223372036854775807 then (if (((⟨#[40]⟩ : ByteArray) ++ t1003) ++ t1006).size + 1 ≤ 9223372036854775807 then (some ((((⟨#[40]⟩ : ByteArray) ++ t1003) ++ t1006) ++ (⟨#[41]⟩ : ByteArray))) else (none)) else (none))) else (none)) else ((gemotref13_put.f k t1003 a1 a2).bind fun t1007 => (if 1 + t1007.size ≤ 9223372036854775807 then (if ((⟨#[40]⟩ : ByteArray) ++ t1007).size + t1004.size ≤ 9223372036854775807 then (if (((⟨#[40]⟩ : ByteArray) ++ t1007) ++ t1004).size + 1 ≤ 9223372036854775807 then (some ((((⟨#[40]⟩ : ByteArray) ++ t1007) ++ t1004) ++ (⟨#[41]⟩ : ByteArray))) else (none)) else (none)) else (none))))) = some r := H
    have A11 := Aside0.mk A110
    clear A110; replace H := Option.bind_eq_some_iff.mp H
    obtain ⟨t1005, A120, H⟩ := H; replace H : (if t1005 = a1 then (if 1 + t1003.size ≤ 9223372036854775807 then ((gemotref13_put.f k t1004 a1 a2).bind fun t1006 => (if ((⟨#[40]⟩ : ByteArray) ++ t1003).size + t1006.size ≤ 9223372036854775807 then (if (((⟨#[40]⟩ : ByteArray) ++ t1003) ++ t1006).size + 1 ≤ 9223372036854775807 then (some ((((⟨#[40]⟩ : ByteArray) ++ t1003) ++ t1006) ++ (⟨#[41]⟩ : ByteArray))) else (none)) else (none))) else (none)) else ((gemotref13_put.f k t1003 a1 a2).bind fun t1007 => (if 1 + t1007.size ≤ 9223372036854775807 then (if ((⟨#[40]⟩ : ByteArray) ++ t1007).size + t1004.size ≤ 9223372036854775807 then (if (((⟨#[40]⟩ : ByteArray) ++ t1007) ++ t1004).size + 1 ≤ 9223372036854775807 then (some ((((⟨#[40]⟩ : ByteArray) ++ t1007) ++ t1004) ++ (⟨#[41]⟩ : ByteArray))) else (none)) else (none)) else (none)))) = some r := H
    have A12 := Aside0.mk A120
    clear A120; by_cases c13 : t1005 = a1
    · rw [if_pos c13] at H
      have c13b0 : (t1005 == a1) = true := beq_iff_eq.mpr c13
      have c13b1 : (t1005 != a1) = false := bne_eq_false_iff_eq.mpr c13
      clear c13; by_cases c14 : 1 + t1003.size ≤ 9223372036854775807
      · rw [if_pos c14] at H
        have c14b0 := eq_true c14
        have c14b1 : decide (1 + t1003.size ≤ 9223372036854775807) = true := decide_eq_true c14
        try have c14b2 : (9223372036854775807 < 1 + t1003.size) = False := eq_false (Nat.not_lt.2 c14)
        replace H := Option.bind_eq_some_iff.mp H
        obtain ⟨t1006, A150, H⟩ := H; replace H : (if ((⟨#[40]⟩ : ByteArray) ++ t1003).size + t1006.size ≤ 9223372036854775807 then (if (((⟨#[40]⟩ : ByteArray) ++ t1003) ++ t1006).size + 1 ≤ 9223372036854775807 then (some ((((⟨#[40]⟩ : ByteArray) ++ t1003) ++ t1006) ++ (⟨#[41]⟩ : ByteArray))) else (none)) else (none)) = some r := H
        have A15 := Aside0.mk A150
        clear A150; by_cases c16 : ((⟨#[40]⟩ : ByteArray) ++ t1003).size + t1006.size ≤ 9223372036854775807
        · rw [if_pos c16] at H
          have c16b0 := eq_true c16
          have c16b1 : decide (((⟨#[40]⟩ : ByteArray) ++ t1003).size + t1006.size ≤ 9223372036854775807) = true := decide_eq_true c16
          try have c16b2 : (9223372036854775807 < ((⟨#[40]⟩ : ByteArray) ++ t1003).size + t1006.size) = False := eq_false (Nat.not_lt.2 c16)
          try have c16b9 : (9223372036854775807 < 1 + t1003.size + t1006.size) = False := eq_false (Nat.not_lt.2 (by have h_ := c16; simp only [ByteArray.size_append] at h_; exact h_))
          by_cases c17 : (((⟨#[40]⟩ : ByteArray) ++ t1003) ++ t1006).size + 1 ≤ 9223372036854775807
          · rw [if_pos c17] at H
            have c17b0 := eq_true c17
            have c17b1 : decide ((((⟨#[40]⟩ : ByteArray) ++ t1003) ++ t1006).size + 1 ≤ 9223372036854775807) = true := decide_eq_true c17
            try have c17b2 : (9223372036854775807 < (((⟨#[40]⟩ : ByteArray) ++ t1003) ++ t1006).size + 1) = False := eq_false (Nat.not_lt.2 c17)
            try have c17b9 : (9223372036854775807 < 1 + t1003.size + t1006.size + 1) = False := eq_false (Nat.not_lt.2 (by have h_ := c17; simp only [ByteArray.size_append] at h_; exact h_))
            obtain rfl := Option.some.inj H
            go_enter Tryd.func40, Tryd.ntmps40
            go_wp2_with (first | ((with_reducible refine gate_callee (f := 58) rfl ?_); refine goesL_ (some 10) rfl rfl Tryd.func58 (by kernel_rfl) rfl #[.string a0] rfl (by simp only [List.map_toArray, List.map_cons, List.map_nil] <;> rfl) ?_; (with_reducible refine (gemotref13_full.calls k a0 false _ A4.out).mono ?_); rintro e w18 ⟨rfl, hb⟩; refine ⟨_, rfl, ?_⟩; have n0_ := Aside0.mk (below_step (by repeat with_reducible first | exact HB.out | apply below_alloc | apply pw_below_drewN | apply below_drew1) hb); clear HB; have HB := n0_; clear n0_; (try clear hb)) | ((with_reducible refine gate_callee (f := 59) rfl ?_); refine goesL_ (some 19) rfl rfl Tryd.func59 (by kernel_rfl) rfl #[.string a0] rfl (by simp only [List.map_toArray, List.map_cons, List.map_nil] <;> rfl) ?_; (with_reducible refine (gemotref13_Parts.calls k a0 t1003 t1004 _ A11.out).mono ?_); rintro e w' ⟨rfl, ⟨nd, rfl⟩⟩; refine ⟨_, rfl, ?_⟩) | ((with_reducible refine gate_callee (f := 41) rfl ?_); refine goesL_ (some 23) rfl rfl Tryd.func41 (by kernel_rfl) rfl #[.string t1004] rfl (by simp only [List.map_toArray, List.map_cons, List.map_nil] <;> rfl) ?_; (with_reducible refine (gemotref13_place.calls k t1004 t1005 _ A12.out).mono ?_); rintro e w19 ⟨rfl, hb⟩; refine ⟨_, rfl, ?_⟩; have n0_ := Aside0.mk (below_step (by repeat with_reducible first | exact HB.out | apply below_alloc | apply pw_below_drewN | apply below_drew1) hb); clear HB; have HB := n0_; clear n0_; (try clear hb)) | ((with_reducible refine gate_callee (f := 40) rfl ?_); refine goesL_ (some 31) rfl rfl Tryd.func40 (by kernel_rfl) rfl #[.string t1004, .int .i64 a1, .int .i64 a2] rfl (by simp only [List.map_toArray, List.map_cons, List.map_nil] <;> rfl) ?_; (with_reducible refine (ih k (by omega) t1004 a1 a2 t1006 _ A15.out).mono ?_); rintro e w20 ⟨rfl, hb⟩; refine ⟨_, rfl, ?_⟩; have n0_ := Aside0.mk (below_step (by repeat with_reducible first | exact HB.out | apply below_alloc | apply pw_below_drewN | apply below_drew1) hb); clear HB; have HB := n0_; clear n0_; (try clear hb)))
            go_ret
            exact ⟨by first | rfl | (simp [errW_none, errW_some] <;> rfl) | (simp [*, errW_none, errW_some] <;> rfl), by repeat (first | (with_reducible first | exact HB.out | apply below_alloc | apply pw_below_drewN | apply below_drew1) | exact HB.out)⟩
          · rw [if_neg c17] at H
            exact absurd H (by simp)
        · rw [if_neg c16] at H
          exact absurd H (by simp)
      · rw [if_neg c14] at H
        exact absurd H (by simp)
    · rw [if_neg c13] at H
      have c13b0 : (t1005 == a1) = false := beq_eq_false_iff_ne.mpr c13
      have c13b1 : (t1005 != a1) = true := bne_iff_ne.mpr c13
      replace H := Option.bind_eq_some_iff.mp H
      obtain ⟨t1007, A210, H⟩ := H; replace H : (if 1 + t1007.size ≤ 9223372036854775807 then (if ((⟨#[40]⟩ : ByteArray) ++ t1007).size + t1004.size ≤ 9223372036854775807 then (if (((⟨#[40]⟩ : ByteArray) ++ t1007) ++ t1004).size + 1 ≤ 9223372036854775807 then (some ((((⟨#[40]⟩ : ByteArray) ++ t1007) ++ t1004) ++ (⟨#[41]⟩ : ByteArray))) else (none)) else (none)) else (none)) = some r := H
      have A21 := Aside0.mk A210
      clear A210; by_cases c22 : 1 + t1007.size ≤ 9223372036854775807
      · rw [if_pos c22] at H
        have c22b0 := eq_true c22
        have c22b1 : decide (1 + t1007.size ≤ 9223372036854775807) = true := decide_eq_true c22
        try have c22b2 : (9223372036854775807 < 1 + t1007.size) = False := eq_false (Nat.not_lt.2 c22)
        by_cases c23 : ((⟨#[40]⟩ : ByteArray) ++ t1007).size + t1004.size ≤ 9223372036854775807
        · rw [if_pos c23] at H
          have c23b0 := eq_true c23
          have c23b1 : decide (((⟨#[40]⟩ : ByteArray) ++ t1007).size + t1004.size ≤ 9223372036854775807) = true := decide_eq_true c23
          try have c23b2 : (9223372036854775807 < ((⟨#[40]⟩ : ByteArray) ++ t1007).size + t1004.size) = False := eq_false (Nat.not_lt.2 c23)
          try have c23b9 : (9223372036854775807 < 1 + t1007.size + t1004.size) = False := eq_false (Nat.not_lt.2 (by have h_ := c23; simp only [ByteArray.size_append] at h_; exact h_))
          by_cases c24 : (((⟨#[40]⟩ : ByteArray) ++ t1007) ++ t1004).size + 1 ≤ 9223372036854775807
          · rw [if_pos c24] at H
            have c24b0 := eq_true c24
            have c24b1 : decide ((((⟨#[40]⟩ : ByteArray) ++ t1007) ++ t1004).size + 1 ≤ 9223372036854775807) = true := decide_eq_true c24
            try have c24b2 : (9223372036854775807 < (((⟨#[40]⟩ : ByteArray) ++ t1007) ++ t1004).size + 1) = False := eq_false (Nat.not_lt.2 c24)
            try have c24b9 : (9223372036854775807 < 1 + t1007.size + t1004.size + 1) = False := eq_false (Nat.not_lt.2 (by have h_ := c24; simp only [ByteArray.size_append] at h_; exact h_))
            obtain rfl := Option.some.inj H
            go_enter Tryd.func40, Tryd.ntmps40
            go_wp2_with (first | ((with_reducible refine gate_callee (f := 58) rfl ?_); refine goesL_ (some 10) rfl rfl Tryd.func58 (by kernel_rfl) rfl #[.string a0] rfl (by simp only [List.map_toArray, List.map_cons, List.map_nil] <;> rfl) ?_; (with_reducible refine (gemotref13_full.calls k a0 false _ A4.out).mono ?_); rintro e w25 ⟨rfl, hb⟩; refine ⟨_, rfl, ?_⟩; have n0_ := Aside0.mk (below_step (by repeat with_reducible first | exact HB.out | apply below_alloc | apply pw_below_drewN | apply below_drew1) hb); clear HB; have HB := n0_; clear n0_; (try clear hb)) | ((with_reducible refine gate_callee (f := 59) rfl ?_); refine goesL_ (some 19) rfl rfl Tryd.func59 (by kernel_rfl) rfl #[.string a0] rfl (by simp only [List.map_toArray, List.map_cons, List.map_nil] <;> rfl) ?_; (with_reducible refine (gemotref13_Parts.calls k a0 t1003 t1004 _ A11.out).mono ?_); rintro e w' ⟨rfl, ⟨nd, rfl⟩⟩; refine ⟨_, rfl, ?_⟩) | ((with_reducible refine gate_callee (f := 41) rfl ?_); refine goesL_ (some 23) rfl rfl Tryd.func41 (by kernel_rfl) rfl #[.string t1004] rfl (by simp only [List.map_toArray, List.map_cons, List.map_nil] <;> rfl) ?_; (with_reducible refine (gemotref13_place.calls k t1004 t1005 _ A12.out).mono ?_); rintro e w26 ⟨rfl, hb⟩; refine ⟨_, rfl, ?_⟩; have n0_ := Aside0.mk (below_step (by repeat with_reducible first | exact HB.out | apply below_alloc | apply pw_below_drewN | apply below_drew1) hb); clear HB; have HB := n0_; clear n0_; (try clear hb)) | ((with_reducible refine gate_callee (f := 40) rfl ?_); refine goesL_ (some 37) rfl rfl Tryd.func40 (by kernel_rfl) rfl #[.string t1003, .int .i64 a1, .int .i64 a2] rfl (by simp only [List.map_toArray, List.map_cons, List.map_nil] <;> rfl) ?_; (with_reducible refine (ih k (by omega) t1003 a1 a2 t1007 _ A21.out).mono ?_); rintro e w27 ⟨rfl, hb⟩; refine ⟨_, rfl, ?_⟩; have n0_ := Aside0.mk (below_step (by repeat with_reducible first | exact HB.out | apply below_alloc | apply pw_below_drewN | apply below_drew1) hb); clear HB; have HB := n0_; clear n0_; (try clear hb)))
            go_ret
            exact ⟨by first | rfl | (simp [errW_none, errW_some] <;> rfl) | (simp [*, errW_none, errW_some] <;> rfl), by repeat (first | (with_reducible first | exact HB.out | apply below_alloc | apply pw_below_drewN | apply below_drew1) | exact HB.out)⟩
          · rw [if_neg c24] at H
            exact absurd H (by simp)
        · rw [if_neg c23] at H
          exact absurd H (by simp)
      · rw [if_neg c22] at H
        exact absurd H (by simp)

end Go.Proofs.YtiofobdmkkbmlaaDoor.F
namespace Go.Proofs.YtiofobdmkkbmlaaDoor.F
open Go.RowKit Go.Proofs.YtiofobdmkkbmlaaDoorW.PrintWords Go.Proofs.YtiofobdmkkbmlaaDoorW.PrintLast Go.Proofs.YtiofobdmkkbmlaaDoorW.PrintMore
attribute [local go_sem] max2_int min2_int max_two min_two max_three min_three max_four min_four
set_option linter.unusedVariables false
set_option linter.unusedSimpArgs false

/-! ### gemotref13_out: function 43 -/
def gemotref13_out.f : Nat → ByteArray → Int → Option (ByteArray)
  | 0, _, _ => none
  | k + 1, a0, a1 => if (a0.size : Int) = 1 then ((gemotref13_leaf.f a1).bind fun t1001 => (if a0.toList = t1001.toList then (some (⟨#[]⟩ : ByteArray)) else (some a0))) else ((gemotref13_Parts.f k a0).bind fun bt1002 => ((gemotref13_out.f k bt1002.1 a1).bind fun t1004 => ((gemotref13_out.f k bt1002.2 a1).bind fun t1005 => (if t1004.toList = ([] : List UInt8) then (if t1004.size + t1005.size ≤ 9223372036854775807 then (some (t1004 ++ t1005)) else (none)) else (if t1005.toList = ([] : List UInt8) then (if t1004.size + t1005.size ≤ 9223372036854775807 then (some (t1004 ++ t1005)) else (none)) else (if 1 + t1004.size ≤ 9223372036854775807 then (if ((⟨#[40]⟩ : ByteArray) ++ t1004).size + t1005.size ≤ 9223372036854775807 then (if (((⟨#[40]⟩ : ByteArray) ++ t1004) ++ t1005).size + 1 ≤ 9223372036854775807 then (some ((((⟨#[40]⟩ : ByteArray) ++ t1004) ++ t1005) ++ (⟨#[41]⟩ : ByteArray))) else (none)) else (none)) else (none)))))))
theorem gemotref13_out.mono_l : ∀ k, (∀ y0 y1, LeO (gemotref13_out.f k y0 y1) (gemotref13_out.f (k + 1) y0 y1))
  | 0 => fun _ _ r h => by simp [gemotref13_out.f] at h
  | k + 1 => by
    have ih0 := gemotref13_out.mono_l k
    · intro y0 y1; unfold gemotref13_out.f
      repeat' first
      | (with_reducible exact ih0 _ _)
      | (with_reducible exact gemotref13_Parts.mono _ _)
      | (with_reducible exact LeO.refl _)
      | (with_reducible exact LeO.none _)
      | (with_reducible refine LeO.ite ?_ ?_)
      | (with_reducible refine LeO.bind ?_ (fun _ => ?_))
      | exact ih0 _ _
      | exact gemotref13_Parts.mono _ _
      | exact LeO.none _
      | refine LeO.ite ?_ ?_
      | refine LeO.bind ?_ (fun _ => ?_)
theorem gemotref13_out.mono : ∀ a0 a1 k, LeO (gemotref13_out.f k a0 a1) (gemotref13_out.f (k + 1) a0 a1) := by
  intro a0 a1 k; have ih0 := gemotref13_out.mono_l k
  exact ih0 a0 a1
set_option maxHeartbeats 8000000 in
set_option maxRecDepth 100000 in
theorem gemotref13_out.calls (k : Nat) : ∀ (a0 : ByteArray) (a1 : Int) (r : ByteArray) (w : World) (h : gemotref13_out.f k a0 a1 = some r),
    Calls Tryd.prog 43 #[.string a0, .int .i64 a1] w fun e w' => e = .returned (.string r) ∧ Drawn0 w w' := by
  induction k using Nat.strongRecOn with
  | _ k ih =>
  intro a0 a1 r w h; cases k with
  | zero => exact absurd h (by simp [gemotref13_out.f])
  | succ k =>
  simp only [gemotref13_out.f] at h; have H : (if (a0.size : Int) = 1 then ((gemotref13_leaf.f a1).bind fun t1001 => (if a0.toList = t1001.toList then (some (⟨#[]⟩ : ByteArray)) else (some a0))) else ((gemotref13_Parts.f k a0).bind fun bt1002 => ((gemotref13_out.f k bt1002.1 a1).bind fun t1004 => ((gemotref13_out.f k bt1002.2 a1).bind fun t1005 => (if t1004.toList = ([] : List UInt8) then (if t1004.size + t1005.size ≤ 9223372036854775807 then (some (t1004 ++ t1005)) else (none)) else (if t1005.toList = ([] : List UInt8) then (if t1004.size + t1005.size ≤ 9223372036854775807 then (some (t1004 ++ t1005)) else (none)) else (if 1 + t1004.size ≤ 9223372036854775807 then (if ((⟨#[40]⟩ : ByteArray) ++ t1004).size + t1005.size ≤ 9223372036854775807 then (if (((⟨#[40]⟩ : ByteArray) ++ t1004) ++ t1005).size + 1 ≤ 9223372036854775807 then (some ((((⟨#[40]⟩ : ByteArray) ++ t1004) ++ t1005) ++ (⟨#[41]⟩ : ByteArray))) else (none)) else (none)) else (none)))))))) = some r := h
  clear h; by_cases c3 : (a0.size : Int) = 1
  · rw [if_pos c3] at H
    have c3b0 : ((a0.size : Int) == 1) = true := beq_iff_eq.mpr c3
    have c3b1 : ((a0.size : Int) != 1) = false := bne_eq_false_iff_eq.mpr c3
    clear c3; replace H := Option.bind_eq_some_iff.mp H
    obtain ⟨t1001, A40, H⟩ := H; replace H : (if a0.toList = t1001.toList then (some (⟨#[]⟩ : ByteArray)) else (some a0)) = some r := H
    have A4 := Aside0.mk A40
    clear A40; by_cases c5 : a0.toList = t1001.toList
    · rw [if_pos c5] at H
      have c5b0 : (a0.toList == t1001.toList) = true := beq_iff_eq.mpr c5
      have c5b1 : (a0.toList != t1001.toList) = false := bne_eq_false_iff_eq.mpr c5
      clear c5; obtain rfl := Option.some.inj H
      go_enter Tryd.func43, Tryd.ntmps43
      go_wp2_with (first | ((with_reducible refine gate_callee (f := 45) rfl ?_); refine goesL_ (some 12) rfl rfl Tryd.func45 (by kernel_rfl) rfl #[.int .i64 a1] rfl (by simp only [List.map_toArray, List.map_cons, List.map_nil] <;> rfl) ?_; (with_reducible refine (gemotref13_leaf.calls a1 t1001 _ A4.out).mono ?_); rintro e w' ⟨rfl, ⟨nd, rfl⟩⟩; refine ⟨_, rfl, ?_⟩))
      go_ret
      exact ⟨by first | rfl | (simp; done) | (simp [*]; done), by repeat (first | exact Drawn0.refl _ | apply Drawn0.step)⟩
    · rw [if_neg c5] at H
      have c5b0 : (a0.toList == t1001.toList) = false := beq_eq_false_iff_ne.mpr c5
      have c5b1 : (a0.toList != t1001.toList) = true := bne_iff_ne.mpr c5
      obtain rfl := Option.some.inj H
      go_enter Tryd.func43, Tryd.ntmps43
      go_wp2_with (first | ((with_reducible refine gate_callee (f := 45) rfl ?_); refine goesL_ (some 12) rfl rfl Tryd.func45 (by kernel_rfl) rfl #[.int .i64 a1] rfl (by simp only [List.map_toArray, List.map_cons, List.map_nil] <;> rfl) ?_; (with_reducible refine (gemotref13_leaf.calls a1 t1001 _ A4.out).mono ?_); rintro e w' ⟨rfl, ⟨nd, rfl⟩⟩; refine ⟨_, rfl, ?_⟩))
      go_ret
      exact ⟨by first | rfl | (simp; done) | (simp [*]; done), by repeat (first | exact Drawn0.refl _ | apply Drawn0.step)⟩
  · rw [if_neg c3] at H
    have c3b0 : ((a0.size : Int) == 1) = false := beq_eq_false_iff_ne.mpr c3
    have c3b1 : ((a0.size : Int) != 1) = true := bne_iff_ne.mpr c3
    replace H := Option.bind_eq_some_iff.mp H
    obtain ⟨⟨t1002, t1003⟩, A60, H⟩ := H
    replace H : ((gemotref13_out.f k t1002 a1).bind fun t1004 => ((gemotref13_out.f k t1003 a1).bind fun t1005 => (if t1004.toList = ([] : List UInt8) then (if t1004.size + t1005.size ≤ 9223372036854775807 then (some (t1004 ++ t1005)) else (none)) else (if t1005.toList = ([] : List UInt8) then (if t1004.size + t1005.size ≤ 9223372036854775807 then (some (t1004 ++ t1005)) else (none)) else (if 1 + t1004.size ≤ 9223372036854775807 then (if ((⟨#[40]⟩ : ByteArray) ++ t1004).size + t1005.size ≤ 9223372036854775807 then (if (((⟨#[40]⟩ : ByteArray) ++ t1004) ++ t1005).size + 1 ≤ 9223372036854775807 then (some ((((⟨#[40]⟩ : ByteArray) ++ t1004) ++ t1005) ++ (⟨#[41]⟩ : ByteArray))) else (none)) else (none)) else (none)))))) = some r := H
    have A6 := Aside0.mk A60
    clear A60; replace H := Option.bind_eq_some_iff.mp H
    obtain ⟨t1004, A70, H⟩ := H; replace H : ((gemotref13_out.f k t1003 a1).bind fun t1005 => (if t1004.toList = ([] : List UInt8) then (if t1004.size + t1005.size ≤ 9223372036854775807 then (some (t1004 ++ t1005)) else (none)) else (if t1005.toList = ([] : List UInt8) then (if t1004.size + t1005.size ≤ 9223372036854775807 then (some (t1004 ++ t1005)) else (none)) else (if 1 + t1004.size ≤ 9223372036854775807 then (if ((⟨#[40]⟩ : ByteArray) ++ t1004).size + t1005.size ≤ 9223372036854775807 then (if (((⟨#[40]⟩ : ByteArray) ++ t1004) ++ t1005).size + 1 ≤ 9223372036854775807 then (some ((((⟨#[40]⟩ : ByteArray) ++ t1004) ++ t1005) ++ (⟨#[41]⟩ : ByteArray))) else (none)) else (none)) else (none))))) = some r := H
    have A7 := Aside0.mk A70
    clear A70; replace H := Option.bind_eq_some_iff.mp H
    obtain ⟨t1005, A80, H⟩ := H; replace H : (if t1004.toList = ([] : List UInt8) then (if t1004.size + t1005.size ≤ 9223372036854775807 then (some (t1004 ++ t1005)) else (none)) else (if t1005.toList = ([] : List UInt8) then (if t1004.size + t1005.size ≤ 9223372036854775807 then (some (t1004 ++ t1005)) else (none)) else (if 1 + t1004.size ≤ 9223372036854775807 then (if ((⟨#[40]⟩ : ByteArray) ++ t1004).size + t1005.size ≤ 9223372036854775807 then (if (((⟨#[40]⟩ : ByteArray) ++ t1004) ++ t1005).size + 1 ≤ 9223372036854775807 then (some ((((⟨#[40]⟩ : ByteArray) ++ t1004) ++ t1005) ++ (⟨#[41]⟩ : ByteArray))) else (none)) else (none)) else (none)))) = some r := H
    have A8 := Aside0.mk A80
    clear A80; by_cases c9 : t1004.toList = ([] : List UInt8)
    · rw [if_pos c9] at H
      have c9b0 : (t1004.toList == ([] : List UInt8)) = true := beq_iff_eq.mpr c9
      have c9b1 : (t1004.toList != ([] : List UInt8)) = false := bne_eq_false_iff_eq.mpr c9
      clear c9; by_cases c10 : t1004.size + t1005.size ≤ 9223372036854775807
      · rw [if_pos c10] at H
        have c10b0 := eq_true c10
        have c10b1 : decide (t1004.size + t1005.size ≤ 9223372036854775807) = true := decide_eq_true c10
        try have c10b2 : (9223372036854775807 < t1004.size + t1005.size) = False := eq_false (Nat.not_lt.2 c10)
        obtain rfl := Option.some.inj H
        go_enter Tryd.func43, Tryd.ntmps43
        go_wp2_with (first | ((with_reducible refine gate_callee (f := 59) rfl ?_); refine goesL_ (some 17) rfl rfl Tryd.func59 (by kernel_rfl) rfl #[.string a0] rfl (by simp only [List.map_toArray, List.map_cons, List.map_nil] <;> rfl) ?_; (with_reducible refine (gemotref13_Parts.calls k a0 t1002 t1003 _ A6.out).mono ?_); rintro e w' ⟨rfl, ⟨nd, rfl⟩⟩; refine ⟨_, rfl, ?_⟩) | ((with_reducible refine gate_callee (f := 43) rfl ?_); refine goesL_ (some 22) rfl rfl Tryd.func43 (by kernel_rfl) rfl #[.string t1002, .int .i64 a1] rfl (by simp only [List.map_toArray, List.map_cons, List.map_nil] <;> rfl) ?_; (with_reducible refine (ih k (by omega) t1002 a1 t1004 _ A7.out).mono ?_); rintro e w' ⟨rfl, ⟨nd, rfl⟩⟩; refine ⟨_, rfl, ?_⟩) | ((with_reducible refine gate_callee (f := 43) rfl ?_); refine goesL_ (some 25) rfl rfl Tryd.func43 (by kernel_rfl) rfl #[.string t1003, .int .i64 a1] rfl (by simp only [List.map_toArray, List.map_cons, List.map_nil] <;> rfl) ?_; (with_reducible refine (ih k (by omega) t1003 a1 t1005 _ A8.out).mono ?_); rintro e w' ⟨rfl, ⟨nd, rfl⟩⟩; refine ⟨_, rfl, ?_⟩))
        go_ret
        exact ⟨by first | rfl | (simp; done) | (simp [*]; done), by repeat (first | exact Drawn0.refl _ | apply Drawn0.step)⟩
      · rw [if_neg c10] at H
        exact absurd H (by simp)
    · rw [if_neg c9] at H
      have c9b0 : (t1004.toList == ([] : List UInt8)) = false := beq_eq_false_iff_ne.mpr c9
      have c9b1 : (t1004.toList != ([] : List UInt8)) = true := bne_iff_ne.mpr c9
      by_cases c11 : t1005.toList = ([] : List UInt8)
      · rw [if_pos c11] at H
        have c11b0 : (t1005.toList == ([] : List UInt8)) = true := beq_iff_eq.mpr c11
        have c11b1 : (t1005.toList != ([] : List UInt8)) = false := bne_eq_false_iff_eq.mpr c11
        clear c11; by_cases c12 : t1004.size + t1005.size ≤ 9223372036854775807
        · rw [if_pos c12] at H
          have c12b0 := eq_true c12
          have c12b1 : decide (t1004.size + t1005.size ≤ 9223372036854775807) = true := decide_eq_true c12
          try have c12b2 : (9223372036854775807 < t1004.size + t1005.size) = False := eq_false (Nat.not_lt.2 c12)
          obtain rfl := Option.some.inj H
          go_enter Tryd.func43, Tryd.ntmps43
          go_wp2_with (first | ((with_reducible refine gate_callee (f := 59) rfl ?_); refine goesL_ (some 17) rfl rfl Tryd.func59 (by kernel_rfl) rfl #[.string a0] rfl (by simp only [List.map_toArray, List.map_cons, List.map_nil] <;> rfl) ?_; (with_reducible refine (gemotref13_Parts.calls k a0 t1002 t1003 _ A6.out).mono ?_); rintro e w' ⟨rfl, ⟨nd, rfl⟩⟩; refine ⟨_, rfl, ?_⟩) | ((with_reducible refine gate_callee (f := 43) rfl ?_); refine goesL_ (some 22) rfl rfl Tryd.func43 (by kernel_rfl) rfl #[.string t1002, .int .i64 a1] rfl (by simp only [List.map_toArray, List.map_cons, List.map_nil] <;> rfl) ?_; (with_reducible refine (ih k (by omega) t1002 a1 t1004 _ A7.out).mono ?_); rintro e w' ⟨rfl, ⟨nd, rfl⟩⟩; refine ⟨_, rfl, ?_⟩) | ((with_reducible refine gate_callee (f := 43) rfl ?_); refine goesL_ (some 25) rfl rfl Tryd.func43 (by kernel_rfl) rfl #[.string t1003, .int .i64 a1] rfl (by simp only [List.map_toArray, List.map_cons, List.map_nil] <;> rfl) ?_; (with_reducible refine (ih k (by omega) t1003 a1 t1005 _ A8.out).mono ?_); rintro e w' ⟨rfl, ⟨nd, rfl⟩⟩; refine ⟨_, rfl, ?_⟩))
          go_ret
          exact ⟨by first | rfl | (simp; done) | (simp [*]; done), by repeat (first | exact Drawn0.refl _ | apply Drawn0.step)⟩
        · rw [if_neg c12] at H
          exact absurd H (by simp)
      · rw [if_neg c11] at H
        have c11b0 : (t1005.toList == ([] : List UInt8)) = false := beq_eq_false_iff_ne.mpr c11
        have c11b1 : (t1005.toList != ([] : List UInt8)) = true := bne_iff_ne.mpr c11
        by_cases c13 : 1 + t1004.size ≤ 9223372036854775807
        · rw [if_pos c13] at H
          have c13b0 := eq_true c13
          have c13b1 : decide (1 + t1004.size ≤ 9223372036854775807) = true := decide_eq_true c13
          try have c13b2 : (9223372036854775807 < 1 + t1004.size) = False := eq_false (Nat.not_lt.2 c13)
          by_cases c14 : ((⟨#[40]⟩ : ByteArray) ++ t1004).size + t1005.size ≤ 9223372036854775807
          · rw [if_pos c14] at H
            have c14b0 := eq_true c14
            have c14b1 : decide (((⟨#[40]⟩ : ByteArray) ++ t1004).size + t1005.size ≤ 9223372036854775807) = true := decide_eq_true c14
            try have c14b2 : (9223372036854775807 < ((⟨#[40]⟩ : ByteArray) ++ t1004).size + t1005.size) = False := eq_false (Nat.not_lt.2 c14)
            try have c14b9 : (9223372036854775807 < 1 + t1004.size + t1005.size) = False := eq_false (Nat.not_lt.2 (by have h_ := c14; simp only [ByteArray.size_append] at h_; exact h_))
            by_cases c15 : (((⟨#[40]⟩ : ByteArray) ++ t1004) ++ t1005).size + 1 ≤ 9223372036854775807
            · rw [if_pos c15] at H
              have c15b0 := eq_true c15
              have c15b1 : decide ((((⟨#[40]⟩ : ByteArray) ++ t1004) ++ t1005).size + 1 ≤ 9223372036854775807) = true := decide_eq_true c15
              try have c15b2 : (9223372036854775807 < (((⟨#[40]⟩ : ByteArray) ++ t1004) ++ t1005).size + 1) = False := eq_false (Nat.not_lt.2 c15)
              try have c15b9 : (9223372036854775807 < 1 + t1004.size + t1005.size + 1) = False := eq_false (Nat.not_lt.2 (by have h_ := c15; simp only [ByteArray.size_append] at h_; exact h_))
              obtain rfl := Option.some.inj H
              go_enter Tryd.func43, Tryd.ntmps43
              go_wp2_with (first | ((with_reducible refine gate_callee (f := 59) rfl ?_); refine goesL_ (some 17) rfl rfl Tryd.func59 (by kernel_rfl) rfl #[.string a0] rfl (by simp only [List.map_toArray, List.map_cons, List.map_nil] <;> rfl) ?_; (with_reducible refine (gemotref13_Parts.calls k a0 t1002 t1003 _ A6.out).mono ?_); rintro e w' ⟨rfl, ⟨nd, rfl⟩⟩; refine ⟨_, rfl, ?_⟩) | ((with_reducible refine gate_callee (f := 43) rfl ?_); refine goesL_ (some 22) rfl rfl Tryd.func43 (by kernel_rfl) rfl #[.string t1002, .int .i64 a1] rfl (by simp only [List.map_toArray, List.map_cons, List.map_nil] <;> rfl) ?_; (with_reducible refine (ih k (by omega) t1002 a1 t1004 _ A7.out).mono ?_); rintro e w' ⟨rfl, ⟨nd, rfl⟩⟩; refine ⟨_, rfl, ?_⟩) | ((with_reducible refine gate_callee (f := 43) rfl ?_); refine goesL_ (some 25) rfl rfl Tryd.func43 (by kernel_rfl) rfl #[.string t1003, .int .i64 a1] rfl (by simp only [List.map_toArray, List.map_cons, List.map_nil] <;> rfl) ?_; (with_reducible refine (ih k (by omega) t1003 a1 t1005 _ A8.out).mono ?_); rintro e w' ⟨rfl, ⟨nd, rfl⟩⟩; refine ⟨_, rfl, ?_⟩))
              go_ret
              exact ⟨by first | rfl | (simp; done) | (simp [*]; done), by repeat (first | exact Drawn0.refl _ | apply Drawn0.step)⟩
            · rw [if_neg c15] at H
              exact absurd H (by simp)
          · rw [if_neg c14] at H
            exact absurd H (by simp)
        · rw [if_neg c13] at H
          exact absurd H (by simp)

end Go.Proofs.YtiofobdmkkbmlaaDoor.F
namespace Go.Proofs.YtiofobdmkkbmlaaDoor.F
open Go.RowKit Go.Proofs.YtiofobdmkkbmlaaDoorW.PrintWords Go.Proofs.YtiofobdmkkbmlaaDoorW.PrintLast Go.Proofs.YtiofobdmkkbmlaaDoorW.PrintMore
attribute [local go_sem] max2_int min2_int max_two min_two max_three min_three max_four min_four
set_option linter.unusedVariables false
set_option linter.unusedSimpArgs false

/-! ### gemotref13_Right: function 17 -/
def gemotref13_Right.l0 : Nat → ByteArray → List Int → Int → Option (Bool)
  | 0, _, _, _ => none
  | k + 1, x0, x3, x4 => if x4 < (x3.length : Int) then (if 0 ≤ x4 then (if x4 ≤ (x3.length : Int) then ((gemotref10_Has.f (x3.take (x4 : Int).toNat) (rd x3 x4)).bind fun t1009 => (if t1009 = true then (some false) else (gemotref13_Right.l0 k x0 x3 (wrap64 (x4 + 1))))) else (none)) else (none)) else (if (x0.size : Int) < 100 then ((gemotref13_End.f k x0 0).bind fun t1010 => (if t1010 = (x0.size : Int) then (some (decide ((x0.size : Int) > 0))) else (some false))) else (some false))
def gemotref13_Right.f (k : Nat) (a0 : ByteArray) : Option (Bool) := (gemotref13_digits.f k a0).bind fun t1001 => (gemotref13_Right.l0 k a0 t1001 0)
theorem gemotref13_Right.mono_l : ∀ k, (∀ y0 y1 y2, LeO (gemotref13_Right.l0 k y0 y1 y2) (gemotref13_Right.l0 (k + 1) y0 y1 y2))
  | 0 => fun _ _ _ r h => by simp [gemotref13_Right.l0] at h
  | k + 1 => by
    have ih0 := gemotref13_Right.mono_l k
    · intro y0 y1 y2; unfold gemotref13_Right.l0
      repeat' first
      | (with_reducible exact ih0 _ _ _)
      | (with_reducible exact gemotref13_End.mono _ _ _)
      | (with_reducible exact gemotref13_digits.mono _ _)
      | (with_reducible exact LeO.refl _)
      | (with_reducible exact LeO.none _)
      | (with_reducible refine LeO.ite ?_ ?_)
      | (with_reducible refine LeO.bind ?_ (fun _ => ?_))
      | exact ih0 _ _ _
      | exact gemotref13_End.mono _ _ _
      | exact gemotref13_digits.mono _ _
      | exact LeO.none _
      | refine LeO.ite ?_ ?_
      | refine LeO.bind ?_ (fun _ => ?_)
theorem gemotref13_Right.mono : ∀ a0 k, LeO (gemotref13_Right.f k a0) (gemotref13_Right.f (k + 1) a0) := by
  intro a0 k; have ih0 := gemotref13_Right.mono_l k
  unfold gemotref13_Right.f
  repeat' first
      | (with_reducible exact ih0 _ _ _)
      | (with_reducible exact gemotref13_End.mono _ _ _)
      | (with_reducible exact gemotref13_digits.mono _ _)
      | (with_reducible exact LeO.refl _)
      | (with_reducible exact LeO.none _)
      | (with_reducible refine LeO.ite ?_ ?_)
      | (with_reducible refine LeO.bind ?_ (fun _ => ?_))
      | exact ih0 _ _ _
      | exact gemotref13_End.mono _ _ _
      | exact gemotref13_digits.mono _ _
      | exact LeO.none _
      | refine LeO.ite ?_ ?_
      | refine LeO.bind ?_ (fun _ => ?_)
set_option maxHeartbeats 8000000 in
set_option maxRecDepth 100000 in
theorem gemotref13_Right.calls (k : Nat) (a0 : ByteArray) (r : Bool) (w : World) (h : gemotref13_Right.f k a0 = some r) :
    Calls Tryd.prog 17 #[.string a0] w fun e w' => e = .returned (.bool r) ∧ Below w.heap.size w w' := by
  have HB := Aside0.mk (Below.refl w.heap.size w)
  have H : ((gemotref13_digits.f k a0).bind fun t1001 => (gemotref13_Right.l0 k a0 t1001 0)) = some r := h
  clear h; replace H := Option.bind_eq_some_iff.mp H
  obtain ⟨t1001, A20, H⟩ := H; replace H : (gemotref13_Right.l0 k a0 t1001 0) = some r := H
  have A2 := Aside0.mk A20
  clear A20; have H' := Aside0.mk H
  clear H; go_enter Tryd.func17, Tryd.ntmps17
  go_wp2_with (first | (go_at_call 39; (with_reducible refine (gemotref13_digits.calls k a0 t1001 _ A2.out).mono ?_); rintro e w3 ⟨v1002, rfl, ho0, hb⟩; have n0_ := Aside0.mk (Kd.R_lower ho0 (below_size (by repeat with_reducible first | exact HB.out | apply below_alloc | apply pw_below_drewN | apply below_drew1))); have n1_ := Aside0.mk (below_step (by repeat with_reducible first | exact HB.out | apply below_alloc | apply pw_below_drewN | apply below_drew1) hb); clear HB; have HO1003 := n0_; have HB := n1_; clear n0_ n1_; (try clear hb); (try clear ho0)))
  repeat (go_quiet (first | (go_at_call 39; (with_reducible refine (gemotref13_digits.calls k a0 t1001 _ A2.out).mono ?_); rintro e w3 ⟨v1002, rfl, ho0, hb⟩; have n0_ := Aside0.mk (Kd.R_lower ho0 (below_size (by repeat with_reducible first | exact HB.out | apply below_alloc | apply pw_below_drewN | apply below_drew1))); have n1_ := Aside0.mk (below_step (by repeat with_reducible first | exact HB.out | apply below_alloc | apply pw_below_drewN | apply below_drew1) hb); clear HB; have HO1003 := n0_; have HB := n1_; clear n0_ n1_; (try clear hb); (try clear ho0))); try go_wp2_with (first | (go_at_call 39; (with_reducible refine (gemotref13_digits.calls k a0 t1001 _ A2.out).mono ?_); rintro e w3 ⟨v1002, rfl, ho0, hb⟩; have n0_ := Aside0.mk (Kd.R_lower ho0 (below_size (by repeat with_reducible first | exact HB.out | apply below_alloc | apply pw_below_drewN | apply below_drew1))); have n1_ := Aside0.mk (below_step (by repeat with_reducible first | exact HB.out | apply below_alloc | apply pw_below_drewN | apply below_drew1) hb); clear HB; have HO1003 := n0_; have HB := n1_; clear n0_ n1_; (try clear hb); (try clear ho0))))
  go_loopg [4] k (fun kq v4 w' => ∃ (x4_1 : Int), v4 = .int .i64 x4_1 ∧ Aside0 (gemotref13_Right.l0 kq a0 t1001 x4_1 = some r) ∧ Aside0 (kq ≤ k) ∧ Aside0 (Kd.R (Kd.int .i64) 3 w' w.heap.size (fun _ => True) v1002 t1001) ∧ Aside0 (Below w.heap.size w w'))
  case atStart => exact ⟨(0), (by first | rfl | (simp; done) | (simp [*]; done)), H', ⟨Nat.le_refl _⟩, ⟨by (with_reducible repeat (first | apply Kd.R_alloc | apply Kd.R_drewN | apply Kd.R_drew)); exact HO1003.out⟩, ⟨by repeat (first | (with_reducible first | exact HB.out | apply below_alloc | apply pw_below_drewN | apply below_drew1) | exact HB.out)⟩⟩
  case round =>
    clear H'; try clear c1
    try clear p2
    obtain ⟨x4_1, rfl, HA, HK1, HO_3, HB⟩ := hrel; cases gk with
    | zero => exact absurd HA.out (by simp [gemotref13_Right.l0])
    | succ k1 =>
      have H := HA.out; clear HA; simp only [gemotref13_Right.l0] at H; by_cases c4 : x4_1 < (t1001.length : Int)
      · rw [if_pos c4] at H
        have c4b0 : decide (x4_1 < (t1001.length : Int)) = true := decide_eq_true c4
        clear c4; by_cases c5 : 0 ≤ x4_1
        · rw [if_pos c5] at H
          have c5b0 := eq_true c5
          have c5b1 : decide (0 ≤ x4_1) = true := decide_eq_true c5
          clear c5; by_cases c6 : x4_1 ≤ (t1001.length : Int)
          · rw [if_pos c6] at H
            have c6b0 := eq_true c6
            have c6b1 : decide (x4_1 ≤ (t1001.length : Int)) = true := decide_eq_true c6
            clear c6; obtain ⟨y1004, hy1004⟩ : ∃ y_ : List Int, y_ = (t1001.take (x4_1 : Int).toNat) := ⟨_, rfl⟩
            replace H : ((gemotref10_Has.f y1004 (rd t1001 x4_1)).bind fun t1009 => (if t1009 = true then (some false) else (gemotref13_Right.l0 k1 a0 t1001 (wrap64 (x4_1 + 1))))) = some r := by first | (rw [hy1004]; with_reducible exact H) | (have H2_ := (Option.bind_some _ _).symm.trans H; rw [hy1004]; with_reducible exact H2_) | (have H2_ := (Option.bind_some _ _).symm.trans H; with_reducible exact H2_) | with_reducible exact H | (rw [hy1004]; exact H) | exact H
            have Ny1004 := Aside0.mk hy1004
            clear hy1004; replace H := Option.bind_eq_some_iff.mp H
            obtain ⟨t1009, A70, H⟩ := H; replace H : (if t1009 = true then (some false) else (gemotref13_Right.l0 k1 a0 t1001 (wrap64 (x4_1 + 1)))) = some r := H
            have A7 := Aside0.mk A70
            clear A70; by_cases c8 : t1009 = true
            · subst c8; have H1 : (some false) = some r := by rw [if_pos rfl] at H; exact H
              clear H; have H := H1; clear H1; obtain rfl := Option.some.inj H
              obtain ⟨Ao9, co9, eo9⟩ := Kd.R_slice HO_3.out; subst eo9; have q10 : (x4_1 : Int) ≤ ((t1001.length : Int) : Int) := of_decide_eq_true (by first | (with_reducible assumption) | assumption)
              obtain ⟨i010, hi010, _, hsz10, _⟩ := info_parts info3; have hroom10 : t1001.length ≤ co9 := (Kd.R_reads' HO_3.out).2.1
              have hC10 : Kd.C (Kd.int .i64) _ Ao9 t1001.length t1001 := (Kd.R_reads' HO_3.out).2.2
              have hcut10 := cut_to (P := Tryd.prog) 34 3 .i64 Tryd.underlying34 hi010 Ao9 t1001.length co9 x4_1 (of_decide_eq_true (by first | (with_reducible assumption) | assumption)) q10 hroom10
              have hr10 := Kd.C_take (m := (x4_1 : Int).toNat) hC10 (by omega)
              have hy10 : y1004.length = (x4_1 : Int).toNat := (by rw [Ny1004.out, List.length_take]; omega)
              rw [← Ny1004.out] at hr10
              rw [← hy10] at hcut10
              have HR1007 := Aside0.mk hr10
              have HC1007 := Aside0.mk (show y1004.length ≤ co9 from by omega)
              clear hr10 hC10 hroom10 hi010 hsz10; have KY10 := Aside0.mk hy10
              clear hy10; have KL10 := Aside0.mk (show (x4_1 : Int).toNat ≤ t1001.length from by omega)
              replace q10 := eq_true q10
              have p1008 : 0 ≤ (x4_1 : Int) := of_decide_eq_true (by first | (with_reducible assumption) | assumption)
              have q1008 : x4_1 < (t1001.length : Int) := of_decide_eq_true (by first | (with_reducible assumption) | assumption)
              obtain ⟨ad1008, e1008, hx1008_0⟩ := Kd.at_int (Kd.R_reads' HO_3.out).2.2 x4_1 p1008 q1008
              cases e1008
              replace p1008 := eq_true p1008
              replace q1008 := eq_true q1008
              go_wp2_with (first | (go_at_call 29; (with_reducible refine (gemotref10_Has.calls _ _ y1004 (rd t1001 x4_1) true _ ?side1 ?side2 A7.out).mono ?_); (case side1 => repeat (first | exact (by repeat (first | (with_reducible exact HR1007.out) | (with_reducible refine Kd.C_alloc ?_ _) | (with_reducible refine Kd.C_drewN ?_ _) | (with_reducible refine Kd.C_drew ?_) | exact HR1007.out)) | (with_reducible refine Kd.C_alloc ?_ _) | (with_reducible refine Kd.C_drewN ?_ _) | (with_reducible refine Kd.C_drew ?_))); (case side2 => exact HC1007.out); rintro e w' ⟨rfl, ⟨nd, rfl⟩⟩; (try first | exact ⟨rfl, _, World.drewN_drewN _ _ _⟩ | exact ⟨rfl, _, Eq.trans (World.drewN_drewN _ _ _) (congrArg (World.drewN _) (Nat.add_assoc _ _ _))⟩)))
              repeat (go_quiet (first | (go_at_call 29; (with_reducible refine (gemotref10_Has.calls _ _ y1004 (rd t1001 x4_1) true _ ?side1 ?side2 A7.out).mono ?_); (case side1 => repeat (first | exact (by repeat (first | (with_reducible exact HR1007.out) | (with_reducible refine Kd.C_alloc ?_ _) | (with_reducible refine Kd.C_drewN ?_ _) | (with_reducible refine Kd.C_drew ?_) | exact HR1007.out)) | (with_reducible refine Kd.C_alloc ?_ _) | (with_reducible refine Kd.C_drewN ?_ _) | (with_reducible refine Kd.C_drew ?_))); (case side2 => exact HC1007.out); rintro e w' ⟨rfl, ⟨nd, rfl⟩⟩; (try first | exact ⟨rfl, _, World.drewN_drewN _ _ _⟩ | exact ⟨rfl, _, Eq.trans (World.drewN_drewN _ _ _) (congrArg (World.drewN _) (Nat.add_assoc _ _ _))⟩))); try go_wp2_with (first | (go_at_call 29; (with_reducible refine (gemotref10_Has.calls _ _ y1004 (rd t1001 x4_1) true _ ?side1 ?side2 A7.out).mono ?_); (case side1 => repeat (first | exact (by repeat (first | (with_reducible exact HR1007.out) | (with_reducible refine Kd.C_alloc ?_ _) | (with_reducible refine Kd.C_drewN ?_ _) | (with_reducible refine Kd.C_drew ?_) | exact HR1007.out)) | (with_reducible refine Kd.C_alloc ?_ _) | (with_reducible refine Kd.C_drewN ?_ _) | (with_reducible refine Kd.C_drew ?_))); (case side2 => exact HC1007.out); rintro e w' ⟨rfl, ⟨nd, rfl⟩⟩; (try first | exact ⟨rfl, _, World.drewN_drewN _ _ _⟩ | exact ⟨rfl, _, Eq.trans (World.drewN_drewN _ _ _) (congrArg (World.drewN _) (Nat.add_assoc _ _ _))⟩))))
              go_ret
              exact ⟨by first | rfl | (simp [errW_none, errW_some] <;> rfl) | (simp [*, errW_none, errW_some] <;> rfl), by repeat (first | (with_reducible first | exact HB.out | apply below_alloc | apply pw_below_drewN | apply below_drew1) | exact HB.out)⟩
            · replace c8 := Bool.eq_false_iff.mpr c8
              subst c8; have H1 : (gemotref13_Right.l0 k1 a0 t1001 (wrap64 (x4_1 + 1))) = some r := by rw [if_neg (show ¬ (false = true) by decide)] at H; exact H
              clear H; have H := H1; clear H1; have H' := Aside0.mk H
              clear H; obtain ⟨Ao11, co11, eo11⟩ := Kd.R_slice HO_3.out; subst eo11; have q12 : (x4_1 : Int) ≤ ((t1001.length : Int) : Int) := of_decide_eq_true (by first | (with_reducible assumption) | assumption)
              obtain ⟨i012, hi012, _, hsz12, _⟩ := info_parts info3; have hroom12 : t1001.length ≤ co11 := (Kd.R_reads' HO_3.out).2.1
              have hC12 : Kd.C (Kd.int .i64) _ Ao11 t1001.length t1001 := (Kd.R_reads' HO_3.out).2.2
              have hcut12 := cut_to (P := Tryd.prog) 34 3 .i64 Tryd.underlying34 hi012 Ao11 t1001.length co11 x4_1 (of_decide_eq_true (by first | (with_reducible assumption) | assumption)) q12 hroom12
              have hr12 := Kd.C_take (m := (x4_1 : Int).toNat) hC12 (by omega)
              have hy12 : y1004.length = (x4_1 : Int).toNat := (by rw [Ny1004.out, List.length_take]; omega)
              rw [← Ny1004.out] at hr12
              rw [← hy12] at hcut12
              have HR1007 := Aside0.mk hr12
              have HC1007 := Aside0.mk (show y1004.length ≤ co11 from by omega)
              clear hr12 hC12 hroom12 hi012 hsz12; have KY12 := Aside0.mk hy12
              clear hy12; have KL12 := Aside0.mk (show (x4_1 : Int).toNat ≤ t1001.length from by omega)
              replace q12 := eq_true q12
              have p1008 : 0 ≤ (x4_1 : Int) := of_decide_eq_true (by first | (with_reducible assumption) | assumption)
              have q1008 : x4_1 < (t1001.length : Int) := of_decide_eq_true (by first | (with_reducible assumption) | assumption)
              obtain ⟨ad1008, e1008, hx1008_0⟩ := Kd.at_int (Kd.R_reads' HO_3.out).2.2 x4_1 p1008 q1008
              cases e1008
              replace p1008 := eq_true p1008
              replace q1008 := eq_true q1008
              go_wp2_with (first | (go_at_call 29; (with_reducible refine (gemotref10_Has.calls _ _ y1004 (rd t1001 x4_1) false _ ?side1 ?side2 A7.out).mono ?_); (case side1 => repeat (first | exact (by repeat (first | (with_reducible exact HR1007.out) | (with_reducible refine Kd.C_alloc ?_ _) | (with_reducible refine Kd.C_drewN ?_ _) | (with_reducible refine Kd.C_drew ?_) | exact HR1007.out)) | (with_reducible refine Kd.C_alloc ?_ _) | (with_reducible refine Kd.C_drewN ?_ _) | (with_reducible refine Kd.C_drew ?_))); (case side2 => exact HC1007.out); rintro e w' ⟨rfl, ⟨nd, rfl⟩⟩; (try first | exact ⟨rfl, _, World.drewN_drewN _ _ _⟩ | exact ⟨rfl, _, Eq.trans (World.drewN_drewN _ _ _) (congrArg (World.drewN _) (Nat.add_assoc _ _ _))⟩)))
              repeat (go_quiet (first | (go_at_call 29; (with_reducible refine (gemotref10_Has.calls _ _ y1004 (rd t1001 x4_1) false _ ?side1 ?side2 A7.out).mono ?_); (case side1 => repeat (first | exact (by repeat (first | (with_reducible exact HR1007.out) | (with_reducible refine Kd.C_alloc ?_ _) | (with_reducible refine Kd.C_drewN ?_ _) | (with_reducible refine Kd.C_drew ?_) | exact HR1007.out)) | (with_reducible refine Kd.C_alloc ?_ _) | (with_reducible refine Kd.C_drewN ?_ _) | (with_reducible refine Kd.C_drew ?_))); (case side2 => exact HC1007.out); rintro e w' ⟨rfl, ⟨nd, rfl⟩⟩; (try first | exact ⟨rfl, _, World.drewN_drewN _ _ _⟩ | exact ⟨rfl, _, Eq.trans (World.drewN_drewN _ _ _) (congrArg (World.drewN _) (Nat.add_assoc _ _ _))⟩))); try go_wp2_with (first | (go_at_call 29; (with_reducible refine (gemotref10_Has.calls _ _ y1004 (rd t1001 x4_1) false _ ?side1 ?side2 A7.out).mono ?_); (case side1 => repeat (first | exact (by repeat (first | (with_reducible exact HR1007.out) | (with_reducible refine Kd.C_alloc ?_ _) | (with_reducible refine Kd.C_drewN ?_ _) | (with_reducible refine Kd.C_drew ?_) | exact HR1007.out)) | (with_reducible refine Kd.C_alloc ?_ _) | (with_reducible refine Kd.C_drewN ?_ _) | (with_reducible refine Kd.C_drew ?_))); (case side2 => exact HC1007.out); rintro e w' ⟨rfl, ⟨nd, rfl⟩⟩; (try first | exact ⟨rfl, _, World.drewN_drewN _ _ _⟩ | exact ⟨rfl, _, Eq.trans (World.drewN_drewN _ _ _) (congrArg (World.drewN _) (Nat.add_assoc _ _ _))⟩))))
              go_roundg k1
              case measure => have := HK1.out; omega
              case rel => exact ⟨(wrap64 (x4_1 + 1)), (by first | rfl | (simp; done) | (simp [*]; done)), H', ⟨by have := HK1.out; omega⟩, ⟨by (with_reducible repeat (first | apply Kd.R_alloc | apply Kd.R_drewN | apply Kd.R_drew)); exact HO_3.out⟩, ⟨by repeat (first | (with_reducible first | exact HB.out | apply below_alloc | apply pw_below_drewN | apply below_drew1) | exact HB.out)⟩⟩
          · rw [if_neg c6] at H
            exact absurd H (by simp)
        · rw [if_neg c5] at H
          exact absurd H (by simp)
      · rw [if_neg c4] at H
        have c4b0 : decide (x4_1 < (t1001.length : Int)) = false := decide_eq_false c4
        clear c4; by_cases c13 : (a0.size : Int) < 100
        · rw [if_pos c13] at H
          have c13b0 : decide ((a0.size : Int) < 100) = true := decide_eq_true c13
          have c13b1 : decide (a0.size < 100) = true := decide_eq_true (by omega)
          clear c13; replace H := Option.bind_eq_some_iff.mp H
          obtain ⟨t1010, A140, H⟩ := H; replace H : (if t1010 = (a0.size : Int) then (some (decide ((a0.size : Int) > 0))) else (some false)) = some r := H
          have A14 := Aside0.mk A140
          clear A140; by_cases c15 : t1010 = (a0.size : Int)
          · rw [if_pos c15] at H
            have c15b0 : (t1010 == (a0.size : Int)) = true := beq_iff_eq.mpr c15
            have c15b1 : (t1010 != (a0.size : Int)) = false := bne_eq_false_iff_eq.mpr c15
            clear c15; obtain rfl := Option.some.inj H
            obtain ⟨Ao16, co16, eo16⟩ := Kd.R_slice HO_3.out; subst eo16; go_wp2_with (first | (go_at_call 46; (with_reducible refine (gemotref13_End.calls k1 a0 0 t1010 _ A14.out).mono ?_); rintro e w' ⟨rfl, ⟨nd, rfl⟩⟩; (try first | exact ⟨rfl, _, World.drewN_drewN _ _ _⟩ | exact ⟨rfl, _, Eq.trans (World.drewN_drewN _ _ _) (congrArg (World.drewN _) (Nat.add_assoc _ _ _))⟩)))
            repeat (go_quiet (first | (go_at_call 46; (with_reducible refine (gemotref13_End.calls k1 a0 0 t1010 _ A14.out).mono ?_); rintro e w' ⟨rfl, ⟨nd, rfl⟩⟩; (try first | exact ⟨rfl, _, World.drewN_drewN _ _ _⟩ | exact ⟨rfl, _, Eq.trans (World.drewN_drewN _ _ _) (congrArg (World.drewN _) (Nat.add_assoc _ _ _))⟩))); try go_wp2_with (first | (go_at_call 46; (with_reducible refine (gemotref13_End.calls k1 a0 0 t1010 _ A14.out).mono ?_); rintro e w' ⟨rfl, ⟨nd, rfl⟩⟩; (try first | exact ⟨rfl, _, World.drewN_drewN _ _ _⟩ | exact ⟨rfl, _, Eq.trans (World.drewN_drewN _ _ _) (congrArg (World.drewN _) (Nat.add_assoc _ _ _))⟩))))
            go_ret
            exact ⟨by first | rfl | (simp [errW_none, errW_some] <;> rfl) | (simp [*, errW_none, errW_some] <;> rfl), by repeat (first | (with_reducible first | exact HB.out | apply below_alloc | apply pw_below_drewN | apply below_drew1) | exact HB.out)⟩
          · rw [if_neg c15] at H
            have c15b0 : (t1010 == (a0.size : Int)) = false := beq_eq_false_iff_ne.mpr c15
            have c15b1 : (t1010 != (a0.size : Int)) = true := bne_iff_ne.mpr c15
            obtain rfl := Option.some.inj H
            obtain ⟨Ao17, co17, eo17⟩ := Kd.R_slice HO_3.out; subst eo17; go_wp2_with (first | (go_at_call 46; (with_reducible refine (gemotref13_End.calls k1 a0 0 t1010 _ A14.out).mono ?_); rintro e w' ⟨rfl, ⟨nd, rfl⟩⟩; (try first | exact ⟨rfl, _, World.drewN_drewN _ _ _⟩ | exact ⟨rfl, _, Eq.trans (World.drewN_drewN _ _ _) (congrArg (World.drewN _) (Nat.add_assoc _ _ _))⟩)))
            repeat (go_quiet (first | (go_at_call 46; (with_reducible refine (gemotref13_End.calls k1 a0 0 t1010 _ A14.out).mono ?_); rintro e w' ⟨rfl, ⟨nd, rfl⟩⟩; (try first | exact ⟨rfl, _, World.drewN_drewN _ _ _⟩ | exact ⟨rfl, _, Eq.trans (World.drewN_drewN _ _ _) (congrArg (World.drewN _) (Nat.add_assoc _ _ _))⟩))); try go_wp2_with (first | (go_at_call 46; (with_reducible refine (gemotref13_End.calls k1 a0 0 t1010 _ A14.out).mono ?_); rintro e w' ⟨rfl, ⟨nd, rfl⟩⟩; (try first | exact ⟨rfl, _, World.drewN_drewN _ _ _⟩ | exact ⟨rfl, _, Eq.trans (World.drewN_drewN _ _ _) (congrArg (World.drewN _) (Nat.add_assoc _ _ _))⟩))))
            go_ret
            exact ⟨by first | rfl | (simp [errW_none, errW_some] <;> rfl) | (simp [*, errW_none, errW_some] <;> rfl), by repeat (first | (with_reducible first | exact HB.out | apply below_alloc | apply pw_below_drewN | apply below_drew1) | exact HB.out)⟩
        · rw [if_neg c13] at H
          have c13b0 : decide ((a0.size : Int) < 100) = false := decide_eq_false c13
          have c13b1 : decide (a0.size < 100) = false := decide_eq_false (by omega)
          clear c13; obtain rfl := Option.some.inj H
          obtain ⟨Ao18, co18, eo18⟩ := Kd.R_slice HO_3.out; subst eo18; go_wp2; repeat (go_quiet (fail); try go_wp2)
          go_ret
          exact ⟨by first | rfl | (simp [errW_none, errW_some] <;> rfl) | (simp [*, errW_none, errW_some] <;> rfl), by repeat (first | (with_reducible first | exact HB.out | apply below_alloc | apply pw_below_drewN | apply below_drew1) | exact HB.out)⟩

end Go.Proofs.YtiofobdmkkbmlaaDoor.F
namespace Go.Proofs.YtiofobdmkkbmlaaDoor.F
open Go.RowKit Go.Proofs.YtiofobdmkkbmlaaDoorW.PrintWords Go.Proofs.YtiofobdmkkbmlaaDoorW.PrintLast Go.Proofs.YtiofobdmkkbmlaaDoorW.PrintMore
attribute [local go_sem] max2_int min2_int max_two min_two max_three min_three max_four min_four
set_option linter.unusedVariables false
set_option linter.unusedSimpArgs false

/-! ### gemotref13_Join: function 11 -/
def gemotref13_Join.j0 : Nat → ByteArray → Int → Bool → Option (ByteArray × Int)
  | 0, _, _, _ => none
  | k + 1, x0, x1, x22 => if x22 = true then (some ((⟨#[]⟩ : ByteArray), 1)) else ((gemotref13_place.f k x0).bind fun t1006 => ((gemotref13_put.f k x0 t1006 x1).bind fun t1007 => (some (t1007, 0))))
def gemotref13_Join.f (k : Nat) (a0 : ByteArray) (a1 : Int) : Option (ByteArray × Int) := (gemotref13_Right.f k a0).bind fun t1001 => (if t1001 = true then (if a1 < 1 then (gemotref13_Join.j0 k a0 a1 true) else (if a1 > 8 then (gemotref13_Join.j0 k a0 a1 true) else ((gemotref13_digits.f k a0).bind fun t1002 => ((gemotref10_Has.f t1002 a1).bind fun t1005 => (gemotref13_Join.j0 k a0 a1 t1005))))) else (gemotref13_Join.j0 k a0 a1 true))
theorem gemotref13_Join.mono_l : ∀ k, (∀ y0 y1 y2, LeO (gemotref13_Join.j0 k y0 y1 y2) (gemotref13_Join.j0 (k + 1) y0 y1 y2))
  | 0 => fun _ _ _ r h => by simp [gemotref13_Join.j0] at h
  | k + 1 => by
    have ih0 := gemotref13_Join.mono_l k
    · intro y0 y1 y2
      unfold gemotref13_Join.j0
      repeat' first
      | (with_reducible exact ih0 _ _ _)
      | (with_reducible exact gemotref13_Right.mono _ _)
      | (with_reducible exact gemotref13_digits.mono _ _)
      | (with_reducible exact gemotref13_place.mono _ _)
      | (with_reducible exact gemotref13_put.mono _ _ _ _)
      | (with_reducible exact LeO.refl _)
      | (with_reducible exact LeO.none _)
      | (with_reducible refine LeO.ite ?_ ?_)
      | (with_reducible refine LeO.bind ?_ (fun _ => ?_))
      | exact ih0 _ _ _
      | exact gemotref13_Right.mono _ _
      | exact gemotref13_digits.mono _ _
      | exact gemotref13_place.mono _ _
      | exact gemotref13_put.mono _ _ _ _
      | exact LeO.none _
      | refine LeO.ite ?_ ?_
      | refine LeO.bind ?_ (fun _ => ?_)
theorem gemotref13_Join.mono : ∀ a0 a1 k, LeO (gemotref13_Join.f k a0 a1) (gemotref13_Join.f (k + 1) a0 a1) := by
  intro a0 a1 k
  have ih0 := gemotref13_Join.mono_l k
  unfold gemotref13_Join.f
  repeat' first
      | (with_reducible exact ih0 _ _ _)
      | (with_reducible exact gemotref13_Right.mono _ _)
      | (with_reducible exact gemotref13_digits.mono _ _)
      | (with_reducible exact gemotref13_place.mono _ _)
      | (with_reducible exact gemotref13_put.mono _ _ _ _)
      | (with_reducible exact LeO.refl _)
      | (with_reducible exact LeO.none _)
      | (with_reducible refine LeO.ite ?_ ?_)
      | (with_reducible refine LeO.bind ?_ (fun _ => ?_))
      | exact ih0 _ _ _
      | exact gemotref13_Right.mono _ _
      | exact gemotref13_digits.mono _ _
      | exact gemotref13_place.mono _ _
      | exact gemotref13_put.mono _ _ _ _
      | exact LeO.none _
      | refine LeO.ite ?_ ?_
      | refine LeO.bind ?_ (fun _ => ?_)
set_option maxHeartbeats 8000000 in
set_option maxRecDepth 100000 in
theorem gemotref13_Join.calls (k : Nat) (a0 : ByteArray) (a1 : Int) (r1 : ByteArray) (r2 : Int) (w : World) (h : gemotref13_Join.f k a0 a1 = some (r1, r2)) :
    Calls Tryd.prog 11 #[.string a0, .int .i64 a1] w fun e w' => e = .returned (.tuple #[.string r1, .int .i64 r2]) ∧ Below w.heap.size w w' := by
  have HB := Aside0.mk (Below.refl w.heap.size w)
  have H : ((gemotref13_Right.f k a0).bind fun t1001 => (if t1001 = true then (if a1 < 1 then (gemotref13_Join.j0 k a0 a1 true) else (if a1 > 8 then (gemotref13_Join.j0 k a0 a1 true) else ((gemotref13_digits.f k a0).bind fun t1002 => ((gemotref10_Has.f t1002 a1).bind fun t1005 => (gemotref13_Join.j0 k a0 a1 t1005))))) else (gemotref13_Join.j0 k a0 a1 true))) = some (r1, r2) := h
  clear h
  have HC3 := Aside0.mk H
  clear H
  go_enter Tryd.func11, Tryd.ntmps11
  go_upto_region 1 with (fail)
  go_cut [22] (fun v22 wc => ∃ (kq : Nat) (x22_2 : Bool), v22 = .bool x22_2 ∧ Aside0 (gemotref13_Join.j0 kq a0 a1 x22_2 = some (r1, r2)) ∧ Aside0 (kq ≤ k) ∧ Aside0 (Below w.heap.size w wc))
  case first =>
    have H := HC3.out
    clear HC3
    replace H := Option.bind_eq_some_iff.mp H
    obtain ⟨t1001, A40, H⟩ := H
    replace H : (if t1001 = true then (if a1 < 1 then (gemotref13_Join.j0 k a0 a1 true) else (if a1 > 8 then (gemotref13_Join.j0 k a0 a1 true) else ((gemotref13_digits.f k a0).bind fun t1002 => ((gemotref10_Has.f t1002 a1).bind fun t1005 => (gemotref13_Join.j0 k a0 a1 t1005))))) else (gemotref13_Join.j0 k a0 a1 true)) = some (r1, r2) := H
    have A4 := Aside0.mk A40
    clear A40
    by_cases c5 : t1001 = true
    · subst c5
      have H1 : (if a1 < 1 then (gemotref13_Join.j0 k a0 a1 true) else (if a1 > 8 then (gemotref13_Join.j0 k a0 a1 true) else ((gemotref13_digits.f k a0).bind fun t1002 => ((gemotref10_Has.f t1002 a1).bind fun t1005 => (gemotref13_Join.j0 k a0 a1 t1005))))) = some (r1, r2) := by rw [if_pos rfl] at H; exact H
      clear H
      have H := H1
      clear H1
      by_cases c6 : a1 < 1
      · rw [if_pos c6] at H
        have c6b0 : decide (a1 < 1) = true := decide_eq_true c6
        clear c6
        (first | rw [c6b0] | (simp only [i64_w, i32_w]; rw [c6b0]) | skip)
        have H' := Aside0.mk H
        clear H
        go_wp2_with (first | ((with_reducible refine gate_callee (f := 17) rfl ?_); refine goesL_ (some 7) rfl rfl Tryd.func17 (by kernel_rfl) rfl #[.string a0] rfl (by simp only [List.map_toArray, List.map_cons, List.map_nil] <;> rfl) ?_; (with_reducible refine (gemotref13_Right.calls k a0 true _ A4.out).mono ?_); rintro e w7 ⟨rfl, hb⟩; refine ⟨_, rfl, ?_⟩; have n0_ := Aside0.mk (below_step (by repeat with_reducible first | exact HB.out | apply below_alloc | apply pw_below_drewN | apply below_drew1) hb); clear HB; have HB := n0_; clear n0_; (try clear hb)))
        go_meet
        case rel => exact ⟨_, (true), (by first | rfl | (simp; done) | (simp [*]; done)), H', ⟨by first | omega | exact Nat.le_refl _⟩, ⟨by repeat (first | (with_reducible first | exact HB.out | apply below_alloc | apply pw_below_drewN | apply below_drew1) | exact HB.out)⟩⟩
      · rw [if_neg c6] at H
        have c6b0 : decide (a1 < 1) = false := decide_eq_false c6
        clear c6
        (first | rw [c6b0] | (simp only [i64_w, i32_w]; rw [c6b0]) | skip)
        by_cases c8 : a1 > 8
        · rw [if_pos c8] at H
          have c8b0 : decide (8 < a1) = true := decide_eq_true c8
          clear c8
          have H' := Aside0.mk H
          clear H
          go_wp2_with (first | ((with_reducible refine gate_callee (f := 17) rfl ?_); refine goesL_ (some 7) rfl rfl Tryd.func17 (by kernel_rfl) rfl #[.string a0] rfl (by simp only [List.map_toArray, List.map_cons, List.map_nil] <;> rfl) ?_; (with_reducible refine (gemotref13_Right.calls k a0 true _ A4.out).mono ?_); rintro e w9 ⟨rfl, hb⟩; refine ⟨_, rfl, ?_⟩; have n0_ := Aside0.mk (below_step (by repeat with_reducible first | exact HB.out | apply below_alloc | apply pw_below_drewN | apply below_drew1) hb); clear HB; have HB := n0_; clear n0_; (try clear hb)))
          go_meet
          case rel => exact ⟨_, (true), (by first | rfl | (simp; done) | (simp [*]; done)), H', ⟨by first | omega | exact Nat.le_refl _⟩, ⟨by repeat (first | (with_reducible first | exact HB.out | apply below_alloc | apply pw_below_drewN | apply below_drew1) | exact HB.out)⟩⟩
        · rw [if_neg c8] at H
          have c8b0 : decide (8 < a1) = false := decide_eq_false c8
          clear c8
          replace H := Option.bind_eq_some_iff.mp H
          obtain ⟨t1002, A100, H⟩ := H
          replace H : ((gemotref10_Has.f t1002 a1).bind fun t1005 => (gemotref13_Join.j0 k a0 a1 t1005)) = some (r1, r2) := H
          have A10 := Aside0.mk A100
          clear A100
          replace H := Option.bind_eq_some_iff.mp H
          obtain ⟨t1005, A110, H⟩ := H
          replace H : (gemotref13_Join.j0 k a0 a1 t1005) = some (r1, r2) := H
          have A11 := Aside0.mk A110
          clear A110
          have H' := Aside0.mk H
          clear H
          go_wp2_with (first | ((with_reducible refine gate_callee (f := 17) rfl ?_); refine goesL_ (some 7) rfl rfl Tryd.func17 (by kernel_rfl) rfl #[.string a0] rfl (by simp only [List.map_toArray, List.map_cons, List.map_nil] <;> rfl) ?_; (with_reducible refine (gemotref13_Right.calls k a0 true _ A4.out).mono ?_); rintro e w12 ⟨rfl, hb⟩; refine ⟨_, rfl, ?_⟩; have n0_ := Aside0.mk (below_step (by repeat with_reducible first | exact HB.out | apply below_alloc | apply pw_below_drewN | apply below_drew1) hb); clear HB; have HB := n0_; clear n0_; (try clear hb)) | (go_at_call 39; (with_reducible refine (gemotref13_digits.calls k a0 t1002 _ A10.out).mono ?_); rintro e w13 ⟨v1003, rfl, ho0, hb⟩; have n0_ := Aside0.mk (Kd.R_lower ho0 (below_size (by repeat with_reducible first | exact HB.out | apply below_alloc | apply pw_below_drewN | apply below_drew1))); have n1_ := Aside0.mk (below_step (by repeat with_reducible first | exact HB.out | apply below_alloc | apply pw_below_drewN | apply below_drew1) hb); clear HB; have HO1004 := n0_; have HB := n1_; clear n0_ n1_; (try clear hb); (try clear ho0); obtain ⟨Ao14, co14, eo14⟩ := Kd.R_slice HO1004.out; subst eo14) | (go_at_call 29; (with_reducible refine (gemotref10_Has.calls _ _ t1002 a1 t1005 _ ?side1 ?side2 A11.out).mono ?_); (case side1 => repeat (first | exact (Kd.R_reads' HO1004.out).2.2 | (with_reducible refine Kd.C_alloc ?_ _) | (with_reducible refine Kd.C_drewN ?_ _) | (with_reducible refine Kd.C_drew ?_))); (case side2 => exact (Kd.R_reads' HO1004.out).2.1); rintro e w' ⟨rfl, ⟨nd, rfl⟩⟩))
          go_meet
          case rel => exact ⟨_, (t1005), (by first | rfl | (simp; done) | (simp [*]; done)), H', ⟨by first | omega | exact Nat.le_refl _⟩, ⟨by repeat (first | (with_reducible first | exact HB.out | apply below_alloc | apply pw_below_drewN | apply below_drew1) | exact HB.out)⟩⟩
    · replace c5 := Bool.eq_false_iff.mpr c5
      subst c5
      have H1 : (gemotref13_Join.j0 k a0 a1 true) = some (r1, r2) := by rw [if_neg (show ¬ (false = true) by decide)] at H; exact H
      clear H
      have H := H1
      clear H1
      have H' := Aside0.mk H
      clear H
      go_wp2_with (first | ((with_reducible refine gate_callee (f := 17) rfl ?_); refine goesL_ (some 7) rfl rfl Tryd.func17 (by kernel_rfl) rfl #[.string a0] rfl (by simp only [List.map_toArray, List.map_cons, List.map_nil] <;> rfl) ?_; (with_reducible refine (gemotref13_Right.calls k a0 false _ A4.out).mono ?_); rintro e w15 ⟨rfl, hb⟩; refine ⟨_, rfl, ?_⟩; have n0_ := Aside0.mk (below_step (by repeat with_reducible first | exact HB.out | apply below_alloc | apply pw_below_drewN | apply below_drew1) hb); clear HB; have HB := n0_; clear n0_; (try clear hb)))
      go_meet
      case rel => exact ⟨_, (true), (by first | rfl | (simp; done) | (simp [*]; done)), H', ⟨by first | omega | exact Nat.le_refl _⟩, ⟨by repeat (first | (with_reducible first | exact HB.out | apply below_alloc | apply pw_below_drewN | apply below_drew1) | exact HB.out)⟩⟩
  case rest =>
    clear HC3
    try clear c1
    try clear p2
    try clear c5
    try clear c6
    try clear c6b0
    try clear c8
    try clear c8b0
    try clear c11
    obtain ⟨kq, x22_2, rfl, HA, HJ2, HB⟩ := hcut
    cases kq with
    | zero => exact absurd HA.out (by simp [gemotref13_Join.j0])
    | succ kj2 =>
      have H := HA.out
      clear HA
      simp only [gemotref13_Join.j0] at H
      by_cases c16 : x22_2 = true
      · subst c16
        have H1 : (some ((⟨#[]⟩ : ByteArray), 1)) = some (r1, r2) := by rw [if_pos rfl] at H; exact H
        clear H
        have H := H1
        clear H1
        simp only [Option.some.injEq, Prod.mk.injEq] at H
        obtain ⟨rfl, rfl⟩ := H
        go_wp2
        go_ret2
        exact ⟨by first | rfl | (simp [errW_none, errW_some] <;> rfl) | (simp [*, errW_none, errW_some] <;> rfl), by repeat (first | (with_reducible first | exact HB.out | apply below_alloc | apply pw_below_drewN | apply below_drew1) | exact HB.out)⟩
      · replace c16 := Bool.eq_false_iff.mpr c16
        subst c16
        have H1 : ((gemotref13_place.f kj2 a0).bind fun t1006 => ((gemotref13_put.f kj2 a0 t1006 a1).bind fun t1007 => (some (t1007, 0)))) = some (r1, r2) := by rw [if_neg (show ¬ (false = true) by decide)] at H; exact H
        clear H
        have H := H1
        clear H1
        replace H := Option.bind_eq_some_iff.mp H
        obtain ⟨t1006, A170, H⟩ := H
        replace H : ((gemotref13_put.f kj2 a0 t1006 a1).bind fun t1007 => (some (t1007, 0))) = some (r1, r2) := H
        have A17 := Aside0.mk A170
        clear A170
        replace H := Option.bind_eq_some_iff.mp H
        obtain ⟨t1007, A180, H⟩ := H
        replace H : (some (t1007, 0)) = some (r1, r2) := H
        have A18 := Aside0.mk A180
        clear A180
        simp only [Option.some.injEq, Prod.mk.injEq] at H
        obtain ⟨rfl, rfl⟩ := H
        go_wp2_with (first | ((with_reducible refine gate_callee (f := 41) rfl ?_); refine goesL_ (some 25) rfl rfl Tryd.func41 (by kernel_rfl) rfl #[.string a0] rfl (by simp only [List.map_toArray, List.map_cons, List.map_nil] <;> rfl) ?_; (with_reducible refine (gemotref13_place.calls kj2 a0 t1006 _ A17.out).mono ?_); rintro e w19 ⟨rfl, hb⟩; refine ⟨_, rfl, ?_⟩; have n0_ := Aside0.mk (below_step (by repeat with_reducible first | exact HB.out | apply below_alloc | apply pw_below_drewN | apply below_drew1) hb); clear HB; have HB := n0_; clear n0_; (try clear hb)) | ((with_reducible refine gate_callee (f := 40) rfl ?_); refine goesL_ (some 27) rfl rfl Tryd.func40 (by kernel_rfl) rfl #[.string a0, .int .i64 t1006, .int .i64 a1] rfl (by simp only [List.map_toArray, List.map_cons, List.map_nil] <;> rfl) ?_; (with_reducible refine (gemotref13_put.calls kj2 a0 t1006 a1 t1007 _ A18.out).mono ?_); rintro e w20 ⟨rfl, hb⟩; refine ⟨_, rfl, ?_⟩; have n0_ := Aside0.mk (below_step (by repeat with_reducible first | exact HB.out | apply below_alloc | apply pw_below_drewN | apply below_drew1) hb); clear HB; have HB := n0_; clear n0_; (try clear hb)))
        go_ret2
        exact ⟨by first | rfl | (simp [errW_none, errW_some] <;> rfl) | (simp [*, errW_none, errW_some] <;> rfl), by repeat (first | (with_reducible first | exact HB.out | apply below_alloc | apply pw_below_drewN | apply below_drew1) | exact HB.out)⟩

end Go.Proofs.YtiofobdmkkbmlaaDoor.F
namespace Go.Proofs.YtiofobdmkkbmlaaDoor.F
open Go.RowKit Go.Proofs.YtiofobdmkkbmlaaDoorW.PrintWords Go.Proofs.YtiofobdmkkbmlaaDoorW.PrintLast Go.Proofs.YtiofobdmkkbmlaaDoorW.PrintMore
attribute [local go_sem] max2_int min2_int max_two min_two max_three min_three max_four min_four
set_option linter.unusedVariables false
set_option linter.unusedSimpArgs false

/-! ### gemotref13_Leave: function 13 -/
def gemotref13_Leave.f (k : Nat) (a0 : ByteArray) (a1 : Int) : Option (ByteArray × Int) := (gemotref13_Right.f k a0).bind fun t1001 => (if t1001 = true then ((gemotref13_digits.f k a0).bind fun t1002 => ((gemotref10_Has.f t1002 a1).bind fun t1005 => (if t1005 = true then (if (a0.size : Int) = 1 then (some ((⟨#[]⟩ : ByteArray), 8)) else ((gemotref13_out.f k a0 a1).bind fun t1006 => (some (t1006, 0)))) else (some ((⟨#[]⟩ : ByteArray), 8))))) else (some ((⟨#[]⟩ : ByteArray), 1)))
theorem gemotref13_Leave.mono : ∀ a0 a1 k, LeO (gemotref13_Leave.f k a0 a1) (gemotref13_Leave.f (k + 1) a0 a1) := by
  intro a0 a1 k
  unfold gemotref13_Leave.f
  repeat' first
      | (with_reducible exact gemotref13_Right.mono _ _)
      | (with_reducible exact gemotref13_digits.mono _ _)
      | (with_reducible exact gemotref13_out.mono _ _ _)
      | (with_reducible exact LeO.refl _)
      | (with_reducible exact LeO.none _)
      | (with_reducible refine LeO.ite ?_ ?_)
      | (with_reducible refine LeO.bind ?_ (fun _ => ?_))
      | exact gemotref13_Right.mono _ _
      | exact gemotref13_digits.mono _ _
      | exact gemotref13_out.mono _ _ _
      | exact LeO.none _
      | refine LeO.ite ?_ ?_
      | refine LeO.bind ?_ (fun _ => ?_)
set_option maxHeartbeats 8000000 in
set_option maxRecDepth 100000 in
theorem gemotref13_Leave.calls (k : Nat) (a0 : ByteArray) (a1 : Int) (r1 : ByteArray) (r2 : Int) (w : World) (h : gemotref13_Leave.f k a0 a1 = some (r1, r2)) :
    Calls Tryd.prog 13 #[.string a0, .int .i64 a1] w fun e w' => e = .returned (.tuple #[.string r1, .int .i64 r2]) ∧ Below w.heap.size w w' := by
  have HB := Aside0.mk (Below.refl w.heap.size w)
  have H : ((gemotref13_Right.f k a0).bind fun t1001 => (if t1001 = true then ((gemotref13_digits.f k a0).bind fun t1002 => ((gemotref10_Has.f t1002 a1).bind fun t1005 => (if t1005 = true then (if (a0.size : Int) = 1 then (some ((⟨#[]⟩ : ByteArray), 8)) else ((gemotref13_out.f k a0 a1).bind fun t1006 => (some (t1006, 0)))) else (some ((⟨#[]⟩ : ByteArray), 8))))) else (some ((⟨#[]⟩ : ByteArray), 1)))) = some (r1, r2) := h
  clear h
  replace H := Option.bind_eq_some_iff.mp H
  obtain ⟨t1001, A30, H⟩ := H
  replace H : (if t1001 = true then ((gemotref13_digits.f k a0).bind fun t1002 => ((gemotref10_Has.f t1002 a1).bind fun t1005 => (if t1005 = true then (if (a0.size : Int) = 1 then (some ((⟨#[]⟩ : ByteArray), 8)) else ((gemotref13_out.f k a0 a1).bind fun t1006 => (some (t1006, 0)))) else (some ((⟨#[]⟩ : ByteArray), 8))))) else (some ((⟨#[]⟩ : ByteArray), 1))) = some (r1, r2) := H
  have A3 := Aside0.mk A30
  clear A30
  by_cases c4 : t1001 = true
  · subst c4
    have H1 : ((gemotref13_digits.f k a0).bind fun t1002 => ((gemotref10_Has.f t1002 a1).bind fun t1005 => (if t1005 = true then (if (a0.size : Int) = 1 then (some ((⟨#[]⟩ : ByteArray), 8)) else ((gemotref13_out.f k a0 a1).bind fun t1006 => (some (t1006, 0)))) else (some ((⟨#[]⟩ : ByteArray), 8))))) = some (r1, r2) := by rw [if_pos rfl] at H; exact H
    clear H
    have H := H1
    clear H1
    replace H := Option.bind_eq_some_iff.mp H
    obtain ⟨t1002, A50, H⟩ := H
    replace H : ((gemotref10_Has.f t1002 a1).bind fun t1005 => (if t1005 = true then (if (a0.size : Int) = 1 then (some ((⟨#[]⟩ : ByteArray), 8)) else ((gemotref13_out.f k a0 a1).bind fun t1006 => (some (t1006, 0)))) else (some ((⟨#[]⟩ : ByteArray), 8)))) = some (r1, r2) := H
    have A5 := Aside0.mk A50
    clear A50
    replace H := Option.bind_eq_some_iff.mp H
    obtain ⟨t1005, A60, H⟩ := H
    replace H : (if t1005 = true then (if (a0.size : Int) = 1 then (some ((⟨#[]⟩ : ByteArray), 8)) else ((gemotref13_out.f k a0 a1).bind fun t1006 => (some (t1006, 0)))) else (some ((⟨#[]⟩ : ByteArray), 8))) = some (r1, r2) := H
    have A6 := Aside0.mk A60
    clear A60
    by_cases c7 : t1005 = true
    · subst c7
      have H1 : (if (a0.size : Int) = 1 then (some ((⟨#[]⟩ : ByteArray), 8)) else ((gemotref13_out.f k a0 a1).bind fun t1006 => (some (t1006, 0)))) = some (r1, r2) := by rw [if_pos rfl] at H; exact H
      clear H
      have H := H1
      clear H1
      by_cases c8 : (a0.size : Int) = 1
      · rw [if_pos c8] at H
        have c8b0 : ((a0.size : Int) == 1) = true := beq_iff_eq.mpr c8
        have c8b1 : ((a0.size : Int) != 1) = false := bne_eq_false_iff_eq.mpr c8
        clear c8
        simp only [Option.some.injEq, Prod.mk.injEq] at H
        obtain ⟨rfl, rfl⟩ := H
        go_enter Tryd.func13, Tryd.ntmps13
        go_wp2_with (first | ((with_reducible refine gate_callee (f := 17) rfl ?_); refine goesL_ (some 7) rfl rfl Tryd.func17 (by kernel_rfl) rfl #[.string a0] rfl (by simp only [List.map_toArray, List.map_cons, List.map_nil] <;> rfl) ?_; (with_reducible refine (gemotref13_Right.calls k a0 true _ A3.out).mono ?_); rintro e w9 ⟨rfl, hb⟩; refine ⟨_, rfl, ?_⟩; have n0_ := Aside0.mk (below_step (by repeat with_reducible first | exact HB.out | apply below_alloc | apply pw_below_drewN | apply below_drew1) hb); clear HB; have HB := n0_; clear n0_; (try clear hb)) | ((with_reducible refine gate_callee (f := 39) rfl ?_); refine goesL_ (some 10) rfl rfl Tryd.func39 (by kernel_rfl) rfl #[.string a0] rfl (by simp only [List.map_toArray, List.map_cons, List.map_nil] <;> rfl) ?_; (with_reducible refine (gemotref13_digits.calls k a0 t1002 _ A5.out).mono ?_); rintro e w10 ⟨v1003, rfl, ho0, hb⟩; refine ⟨_, rfl, ?_⟩; have n0_ := Aside0.mk (Kd.R_lower ho0 (below_size (by repeat with_reducible first | exact HB.out | apply below_alloc | apply pw_below_drewN | apply below_drew1))); have n1_ := Aside0.mk (below_step (by repeat with_reducible first | exact HB.out | apply below_alloc | apply pw_below_drewN | apply below_drew1) hb); clear HB; have HO1004 := n0_; have HB := n1_; clear n0_ n1_; (try clear hb); (try clear ho0); obtain ⟨Ao11, co11, eo11⟩ := Kd.R_slice HO1004.out; subst eo11) | ((with_reducible refine gate_callee (f := 29) rfl ?_); refine goesL_ (some 12) rfl rfl Tryd.func29 (by kernel_rfl) rfl #[.slice Ao11 t1002.length co11, .int .i64 a1] rfl (by simp only [List.map_toArray, List.map_cons, List.map_nil] <;> rfl) ?_; (with_reducible refine (gemotref10_Has.calls _ _ t1002 a1 true _ ?side1 ?side2 A6.out).mono ?_); (case side1 => repeat (first | exact (Kd.R_reads' HO1004.out).2.2 | (with_reducible refine Kd.C_alloc ?_ _) | (with_reducible refine Kd.C_drewN ?_ _) | (with_reducible refine Kd.C_drew ?_))); (case side2 => exact (Kd.R_reads' HO1004.out).2.1); rintro e w' ⟨rfl, ⟨nd, rfl⟩⟩; refine ⟨_, rfl, ?_⟩))
        go_ret2
        exact ⟨by first | rfl | (simp [errW_none, errW_some] <;> rfl) | (simp [*, errW_none, errW_some] <;> rfl), by repeat (first | (with_reducible first | exact HB.out | apply below_alloc | apply pw_below_drewN | apply below_drew1) | exact HB.out)⟩
      · rw [if_neg c8] at H
        have c8b0 : ((a0.size : Int) == 1) = false := beq_eq_false_iff_ne.mpr c8
        have c8b1 : ((a0.size : Int) != 1) = true := bne_iff_ne.mpr c8
        replace H := Option.bind_eq_some_iff.mp H
        obtain ⟨t1006, A120, H⟩ := H
        replace H : (some (t1006, 0)) = some (r1, r2) := H
        have A12 := Aside0.mk A120
        clear A120
        simp only [Option.some.injEq, Prod.mk.injEq] at H
        obtain ⟨rfl, rfl⟩ := H
        go_enter Tryd.func13, Tryd.ntmps13
        go_wp2_with (first | ((with_reducible refine gate_callee (f := 17) rfl ?_); refine goesL_ (some 7) rfl rfl Tryd.func17 (by kernel_rfl) rfl #[.string a0] rfl (by simp only [List.map_toArray, List.map_cons, List.map_nil] <;> rfl) ?_; (with_reducible refine (gemotref13_Right.calls k a0 true _ A3.out).mono ?_); rintro e w13 ⟨rfl, hb⟩; refine ⟨_, rfl, ?_⟩; have n0_ := Aside0.mk (below_step (by repeat with_reducible first | exact HB.out | apply below_alloc | apply pw_below_drewN | apply below_drew1) hb); clear HB; have HB := n0_; clear n0_; (try clear hb)) | ((with_reducible refine gate_callee (f := 39) rfl ?_); refine goesL_ (some 10) rfl rfl Tryd.func39 (by kernel_rfl) rfl #[.string a0] rfl (by simp only [List.map_toArray, List.map_cons, List.map_nil] <;> rfl) ?_; (with_reducible refine (gemotref13_digits.calls k a0 t1002 _ A5.out).mono ?_); rintro e w14 ⟨v1003, rfl, ho0, hb⟩; refine ⟨_, rfl, ?_⟩; have n0_ := Aside0.mk (Kd.R_lower ho0 (below_size (by repeat with_reducible first | exact HB.out | apply below_alloc | apply pw_below_drewN | apply below_drew1))); have n1_ := Aside0.mk (below_step (by repeat with_reducible first | exact HB.out | apply below_alloc | apply pw_below_drewN | apply below_drew1) hb); clear HB; have HO1004 := n0_; have HB := n1_; clear n0_ n1_; (try clear hb); (try clear ho0); obtain ⟨Ao15, co15, eo15⟩ := Kd.R_slice HO1004.out; subst eo15) | ((with_reducible refine gate_callee (f := 29) rfl ?_); refine goesL_ (some 12) rfl rfl Tryd.func29 (by kernel_rfl) rfl #[.slice Ao15 t1002.length co15, .int .i64 a1] rfl (by simp only [List.map_toArray, List.map_cons, List.map_nil] <;> rfl) ?_; (with_reducible refine (gemotref10_Has.calls _ _ t1002 a1 true _ ?side1 ?side2 A6.out).mono ?_); (case side1 => repeat (first | exact (Kd.R_reads' HO1004.out).2.2 | (with_reducible refine Kd.C_alloc ?_ _) | (with_reducible refine Kd.C_drewN ?_ _) | (with_reducible refine Kd.C_drew ?_))); (case side2 => exact (Kd.R_reads' HO1004.out).2.1); rintro e w' ⟨rfl, ⟨nd, rfl⟩⟩; refine ⟨_, rfl, ?_⟩) | ((with_reducible refine gate_callee (f := 43) rfl ?_); refine goesL_ (some 21) rfl rfl Tryd.func43 (by kernel_rfl) rfl #[.string a0, .int .i64 a1] rfl (by simp only [List.map_toArray, List.map_cons, List.map_nil] <;> rfl) ?_; (with_reducible refine (gemotref13_out.calls k a0 a1 t1006 _ A12.out).mono ?_); rintro e w' ⟨rfl, ⟨nd, rfl⟩⟩; refine ⟨_, rfl, ?_⟩))
        go_ret2
        exact ⟨by first | rfl | (simp [errW_none, errW_some] <;> rfl) | (simp [*, errW_none, errW_some] <;> rfl), by repeat (first | (with_reducible first | exact HB.out | apply below_alloc | apply pw_below_drewN | apply below_drew1) | exact HB.out)⟩
    · replace c7 := Bool.eq_false_iff.mpr c7
      subst c7
      have H1 : (some ((⟨#[]⟩ : ByteArray), 8)) = some (r1, r2) := by rw [if_neg (show ¬ (false = true) by decide)] at H; exact H
      clear H
      have H := H1
      clear H1
      simp only [Option.some.injEq, Prod.mk.injEq] at H
      obtain ⟨rfl, rfl⟩ := H
      go_enter Tryd.func13, Tryd.ntmps13
      go_wp2_with (first | ((with_reducible refine gate_callee (f := 17) rfl ?_); refine goesL_ (some 7) rfl rfl Tryd.func17 (by kernel_rfl) rfl #[.string a0] rfl (by simp only [List.map_toArray, List.map_cons, List.map_nil] <;> rfl) ?_; (with_reducible refine (gemotref13_Right.calls k a0 true _ A3.out).mono ?_); rintro e w16 ⟨rfl, hb⟩; refine ⟨_, rfl, ?_⟩; have n0_ := Aside0.mk (below_step (by repeat with_reducible first | exact HB.out | apply below_alloc | apply pw_below_drewN | apply below_drew1) hb); clear HB; have HB := n0_; clear n0_; (try clear hb)) | ((with_reducible refine gate_callee (f := 39) rfl ?_); refine goesL_ (some 10) rfl rfl Tryd.func39 (by kernel_rfl) rfl #[.string a0] rfl (by simp only [List.map_toArray, List.map_cons, List.map_nil] <;> rfl) ?_; (with_reducible refine (gemotref13_digits.calls k a0 t1002 _ A5.out).mono ?_); rintro e w17 ⟨v1003, rfl, ho0, hb⟩; refine ⟨_, rfl, ?_⟩; have n0_ := Aside0.mk (Kd.R_lower ho0 (below_size (by repeat with_reducible first | exact HB.out | apply below_alloc | apply pw_below_drewN | apply below_drew1))); have n1_ := Aside0.mk (below_step (by repeat with_reducible first | exact HB.out | apply below_alloc | apply pw_below_drewN | apply below_drew1) hb); clear HB; have HO1004 := n0_; have HB := n1_; clear n0_ n1_; (try clear hb); (try clear ho0); obtain ⟨Ao18, co18, eo18⟩ := Kd.R_slice HO1004.out; subst eo18) | ((with_reducible refine gate_callee (f := 29) rfl ?_); refine goesL_ (some 12) rfl rfl Tryd.func29 (by kernel_rfl) rfl #[.slice Ao18 t1002.length co18, .int .i64 a1] rfl (by simp only [List.map_toArray, List.map_cons, List.map_nil] <;> rfl) ?_; (with_reducible refine (gemotref10_Has.calls _ _ t1002 a1 false _ ?side1 ?side2 A6.out).mono ?_); (case side1 => repeat (first | exact (Kd.R_reads' HO1004.out).2.2 | (with_reducible refine Kd.C_alloc ?_ _) | (with_reducible refine Kd.C_drewN ?_ _) | (with_reducible refine Kd.C_drew ?_))); (case side2 => exact (Kd.R_reads' HO1004.out).2.1); rintro e w' ⟨rfl, ⟨nd, rfl⟩⟩; refine ⟨_, rfl, ?_⟩))
      go_ret2
      exact ⟨by first | rfl | (simp [errW_none, errW_some] <;> rfl) | (simp [*, errW_none, errW_some] <;> rfl), by repeat (first | (with_reducible first | exact HB.out | apply below_alloc | apply pw_below_drewN | apply below_drew1) | exact HB.out)⟩
  · replace c4 := Bool.eq_false_iff.mpr c4
    subst c4
    have H1 : (some ((⟨#[]⟩ : ByteArray), 1)) = some (r1, r2) := by rw [if_neg (show ¬ (false = true) by decide)] at H; exact H
    clear H
    have H := H1
    clear H1
    simp only [Option.some.injEq, Prod.mk.injEq] at H
    obtain ⟨rfl, rfl⟩ := H
    go_enter Tryd.func13, Tryd.ntmps13
    go_wp2_with (first | ((with_reducible refine gate_callee (f := 17) rfl ?_); refine goesL_ (some 7) rfl rfl Tryd.func17 (by kernel_rfl) rfl #[.string a0] rfl (by simp only [List.map_toArray, List.map_cons, List.map_nil] <;> rfl) ?_; (with_reducible refine (gemotref13_Right.calls k a0 false _ A3.out).mono ?_); rintro e w19 ⟨rfl, hb⟩; refine ⟨_, rfl, ?_⟩; have n0_ := Aside0.mk (below_step (by repeat with_reducible first | exact HB.out | apply below_alloc | apply pw_below_drewN | apply below_drew1) hb); clear HB; have HB := n0_; clear n0_; (try clear hb)))
    go_ret2
    exact ⟨by first | rfl | (simp [errW_none, errW_some] <;> rfl) | (simp [*, errW_none, errW_some] <;> rfl), by repeat (first | (with_reducible first | exact HB.out | apply below_alloc | apply pw_below_drewN | apply below_drew1) | exact HB.out)⟩

end Go.Proofs.YtiofobdmkkbmlaaDoor.F
namespace Go.Proofs.YtiofobdmkkbmlaaDoor.F
open Go.RowKit Go.Proofs.YtiofobdmkkbmlaaDoorW.PrintWords Go.Proofs.YtiofobdmkkbmlaaDoorW.PrintLast Go.Proofs.YtiofobdmkkbmlaaDoorW.PrintMore
attribute [local go_sem] max2_int min2_int max_two min_two max_three min_three max_four min_four
set_option linter.unusedVariables false
set_option linter.unusedSimpArgs false

/-! ### gemotref13_Leaf: function 15 -/
def gemotref13_Leaf.f (a0 : Int) : Option (ByteArray × Int) := if a0 < 1 then (some ((⟨#[]⟩ : ByteArray), 1)) else (if a0 > 8 then (some ((⟨#[]⟩ : ByteArray), 1)) else ((gemotref13_leaf.f a0).bind fun t1001 => (some (t1001, 0))))
set_option maxHeartbeats 8000000 in
set_option maxRecDepth 100000 in
theorem gemotref13_Leaf.calls (a0 : Int) (r1 : ByteArray) (r2 : Int) (w : World) (h : gemotref13_Leaf.f a0 = some (r1, r2)) :
    Calls Tryd.prog 15 #[.int .i64 a0] w fun e w' => e = .returned (.tuple #[.string r1, .int .i64 r2]) ∧ Drawn0 w w' := by
  have H : (if a0 < 1 then (some ((⟨#[]⟩ : ByteArray), 1)) else (if a0 > 8 then (some ((⟨#[]⟩ : ByteArray), 1)) else ((gemotref13_leaf.f a0).bind fun t1001 => (some (t1001, 0))))) = some (r1, r2) := h
  clear h
  by_cases c2 : a0 < 1
  · rw [if_pos c2] at H
    have c2b0 : decide (a0 < 1) = true := decide_eq_true c2
    clear c2
    simp only [Option.some.injEq, Prod.mk.injEq] at H
    obtain ⟨rfl, rfl⟩ := H
    go_enter Tryd.func15, Tryd.ntmps15
    go_wp2
    go_ret2
    exact ⟨by first | rfl | (simp; done) | (simp [*]; done), by repeat (first | exact Drawn0.refl _ | apply Drawn0.step)⟩
  · rw [if_neg c2] at H
    have c2b0 : decide (a0 < 1) = false := decide_eq_false c2
    clear c2
    by_cases c3 : a0 > 8
    · rw [if_pos c3] at H
      have c3b0 : decide (8 < a0) = true := decide_eq_true c3
      clear c3
      simp only [Option.some.injEq, Prod.mk.injEq] at H
      obtain ⟨rfl, rfl⟩ := H
      go_enter Tryd.func15, Tryd.ntmps15
      go_wp2
      go_ret2
      exact ⟨by first | rfl | (simp; done) | (simp [*]; done), by repeat (first | exact Drawn0.refl _ | apply Drawn0.step)⟩
    · rw [if_neg c3] at H
      have c3b0 : decide (8 < a0) = false := decide_eq_false c3
      clear c3
      replace H := Option.bind_eq_some_iff.mp H
      obtain ⟨t1001, A40, H⟩ := H
      replace H : (some (t1001, 0)) = some (r1, r2) := H
      have A4 := Aside0.mk A40
      clear A40
      simp only [Option.some.injEq, Prod.mk.injEq] at H
      obtain ⟨rfl, rfl⟩ := H
      go_enter Tryd.func15, Tryd.ntmps15
      go_wp2_with (first | ((with_reducible refine gate_callee (f := 45) rfl ?_); refine goesL_ (some 11) rfl rfl Tryd.func45 (by kernel_rfl) rfl #[.int .i64 a0] rfl (by simp only [List.map_toArray, List.map_cons, List.map_nil] <;> rfl) ?_; (with_reducible refine (gemotref13_leaf.calls a0 t1001 _ A4.out).mono ?_); rintro e w' ⟨rfl, ⟨nd, rfl⟩⟩; refine ⟨_, rfl, ?_⟩))
      go_ret2
      exact ⟨by first | rfl | (simp; done) | (simp [*]; done), by repeat (first | exact Drawn0.refl _ | apply Drawn0.step)⟩

end Go.Proofs.YtiofobdmkkbmlaaDoor.F
namespace Go.Proofs.YtiofobdmkkbmlaaDoor.F
open Go.RowKit Go.Proofs.YtiofobdmkkbmlaaDoorW.PrintWords Go.Proofs.YtiofobdmkkbmlaaDoorW.PrintLast Go.Proofs.YtiofobdmkkbmlaaDoorW.PrintMore
attribute [local go_sem] max2_int min2_int max_two min_two max_three min_three max_four min_four
set_option linter.unusedVariables false
set_option linter.unusedSimpArgs false

/-! ### gemotref13_Members: function 20 -/
def gemotref13_Members.l0 : Nat → ByteArray → List Int → Int → Option (List Int)
  | 0, _, _, _ => none
  | k + 1, x0, x3, x4 => if x4 ≤ 8 then ((gemotref13_digits.f k x0).bind fun t1002 => ((gemotref10_Has.f t1002 x4).bind fun t1005 => (if t1005 = true then (if x3.length < 17592186044416 then (gemotref13_Members.l0 k x0 (x3 ++ [x4]) (wrap64 (x4 + 1))) else (none)) else (gemotref13_Members.l0 k x0 x3 (wrap64 (x4 + 1)))))) else (some x3)
def gemotref13_Members.f (k : Nat) (a0 : ByteArray) : Option (List Int) := (gemotref13_Right.f k a0).bind fun t1001 => (if t1001 = true then (gemotref13_Members.l0 k a0 ([] : List Int) 1) else (some ([] : List Int)))
theorem gemotref13_Members.mono_l : ∀ k, (∀ y0 y1 y2, LeO (gemotref13_Members.l0 k y0 y1 y2) (gemotref13_Members.l0 (k + 1) y0 y1 y2))
  | 0 => fun _ _ _ r h => by simp [gemotref13_Members.l0] at h
  | k + 1 => by
    have ih0 := gemotref13_Members.mono_l k
    · intro y0 y1 y2; unfold gemotref13_Members.l0
      repeat' first
      | (with_reducible exact ih0 _ _ _)
      | (with_reducible exact gemotref13_Right.mono _ _)
      | (with_reducible exact gemotref13_digits.mono _ _)
      | (with_reducible exact LeO.refl _)
      | (with_reducible exact LeO.none _)
      | (with_reducible refine LeO.ite ?_ ?_)
      | (with_reducible refine LeO.bind ?_ (fun _ => ?_))
      | exact ih0 _ _ _
      | exact gemotref13_Right.mono _ _
      | exact gemotref13_digits.mono _ _
      | exact LeO.none _
      | refine LeO.ite ?_ ?_
      | refine LeO.bind ?_ (fun _ => ?_)
theorem gemotref13_Members.mono : ∀ a0 k, LeO (gemotref13_Members.f k a0) (gemotref13_Members.f (k + 1) a0) := by
  intro a0 k; have ih0 := gemotref13_Members.mono_l k
  unfold gemotref13_Members.f
  repeat' first
      | (with_reducible exact ih0 _ _ _)
      | (with_reducible exact gemotref13_Right.mono _ _)
      | (with_reducible exact gemotref13_digits.mono _ _)
      | (with_reducible exact LeO.refl _)
      | (with_reducible exact LeO.none _)
      | (with_reducible refine LeO.ite ?_ ?_)
      | (with_reducible refine LeO.bind ?_ (fun _ => ?_))
      | exact ih0 _ _ _
      | exact gemotref13_Right.mono _ _
      | exact gemotref13_digits.mono _ _
      | exact LeO.none _
      | refine LeO.ite ?_ ?_
      | refine LeO.bind ?_ (fun _ => ?_)
set_option maxHeartbeats 8000000 in
set_option maxRecDepth 100000 in
theorem gemotref13_Members.calls (k : Nat) (a0 : ByteArray) (r : List Int) (w : World) (h : gemotref13_Members.f k a0 = some r) :
    Calls Tryd.prog 20 #[.string a0] w fun e w' => ∃ v0_ : Value, e = .returned (v0_) ∧ Kd.R (Kd.int .i64) 3 w' w.heap.size (fun _ => True) v0_ r ∧ Below w.heap.size w w' := by
  have HB := Aside0.mk (Below.refl w.heap.size w)
  have H : ((gemotref13_Right.f k a0).bind fun t1001 => (if t1001 = true then (gemotref13_Members.l0 k a0 ([] : List Int) 1) else (some ([] : List Int)))) = some r := h
  clear h; replace H := Option.bind_eq_some_iff.mp H
  obtain ⟨t1001, A20, H⟩ := H; replace H : (if t1001 = true then (gemotref13_Members.l0 k a0 ([] : List Int) 1) else (some ([] : List Int))) = some r := H
  have A2 := Aside0.mk A20
  clear A20; by_cases c3 : t1001 = true
  · subst c3; have H1 : (gemotref13_Members.l0 k a0 ([] : List Int) 1) = some r := by rw [if_pos rfl] at H; exact H
    clear H; have H := H1; clear H1; have H' := Aside0.mk H
    clear H; go_enter Tryd.func20, Tryd.ntmps20
    go_wp2_with (first | ((with_reducible refine gate_callee (f := 17) rfl ?_); refine goesL_ (some 6) rfl rfl Tryd.func17 (by kernel_rfl) rfl #[.string a0] rfl (by simp only [List.map_toArray, List.map_cons, List.map_nil] <;> rfl) ?_; (with_reducible refine (gemotref13_Right.calls k a0 true _ A2.out).mono ?_); rintro e w4 ⟨rfl, hb⟩; refine ⟨_, rfl, ?_⟩; have n0_ := Aside0.mk (below_step (by repeat with_reducible first | exact HB.out | apply below_alloc | apply pw_below_drewN | apply below_drew1) hb); clear HB; have HB := n0_; clear n0_; (try clear hb)))
    go_loopg [3, 4] k (fun kq v3 v4 w' => ∃ (x3_1 : List Int) (x4_1 : Int), v4 = .int .i64 x4_1 ∧ Aside0 (gemotref13_Members.l0 kq a0 x3_1 x4_1 = some r) ∧ Aside0 (kq ≤ k) ∧ Aside0 (Kd.R (Kd.int .i64) 3 w' w.heap.size (fun _ => True) v3 x3_1) ∧ Aside0 (Below w.heap.size w w'))
    case atStart => exact ⟨(([] : List Int)), (1), (by first | rfl | (simp; done) | (simp [*]; done)), H', ⟨Nat.le_refl _⟩, ⟨by first | exact Kd.R_nil _ _ _ _ _ | exact Kd.N_nil _ _ _ _ _ | exact Kd.V_nil _ _ _ _ _ | exact Kd.Q_nil _ _ _ _ _ | exact Kd.S_nil _ _ _ _ _⟩, ⟨by repeat (first | (with_reducible first | exact HB.out | apply below_alloc | apply pw_below_drewN | apply below_drew1) | exact HB.out)⟩⟩
    case round =>
      clear H'; try clear c1
      try clear c2
      try clear p2
      try clear c3
      obtain ⟨x3_1, x4_1, rfl, HA, HK1, HO_3, HB⟩ := hrel; cases gk with
      | zero => exact absurd HA.out (by simp [gemotref13_Members.l0])
      | succ k1 =>
        have H := HA.out; clear HA; simp only [gemotref13_Members.l0] at H; by_cases c5 : x4_1 ≤ 8
        · rw [if_pos c5] at H
          have c5b0 : decide (x4_1 ≤ 8) = true := decide_eq_true c5
          clear c5; replace H := Option.bind_eq_some_iff.mp H
          obtain ⟨t1002, A60, H⟩ := H; replace H : ((gemotref10_Has.f t1002 x4_1).bind fun t1005 => (if t1005 = true then (if x3_1.length < 17592186044416 then (gemotref13_Members.l0 k1 a0 (x3_1 ++ [x4_1]) (wrap64 (x4_1 + 1))) else (none)) else (gemotref13_Members.l0 k1 a0 x3_1 (wrap64 (x4_1 + 1))))) = some r := H
          have A6 := Aside0.mk A60
          clear A60; replace H := Option.bind_eq_some_iff.mp H
          obtain ⟨t1005, A70, H⟩ := H; replace H : (if t1005 = true then (if x3_1.length < 17592186044416 then (gemotref13_Members.l0 k1 a0 (x3_1 ++ [x4_1]) (wrap64 (x4_1 + 1))) else (none)) else (gemotref13_Members.l0 k1 a0 x3_1 (wrap64 (x4_1 + 1)))) = some r := H
          have A7 := Aside0.mk A70
          clear A70; by_cases c8 : t1005 = true
          · subst c8; have H1 : (if x3_1.length < 17592186044416 then (gemotref13_Members.l0 k1 a0 (x3_1 ++ [x4_1]) (wrap64 (x4_1 + 1))) else (none)) = some r := by rw [if_pos rfl] at H; exact H
            clear H; have H := H1; clear H1; by_cases c9 : x3_1.length < 17592186044416
            · rw [if_pos c9] at H
              have LMc9 := Aside0.mk c9
              clear c9; obtain ⟨y1006, hy1006⟩ : ∃ y_ : List Int, y_ = (x3_1 ++ [x4_1]) := ⟨_, rfl⟩
              replace H : (gemotref13_Members.l0 k1 a0 y1006 (wrap64 (x4_1 + 1))) = some r := by first | (rw [hy1006]; with_reducible exact H) | (have H2_ := (Option.bind_some _ _).symm.trans H; rw [hy1006]; with_reducible exact H2_) | (have H2_ := (Option.bind_some _ _).symm.trans H; with_reducible exact H2_) | with_reducible exact H | (rw [hy1006]; exact H) | exact H
              have Ny1006 := Aside0.mk hy1006
              clear hy1006; have H' := Aside0.mk H
              clear H; go_wp2_with (first | ((with_reducible refine gate_callee (f := 39) rfl ?_); refine goesL_ (some 13) rfl rfl Tryd.func39 (by kernel_rfl) rfl #[.string a0] rfl (by simp only [List.map_toArray, List.map_cons, List.map_nil] <;> rfl) ?_; (with_reducible refine (gemotref13_digits.calls k1 a0 t1002 _ A6.out).mono ?_); rintro e w10 ⟨v1003, rfl, ho0, hb⟩; refine ⟨_, rfl, ?_⟩; have n0_ := Aside0.mk (Kd.R_elder' (by (with_reducible repeat (first | apply Kd.R_alloc | apply Kd.R_drewN | apply Kd.R_drew)); exact HO_3.out) (Kd.R_base ho0) hb); have n1_ := Aside0.mk (Kd.R_lower (Kd.R_new' ho0 (Kd.R_lt (by (with_reducible repeat (first | apply Kd.R_alloc | apply Kd.R_drewN | apply Kd.R_drew)); exact HO_3.out))) (below_size (by repeat with_reducible first | exact HB.out | apply below_alloc | apply pw_below_drewN | apply below_drew1))); have n2_ := Aside0.mk (below_step (by repeat with_reducible first | exact HB.out | apply below_alloc | apply pw_below_drewN | apply below_drew1) hb); clear HO_3; clear HB; have HO_3 := n0_; have HO1004 := n1_; have HB := n2_; clear n0_ n1_ n2_; (try clear hb); (try clear ho0); obtain ⟨Ao11, co11, eo11⟩ := Kd.R_slice HO1004.out; subst eo11) | ((with_reducible refine gate_callee (f := 29) rfl ?_); refine goesL_ (some 15) rfl rfl Tryd.func29 (by kernel_rfl) rfl #[.slice Ao11 t1002.length co11, .int .i64 x4_1] rfl (by simp only [List.map_toArray, List.map_cons, List.map_nil] <;> rfl) ?_; (with_reducible refine (gemotref10_Has.calls _ _ t1002 x4_1 true _ ?side1 ?side2 A7.out).mono ?_); (case side1 => repeat (first | exact (Kd.R_reads' HO1004.out).2.2 | (with_reducible refine Kd.C_alloc ?_ _) | (with_reducible refine Kd.C_drewN ?_ _) | (with_reducible refine Kd.C_drew ?_))); (case side2 => exact (Kd.R_reads' HO1004.out).2.1); rintro e w' ⟨rfl, ⟨nd, rfl⟩⟩; refine ⟨_, rfl, ?_⟩) | ((with_reducible refine gate_builtin (b := .append) (xs := #[.tmp 16, .tmp 18]) rfl ?_); at_builtin; refine Kd.R_append (Kd.int .i64) (w0 := w) w.heap.size rfl (.tmp 16) (.tmp 18) 34 3 (.int .i64 0) 8 rfl Tryd.underlying34 info3 rfl (by decide) (by omega) u3 x3_1 x4_1 [.int .i64 x4_1] (fun k_ => some k_ ≠ (.slice Ao11 t1002.length co11 : Value).ownBlock) (fun _ => False) rfl rfl ?aP (fun _ hk => hk.elim) ?aF ?aO ?aB ?aS ?aL ?_; (case aP => exact rfl); (case aB => exact (by repeat with_reducible first | exact HB.out | apply below_alloc | apply pw_below_drewN | apply below_drew1)); (case aF => exact (fun k_ hk => Kd.fresh' (Kd.R_lt (by (with_reducible repeat (first | apply Kd.R_alloc | apply Kd.R_drewN | apply Kd.R_drew)); exact HO1004.out)) k_ hk)); (case aO => exact (by (with_reducible repeat (first | apply Kd.R_alloc | apply Kd.R_drewN | apply Kd.R_drew)); exact Kd.R_mono HO_3.out (fun _ hk => hk.2))); (case aS => exact (below_size (by repeat with_reducible first | exact HB.out | apply below_alloc | apply pw_below_drewN | apply below_drew1))); (case aL => have := LMc9.out; omega); intro v1007 w12 ho hb hg hat; rw [← Ny1006.out] at ho; have n0_ := Aside0.mk (Kd.R_after (ok := (fun _ => True)) (by (with_reducible repeat (first | apply Kd.R_alloc | apply Kd.R_drewN | apply Kd.R_drew)); exact HO1004.out) hg hat); have n1_ := Aside0.mk (hb); have n2_ := Aside0.mk (ho); clear HO1004; clear HB; clear HO_3; have HO1004 := n0_; have HB := n1_; have HO1008 := n2_; clear n0_ n1_ n2_; clear ho hb hg hat))
              go_roundg k1
              case measure => have := HK1.out; omega
              case rel => exact ⟨(y1006), (wrap64 (x4_1 + 1)), (by first | rfl | (simp; done) | (simp [*]; done)), H', ⟨by have := HK1.out; omega⟩, ⟨by (with_reducible repeat (first | apply Kd.R_alloc | apply Kd.R_drewN | apply Kd.R_drew)); exact Kd.R_mono HO1008.out (fun _ hk => trivial)⟩, ⟨by repeat (first | (with_reducible first | exact HB.out | apply below_alloc | apply pw_below_drewN | apply below_drew1) | exact HB.out)⟩⟩
            · rw [if_neg c9] at H
              exact absurd H (by simp)
          · replace c8 := Bool.eq_false_iff.mpr c8
            subst c8; have H1 : (gemotref13_Members.l0 k1 a0 x3_1 (wrap64 (x4_1 + 1))) = some r := by rw [if_neg (show ¬ (false = true) by decide)] at H; exact H
            clear H; have H := H1; clear H1; have H' := Aside0.mk H
            clear H; go_wp2_with (first | ((with_reducible refine gate_callee (f := 39) rfl ?_); refine goesL_ (some 13) rfl rfl Tryd.func39 (by kernel_rfl) rfl #[.string a0] rfl (by simp only [List.map_toArray, List.map_cons, List.map_nil] <;> rfl) ?_; (with_reducible refine (gemotref13_digits.calls k1 a0 t1002 _ A6.out).mono ?_); rintro e w13 ⟨v1003, rfl, ho0, hb⟩; refine ⟨_, rfl, ?_⟩; have n0_ := Aside0.mk (Kd.R_elder' (by (with_reducible repeat (first | apply Kd.R_alloc | apply Kd.R_drewN | apply Kd.R_drew)); exact HO_3.out) (Kd.R_base ho0) hb); have n1_ := Aside0.mk (Kd.R_lower (Kd.R_new' ho0 (Kd.R_lt (by (with_reducible repeat (first | apply Kd.R_alloc | apply Kd.R_drewN | apply Kd.R_drew)); exact HO_3.out))) (below_size (by repeat with_reducible first | exact HB.out | apply below_alloc | apply pw_below_drewN | apply below_drew1))); have n2_ := Aside0.mk (below_step (by repeat with_reducible first | exact HB.out | apply below_alloc | apply pw_below_drewN | apply below_drew1) hb); clear HO_3; clear HB; have HO_3 := n0_; have HO1004 := n1_; have HB := n2_; clear n0_ n1_ n2_; (try clear hb); (try clear ho0); obtain ⟨Ao14, co14, eo14⟩ := Kd.R_slice HO1004.out; subst eo14) | ((with_reducible refine gate_callee (f := 29) rfl ?_); refine goesL_ (some 15) rfl rfl Tryd.func29 (by kernel_rfl) rfl #[.slice Ao14 t1002.length co14, .int .i64 x4_1] rfl (by simp only [List.map_toArray, List.map_cons, List.map_nil] <;> rfl) ?_; (with_reducible refine (gemotref10_Has.calls _ _ t1002 x4_1 false _ ?side1 ?side2 A7.out).mono ?_); (case side1 => repeat (first | exact (Kd.R_reads' HO1004.out).2.2 | (with_reducible refine Kd.C_alloc ?_ _) | (with_reducible refine Kd.C_drewN ?_ _) | (with_reducible refine Kd.C_drew ?_))); (case side2 => exact (Kd.R_reads' HO1004.out).2.1); rintro e w' ⟨rfl, ⟨nd, rfl⟩⟩; refine ⟨_, rfl, ?_⟩))
            go_roundg k1
            case measure => have := HK1.out; omega
            case rel => exact ⟨(x3_1), (wrap64 (x4_1 + 1)), (by first | rfl | (simp; done) | (simp [*]; done)), H', ⟨by have := HK1.out; omega⟩, ⟨by (with_reducible repeat (first | apply Kd.R_alloc | apply Kd.R_drewN | apply Kd.R_drew)); exact Kd.R_mono HO_3.out (fun _ hk => trivial)⟩, ⟨by repeat (first | (with_reducible first | exact HB.out | apply below_alloc | apply pw_below_drewN | apply below_drew1) | exact HB.out)⟩⟩
        · rw [if_neg c5] at H
          have c5b0 : decide (x4_1 ≤ 8) = false := decide_eq_false c5
          clear c5; obtain rfl := Option.some.inj H
          go_wp2; go_ret
          exact ⟨_, by first | rfl | (simp [errW_none, errW_some] <;> rfl) | (simp [*, errW_none, errW_some] <;> rfl), by (with_reducible repeat (first | apply Kd.R_alloc | apply Kd.R_drewN | apply Kd.R_drew)); exact HO_3.out, by repeat (first | (with_reducible first | exact HB.out | apply below_alloc | apply pw_below_drewN | apply below_drew1) | exact HB.out)⟩
  · replace c3 := Bool.eq_false_iff.mpr c3
    subst c3; have H1 : (some ([] : List Int)) = some r := by rw [if_neg (show ¬ (false = true) by decide)] at H; exact H
    clear H; have H := H1; clear H1; obtain rfl := Option.some.inj H
    go_enter Tryd.func20, Tryd.ntmps20
    go_wp2_with (first | ((with_reducible refine gate_callee (f := 17) rfl ?_); refine goesL_ (some 6) rfl rfl Tryd.func17 (by kernel_rfl) rfl #[.string a0] rfl (by simp only [List.map_toArray, List.map_cons, List.map_nil] <;> rfl) ?_; (with_reducible refine (gemotref13_Right.calls k a0 false _ A2.out).mono ?_); rintro e w15 ⟨rfl, hb⟩; refine ⟨_, rfl, ?_⟩; have n0_ := Aside0.mk (below_step (by repeat with_reducible first | exact HB.out | apply below_alloc | apply pw_below_drewN | apply below_drew1) hb); clear HB; have HB := n0_; clear n0_; (try clear hb)))
    go_ret
    exact ⟨_, by first | rfl | (simp [errW_none, errW_some] <;> rfl) | (simp [*, errW_none, errW_some] <;> rfl), by first | exact Kd.R_nil _ _ _ _ _ | exact Kd.N_nil _ _ _ _ _ | exact Kd.V_nil _ _ _ _ _ | exact Kd.Q_nil _ _ _ _ _ | exact Kd.S_nil _ _ _ _ _, by repeat (first | (with_reducible first | exact HB.out | apply below_alloc | apply pw_below_drewN | apply below_drew1) | exact HB.out)⟩

end Go.Proofs.YtiofobdmkkbmlaaDoor.F
namespace Go.Proofs.YtiofobdmkkbmlaaDoor.F
open Go.RowKit Go.Proofs.YtiofobdmkkbmlaaDoorW.PrintWords Go.Proofs.YtiofobdmkkbmlaaDoorW.PrintLast Go.Proofs.YtiofobdmkkbmlaaDoorW.PrintMore
attribute [local go_sem] max2_int min2_int max_two min_two max_three min_three max_four min_four
set_option linter.unusedVariables false
set_option linter.unusedSimpArgs false

/-! ### gemotref13_Depth: function 22 -/
def gemotref13_Depth.f (k : Nat) (a0 : ByteArray) : Option (Int) := (gemotref13_Right.f k a0).bind fun t1001 => (if t1001 = true then ((gemotref13_deep.f k a0).bind fun t1002 => (some t1002)) else (some (-1)))
theorem gemotref13_Depth.mono : ∀ a0 k, LeO (gemotref13_Depth.f k a0) (gemotref13_Depth.f (k + 1) a0) := by
  intro a0 k
  unfold gemotref13_Depth.f
  repeat' first
      | (with_reducible exact gemotref13_Right.mono _ _)
      | (with_reducible exact gemotref13_deep.mono _ _)
      | (with_reducible exact LeO.refl _)
      | (with_reducible exact LeO.none _)
      | (with_reducible refine LeO.ite ?_ ?_)
      | (with_reducible refine LeO.bind ?_ (fun _ => ?_))
      | exact gemotref13_Right.mono _ _
      | exact gemotref13_deep.mono _ _
      | exact LeO.none _
      | refine LeO.ite ?_ ?_
      | refine LeO.bind ?_ (fun _ => ?_)
set_option maxHeartbeats 8000000 in
set_option maxRecDepth 100000 in
theorem gemotref13_Depth.calls (k : Nat) (a0 : ByteArray) (r : Int) (w : World) (h : gemotref13_Depth.f k a0 = some r) :
    Calls Tryd.prog 22 #[.string a0] w fun e w' => e = .returned (.int .i64 r) ∧ Below w.heap.size w w' := by
  have HB := Aside0.mk (Below.refl w.heap.size w)
  have H : ((gemotref13_Right.f k a0).bind fun t1001 => (if t1001 = true then ((gemotref13_deep.f k a0).bind fun t1002 => (some t1002)) else (some (-1)))) = some r := h
  clear h
  replace H := Option.bind_eq_some_iff.mp H
  obtain ⟨t1001, A20, H⟩ := H
  replace H : (if t1001 = true then ((gemotref13_deep.f k a0).bind fun t1002 => (some t1002)) else (some (-1))) = some r := H
  have A2 := Aside0.mk A20
  clear A20
  by_cases c3 : t1001 = true
  · subst c3
    have H1 : ((gemotref13_deep.f k a0).bind fun t1002 => (some t1002)) = some r := by rw [if_pos rfl] at H; exact H
    clear H
    have H := H1
    clear H1
    replace H := Option.bind_eq_some_iff.mp H
    obtain ⟨t1002, A40, H⟩ := H
    replace H : (some t1002) = some r := H
    have A4 := Aside0.mk A40
    clear A40
    obtain rfl := Option.some.inj H
    go_enter Tryd.func22, Tryd.ntmps22
    go_wp2_with (first | ((with_reducible refine gate_callee (f := 17) rfl ?_); refine goesL_ (some 4) rfl rfl Tryd.func17 (by kernel_rfl) rfl #[.string a0] rfl (by simp only [List.map_toArray, List.map_cons, List.map_nil] <;> rfl) ?_; (with_reducible refine (gemotref13_Right.calls k a0 true _ A2.out).mono ?_); rintro e w5 ⟨rfl, hb⟩; refine ⟨_, rfl, ?_⟩; have n0_ := Aside0.mk (below_step (by repeat with_reducible first | exact HB.out | apply below_alloc | apply pw_below_drewN | apply below_drew1) hb); clear HB; have HB := n0_; clear n0_; (try clear hb)) | ((with_reducible refine gate_callee (f := 47) rfl ?_); refine goesL_ (some 7) rfl rfl Tryd.func47 (by kernel_rfl) rfl #[.string a0] rfl (by simp only [List.map_toArray, List.map_cons, List.map_nil] <;> rfl) ?_; (with_reducible refine (gemotref13_deep.calls k a0 t1002 _ A4.out).mono ?_); rintro e w6 ⟨rfl, hb⟩; refine ⟨_, rfl, ?_⟩; have n0_ := Aside0.mk (below_step (by repeat with_reducible first | exact HB.out | apply below_alloc | apply pw_below_drewN | apply below_drew1) hb); clear HB; have HB := n0_; clear n0_; (try clear hb)))
    go_ret
    exact ⟨by first | rfl | (simp [errW_none, errW_some] <;> rfl) | (simp [*, errW_none, errW_some] <;> rfl), by repeat (first | (with_reducible first | exact HB.out | apply below_alloc | apply pw_below_drewN | apply below_drew1) | exact HB.out)⟩
  · replace c3 := Bool.eq_false_iff.mpr c3
    subst c3
    have H1 : (some (-1)) = some r := by rw [if_neg (show ¬ (false = true) by decide)] at H; exact H
    clear H
    have H := H1
    clear H1
    obtain rfl := Option.some.inj H
    go_enter Tryd.func22, Tryd.ntmps22
    go_wp2_with (first | ((with_reducible refine gate_callee (f := 17) rfl ?_); refine goesL_ (some 4) rfl rfl Tryd.func17 (by kernel_rfl) rfl #[.string a0] rfl (by simp only [List.map_toArray, List.map_cons, List.map_nil] <;> rfl) ?_; (with_reducible refine (gemotref13_Right.calls k a0 false _ A2.out).mono ?_); rintro e w7 ⟨rfl, hb⟩; refine ⟨_, rfl, ?_⟩; have n0_ := Aside0.mk (below_step (by repeat with_reducible first | exact HB.out | apply below_alloc | apply pw_below_drewN | apply below_drew1) hb); clear HB; have HB := n0_; clear n0_; (try clear hb)))
    go_ret
    exact ⟨by first | rfl | (simp [errW_none, errW_some] <;> rfl) | (simp [*, errW_none, errW_some] <;> rfl), by repeat (first | (with_reducible first | exact HB.out | apply below_alloc | apply pw_below_drewN | apply below_drew1) | exact HB.out)⟩

end Go.Proofs.YtiofobdmkkbmlaaDoor.F
