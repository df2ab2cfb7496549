import Derived.Test.YtagceackfnkifaaMViewTellsF0
import Derived.Test.YtagceackfnkifaaMViewTellsF44
namespace Go.Proofs.Ytagceackfnkifaa.F
open Go.RowKit Go.Proofs.YtagceackfnkifaaW.PrintWords Go.Proofs.YtagceackfnkifaaW.PrintLast Go.Proofs.YtagceackfnkifaaW.PrintMore
attribute [local go_sem] max2_int min2_int max_two min_two max_three min_three max_four min_four
set_option linter.unusedVariables false
set_option linter.unusedSimpArgs false
def gemotref10_Row_p.l0 : Nat → List Int → Int → Option (Bool)
  | 0, _, _ => none
  | k + 1, x0, x3 => if x3 < (x0.length : Int) then (if 0 ≤ x3 then (if (rd x0 x3) < 1 then (some false) else (if (rd x0 x3) > 8 then (some false) else (if x3 > 0 then (if 0 ≤ (wrap64 (x3 - 1)) then (if (wrap64 (x3 - 1)) < (x0.length : Int) then (if (rd x0 x3) ≤ (rd x0 (wrap64 (x3 - 1))) then (some false) else (gemotref10_Row_p.l0 k x0 (wrap64 (x3 + 1)))) else (none)) else (none)) else (gemotref10_Row_p.l0 k x0 (wrap64 (x3 + 1)))))) else (none)) else (some (decide ((x0.length : Int) > 0)))
def gemotref10_Row_p.f (k : Nat) (l0 : List Int) : Option (Bool) := gemotref10_Row_p.l0 k l0 0
set_option maxHeartbeats 8000000 in
set_option maxRecDepth 100000 in
theorem gemotref10_Row_p.calls (k : Nat) (A0 : Option Addr) (c0 : Nat) (l0 : List Int) (r : Bool) (w : World) (hr0 : Kd.C (Kd.int .i64) w A0 l0.length l0) (hc0 : l0.length ≤ c0) (h : gemotref10_Row_p.f k l0 = some r) :
    Calls Try.prog 45 #[.slice A0 l0.length c0] w fun e w' => e = .returned (.bool r) ∧ Drawn0 w w' := by
  have HR0 := Aside0.mk hr0
  have HC0 := Aside0.mk hc0
  clear hr0 hc0; have H : (gemotref10_Row_p.l0 k l0 0) = some r := h
  clear h; have H' := Aside0.mk H
  clear H; go_enter Try.func45, Try.ntmps45
  go_wp2; repeat (go_quiet (fail); try go_wp2)
  go_loopg [3] k (fun kq v3 w' => ∃ (x3_1 : Int), v3 = .int .i64 x3_1 ∧ Aside0 (gemotref10_Row_p.l0 kq l0 x3_1 = some r) ∧ Aside0 (kq ≤ k) ∧ Drawn0 w w')
  case atStart => exact ⟨(0), (by first | rfl | (simp; done) | (simp [*]; done)), H', ⟨Nat.le_refl _⟩, by repeat (first | exact Drawn0.refl _ | apply Drawn0.step)⟩
  case round =>
    clear H'; obtain ⟨x3_1, rfl, HA, HK1, ⟨m1, rfl⟩⟩ := hrel
    cases gk with
    | zero => exact absurd HA.out (by simp [gemotref10_Row_p.l0])
    | succ k1 =>
      have H := HA.out; clear HA; simp only [gemotref10_Row_p.l0] at H; by_cases c2 : x3_1 < (l0.length : Int)
      · rw [if_pos c2] at H
        have c2b0 : decide (x3_1 < (l0.length : Int)) = true := decide_eq_true c2
        clear c2; by_cases c3 : 0 ≤ x3_1
        · rw [if_pos c3] at H
          have c3b0 : decide (0 ≤ x3_1) = true := decide_eq_true c3
          clear c3; by_cases c4 : (rd l0 x3_1) < 1
          · rw [if_pos c4] at H
            have c4b0 : decide ((rd l0 x3_1) < 1) = true := decide_eq_true c4
            clear c4; obtain rfl := Option.some.inj H
            have p1001 : 0 ≤ (x3_1 : Int) := of_decide_eq_true (by first | (with_reducible assumption) | assumption)
            have q1001 : x3_1 < (l0.length : Int) := of_decide_eq_true (by first | (with_reducible assumption) | assumption)
            obtain ⟨ad1001, e1001, hx1001_0⟩ := Kd.at_int HR0.out x3_1 p1001 q1001
            cases e1001
            replace p1001 := eq_true p1001
            replace q1001 := eq_true q1001
            go_wp2; repeat (go_quiet (fail); try go_wp2)
            go_ret
            exact ⟨by first | rfl | (simp; done) | (simp [*]; done), by repeat (first | exact Drawn0.refl _ | apply Drawn0.step)⟩
          · rw [if_neg c4] at H
            have c4b0 : decide ((rd l0 x3_1) < 1) = false := decide_eq_false c4
            clear c4; by_cases c5 : (rd l0 x3_1) > 8
            · rw [if_pos c5] at H
              have c5b0 : decide (8 < (rd l0 x3_1)) = true := decide_eq_true c5
              clear c5; obtain rfl := Option.some.inj H
              have p1001 : 0 ≤ (x3_1 : Int) := of_decide_eq_true (by first | (with_reducible assumption) | assumption)
              have q1001 : x3_1 < (l0.length : Int) := of_decide_eq_true (by first | (with_reducible assumption) | assumption)
              obtain ⟨ad1001, e1001, hx1001_0⟩ := Kd.at_int HR0.out x3_1 p1001 q1001
              cases e1001
              replace p1001 := eq_true p1001
              replace q1001 := eq_true q1001
              have p1002 : 0 ≤ (x3_1 : Int) := of_decide_eq_true (by first | (with_reducible assumption) | assumption)
              have q1002 : x3_1 < (l0.length : Int) := of_decide_eq_true (by first | (with_reducible assumption) | assumption)
              obtain ⟨ad1002, e1002, hx1002_0⟩ := Kd.at_int HR0.out x3_1 p1002 q1002
              obtain rfl : ad1001 = ad1002 := (by injection e1002)
              replace p1002 := eq_true p1002
              replace q1002 := eq_true q1002
              go_wp2; repeat (go_quiet (fail); try go_wp2)
              go_ret
              exact ⟨by first | rfl | (simp; done) | (simp [*]; done), by repeat (first | exact Drawn0.refl _ | apply Drawn0.step)⟩
            · rw [if_neg c5] at H
              have c5b0 : decide (8 < (rd l0 x3_1)) = false := decide_eq_false c5
              clear c5; by_cases c6 : x3_1 > 0
              · rw [if_pos c6] at H
                have c6b0 : decide (0 < x3_1) = true := decide_eq_true c6
                clear c6; obtain ⟨ji7, hji7⟩ : ∃ j_ : Int, (wrap64 (x3_1 - 1)) = j_ := ⟨_, rfl⟩
                replace H : (if 0 ≤ (ji7) then (if (ji7) < (l0.length : Int) then (if (rd l0 x3_1) ≤ (rd l0 (ji7)) then (some false) else (gemotref10_Row_p.l0 k1 l0 (wrap64 (x3_1 + 1)))) else (none)) else (none)) = some r := by first | (rw [hji7] at H; exact H) | (simp only [hji7] at H ⊢; exact H)
                have hji7w : (IntKind.i64.wrap (x3_1 - 1)) = ji7 := (i64_w _).trans hji7
                by_cases c8 : 0 ≤ (ji7)
                · rw [if_pos c8] at H
                  have c8b0 : decide (0 ≤ (ji7)) = true := decide_eq_true c8
                  clear c8; by_cases c9 : (ji7) < (l0.length : Int)
                  · rw [if_pos c9] at H
                    have c9b0 : decide ((ji7) < (l0.length : Int)) = true := decide_eq_true c9
                    clear c9; by_cases c10 : (rd l0 x3_1) ≤ (rd l0 (ji7))
                    · rw [if_pos c10] at H
                      have c10b0 : decide ((rd l0 x3_1) ≤ (rd l0 (ji7))) = true := decide_eq_true c10
                      clear c10; obtain rfl := Option.some.inj H
                      have p1001 : 0 ≤ (x3_1 : Int) := of_decide_eq_true (by first | (with_reducible assumption) | assumption)
                      have q1001 : x3_1 < (l0.length : Int) := of_decide_eq_true (by first | (with_reducible assumption) | assumption)
                      obtain ⟨ad1001, e1001, hx1001_0⟩ := Kd.at_int HR0.out x3_1 p1001 q1001
                      cases e1001
                      replace p1001 := eq_true p1001
                      replace q1001 := eq_true q1001
                      have p1002 : 0 ≤ (x3_1 : Int) := of_decide_eq_true (by first | (with_reducible assumption) | assumption)
                      have q1002 : x3_1 < (l0.length : Int) := of_decide_eq_true (by first | (with_reducible assumption) | assumption)
                      obtain ⟨ad1002, e1002, hx1002_0⟩ := Kd.at_int HR0.out x3_1 p1002 q1002
                      obtain rfl : ad1001 = ad1002 := (by injection e1002)
                      replace p1002 := eq_true p1002
                      replace q1002 := eq_true q1002
                      have p1003 : 0 ≤ (x3_1 : Int) := of_decide_eq_true (by first | (with_reducible assumption) | assumption)
                      have q1003 : x3_1 < (l0.length : Int) := of_decide_eq_true (by first | (with_reducible assumption) | assumption)
                      obtain ⟨ad1003, e1003, hx1003_0⟩ := Kd.at_int HR0.out x3_1 p1003 q1003
                      obtain rfl : ad1001 = ad1003 := (by injection e1003)
                      replace p1003 := eq_true p1003
                      replace q1003 := eq_true q1003
                      have p1004 : 0 ≤ ((ji7) : Int) := of_decide_eq_true (by first | (with_reducible assumption) | assumption)
                      have q1004 : (ji7) < (l0.length : Int) := of_decide_eq_true (by first | (with_reducible assumption) | assumption)
                      obtain ⟨ad1004, e1004, hx1004_0⟩ := Kd.at_int HR0.out (ji7) p1004 q1004
                      obtain rfl : ad1001 = ad1004 := (by injection e1004)
                      replace p1004 := eq_true p1004
                      replace q1004 := eq_true q1004
                      go_wp2; repeat (go_quiet (fail); try go_wp2)
                      go_ret
                      exact ⟨by first | rfl | (simp; done) | (simp only [← hji7] <;> (first | rfl | simp)) | (simp [*]; done), by repeat (first | exact Drawn0.refl _ | apply Drawn0.step)⟩
                    · rw [if_neg c10] at H
                      have c10b0 : decide ((rd l0 x3_1) ≤ (rd l0 (ji7))) = false := decide_eq_false c10
                      clear c10; have H' := Aside0.mk H
                      clear H; have p1001 : 0 ≤ (x3_1 : Int) := of_decide_eq_true (by first | (with_reducible assumption) | assumption)
                      have q1001 : x3_1 < (l0.length : Int) := of_decide_eq_true (by first | (with_reducible assumption) | assumption)
                      obtain ⟨ad1001, e1001, hx1001_0⟩ := Kd.at_int HR0.out x3_1 p1001 q1001
                      cases e1001
                      replace p1001 := eq_true p1001
                      replace q1001 := eq_true q1001
                      have p1002 : 0 ≤ (x3_1 : Int) := of_decide_eq_true (by first | (with_reducible assumption) | assumption)
                      have q1002 : x3_1 < (l0.length : Int) := of_decide_eq_true (by first | (with_reducible assumption) | assumption)
                      obtain ⟨ad1002, e1002, hx1002_0⟩ := Kd.at_int HR0.out x3_1 p1002 q1002
                      obtain rfl : ad1001 = ad1002 := (by injection e1002)
                      replace p1002 := eq_true p1002
                      replace q1002 := eq_true q1002
                      have p1003 : 0 ≤ (x3_1 : Int) := of_decide_eq_true (by first | (with_reducible assumption) | assumption)
                      have q1003 : x3_1 < (l0.length : Int) := of_decide_eq_true (by first | (with_reducible assumption) | assumption)
                      obtain ⟨ad1003, e1003, hx1003_0⟩ := Kd.at_int HR0.out x3_1 p1003 q1003
                      obtain rfl : ad1001 = ad1003 := (by injection e1003)
                      replace p1003 := eq_true p1003
                      replace q1003 := eq_true q1003
                      have p1004 : 0 ≤ ((ji7) : Int) := of_decide_eq_true (by first | (with_reducible assumption) | assumption)
                      have q1004 : (ji7) < (l0.length : Int) := of_decide_eq_true (by first | (with_reducible assumption) | assumption)
                      obtain ⟨ad1004, e1004, hx1004_0⟩ := Kd.at_int HR0.out (ji7) p1004 q1004
                      obtain rfl : ad1001 = ad1004 := (by injection e1004)
                      replace p1004 := eq_true p1004
                      replace q1004 := eq_true q1004
                      go_wp2; repeat (go_quiet (fail); try go_wp2)
                      go_roundg k1
                      case measure => have := HK1.out; omega
                      case rel => exact ⟨(wrap64 (x3_1 + 1)), (by first | rfl | (simp; done) | (simp [*]; done)), H', ⟨by have := HK1.out; omega⟩, by repeat (first | exact Drawn0.refl _ | apply Drawn0.step)⟩
                  · rw [if_neg c9] at H
                    exact absurd H (by simp)
                · rw [if_neg c8] at H
                  exact absurd H (by simp)
              · rw [if_neg c6] at H
                have c6b0 : decide (0 < x3_1) = false := decide_eq_false c6
                clear c6; have H' := Aside0.mk H
                clear H; have p1001 : 0 ≤ (x3_1 : Int) := of_decide_eq_true (by first | (with_reducible assumption) | assumption)
                have q1001 : x3_1 < (l0.length : Int) := of_decide_eq_true (by first | (with_reducible assumption) | assumption)
                obtain ⟨ad1001, e1001, hx1001_0⟩ := Kd.at_int HR0.out x3_1 p1001 q1001
                cases e1001
                replace p1001 := eq_true p1001
                replace q1001 := eq_true q1001
                have p1002 : 0 ≤ (x3_1 : Int) := of_decide_eq_true (by first | (with_reducible assumption) | assumption)
                have q1002 : x3_1 < (l0.length : Int) := of_decide_eq_true (by first | (with_reducible assumption) | assumption)
                obtain ⟨ad1002, e1002, hx1002_0⟩ := Kd.at_int HR0.out x3_1 p1002 q1002
                obtain rfl : ad1001 = ad1002 := (by injection e1002)
                replace p1002 := eq_true p1002
                replace q1002 := eq_true q1002
                go_wp2; repeat (go_quiet (fail); try go_wp2)
                go_roundg k1
                case measure => have := HK1.out; omega
                case rel => exact ⟨(wrap64 (x3_1 + 1)), (by first | rfl | (simp; done) | (simp [*]; done)), H', ⟨by have := HK1.out; omega⟩, by repeat (first | exact Drawn0.refl _ | apply Drawn0.step)⟩
        · rw [if_neg c3] at H
          exact absurd H (by simp)
      · rw [if_neg c2] at H
        have c2b0 : decide (x3_1 < (l0.length : Int)) = false := decide_eq_false c2
        clear c2; obtain rfl := Option.some.inj H
        go_wp2; repeat (go_quiet (fail); try go_wp2)
        go_ret
        exact ⟨by first | rfl | (simp; done) | (simp [*]; done), by repeat (first | exact Drawn0.refl _ | apply Drawn0.step)⟩
def gemotref10_Row.f (l : List Int) : Option Bool := if l.length < 1099511627776 then some (upB 0 l) else none
theorem gemotref10_Row.loop (l : List Int) (hl : l.length < 1099511627776) : ∀ (d k i : Nat) (last : Int), i + d = l.length → d < k → 0 ≤ last → (i = 0 ∧ last = 0 ∨ 0 < i ∧ 0 < last ∧ last = rd l ((i - 1 : Nat) : Int)) → gemotref10_Row_p.l0 k l i = some (upB last (l.drop i)) := by
  intro d; induction d with
  | zero =>
    intro k i last hi hk h0 hlast; obtain ⟨k, rfl⟩ : ∃ m, k = m + 1 := ⟨k - 1, by omega⟩
    simp only [gemotref10_Row_p.l0]; rw [if_neg (by omega), List.drop_of_length_le (by omega), upB]
    exact congrArg some (decide_eq_decide.mpr (by omega))
  | succ d ih =>
    intro k i last hi hk h0 hlast; obtain ⟨k, rfl⟩ : ∃ m, k = m + 1 := ⟨k - 1, by omega⟩
    have hlt : i < l.length := by omega
    have hd : l.drop i = rd l i :: l.drop (i + 1) := by
      rw [List.drop_eq_getElem_cons hlt]
      simp [rd, List.getD_eq_getElem?_getD, hlt]
    have hw : wrap64 ((i : Int) + 1) = ((i + 1 : Nat) : Int) := by unfold wrap64; omega
    simp only [gemotref10_Row_p.l0]; rw [if_pos (by omega), if_pos (by omega), hd, upB, hw]
    by_cases c1 : rd l i < 1
    · rw [if_pos c1, if_pos (by omega)]
    rw [if_neg c1]
    by_cases c2 : rd l i > 8
    · rw [if_pos c2, if_pos c2]
      split <;> rfl
    rw [if_neg c2, if_neg c2]
    rcases hlast with ⟨rfl, rfl⟩ | ⟨hp, hp2, rfl⟩
    · rw [if_neg (by omega), if_neg (by omega), ih k 1 (rd l ((0 : Nat) : Int)) (by omega) (by omega) (by omega) (.inr ⟨by omega, by omega, rfl⟩)]
    · have hw2 : wrap64 ((i : Int) - 1) = ((i - 1 : Nat) : Int) := by unfold wrap64; omega
      rw [if_pos (by omega), hw2, if_pos (by omega), if_pos (by omega)]
      split
      · rfl
      · rw [ih k (i + 1) (rd l (i : Int)) (by omega) (by omega) (by omega) (.inr ⟨by omega, by omega, rfl⟩)]
theorem gemotref10_Row.calls (A0 : Option Addr) (c0 : Nat) (l0 : List Int) (r : Bool) (w : World) (hr0 : Kd.C (Kd.int .i64) w A0 l0.length l0) (hc0 : l0.length ≤ c0) (h : gemotref10_Row.f l0 = some r) :
    Calls Try.prog 45 #[.slice A0 l0.length c0] w fun e w' => e = .returned (.bool r) ∧ Drawn0 w w' := by
  unfold gemotref10_Row.f at h
  split at h
  case isFalse => cases h
  rename_i hs
  refine gemotref10_Row_p.calls (l0.length + 1) A0 c0 l0 r w hr0 hc0 ?_
  rw [← h]
  have := gemotref10_Row.loop l0 hs l0.length (l0.length + 1) 0 0 (by omega) (by omega) (Int.le_refl _) (.inl ⟨rfl, rfl⟩)
  rw [List.drop_zero] at this
  exact this
end Go.Proofs.Ytagceackfnkifaa.F
