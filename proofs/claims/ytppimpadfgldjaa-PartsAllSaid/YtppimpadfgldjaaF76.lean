-- Laid by mk.py (a program of this session) over the seat's translation.
import Derived.Test.YtppimpadfgldjaaF0
namespace Go.Proofs.Ytppimpadfgldjaa.F
open Go.RowKit Go.Proofs.YtppimpadfgldjaaW.PrintWords Go.Proofs.YtppimpadfgldjaaW.PrintLast Go.Proofs.YtppimpadfgldjaaW.PrintMore
attribute [local go_sem] max2_int min2_int max_two min_two max_three min_three max_four min_four
set_option linter.unusedVariables false
set_option linter.unusedSimpArgs false

/-! ### gemotlaw2_has: function 76 -/
/-! #### gemotlaw2_has_p: function 76 -/
def gemotlaw2_has_p.l0 : Nat → List ByteArray → ByteArray → Int → Option (Bool)
  | 0, _, _, _ => none
  | k + 1, x0, x1, x5 => if x5 < (x0.length : Int) then (if 0 ≤ x5 then (if (rdOf ByteArray.empty x0 x5).toList = x1.toList then (some true) else (gemotlaw2_has_p.l0 k x0 x1 (wrap64 (x5 + 1)))) else (none)) else (some false)
def gemotlaw2_has_p.f (k : Nat) (l0 : List ByteArray) (a1 : ByteArray) : Option (Bool) := gemotlaw2_has_p.l0 k l0 a1 0
theorem gemotlaw2_has_p.mono_l : ∀ k, (∀ y0 y1 y2, LeO (gemotlaw2_has_p.l0 k y0 y1 y2) (gemotlaw2_has_p.l0 (k + 1) y0 y1 y2))
  | 0 => fun _ _ _ r h => by simp [gemotlaw2_has_p.l0] at h
  | k + 1 => by
    have ih0 := gemotlaw2_has_p.mono_l k
    · intro y0 y1 y2
      unfold gemotlaw2_has_p.l0
      repeat' first
      | (with_reducible exact ih0 _ _ _)
      | (with_reducible exact LeO.refl _)
      | (with_reducible exact LeO.none _)
      | (with_reducible refine LeO.ite ?_ ?_)
      | (with_reducible refine LeO.bind ?_ (fun _ => ?_))
      | exact ih0 _ _ _
      | exact LeO.none _
      | refine LeO.ite ?_ ?_
      | refine LeO.bind ?_ (fun _ => ?_)
theorem gemotlaw2_has_p.mono : ∀ a0 a1 k, LeO (gemotlaw2_has_p.f k a0 a1) (gemotlaw2_has_p.f (k + 1) a0 a1) := by
  intro a0 a1 k
  have ih0 := gemotlaw2_has_p.mono_l k
  unfold gemotlaw2_has_p.f
  repeat' first
      | (with_reducible exact ih0 _ _ _)
      | (with_reducible exact LeO.refl _)
      | (with_reducible exact LeO.none _)
      | (with_reducible refine LeO.ite ?_ ?_)
      | (with_reducible refine LeO.bind ?_ (fun _ => ?_))
      | exact ih0 _ _ _
      | exact LeO.none _
      | refine LeO.ite ?_ ?_
      | refine LeO.bind ?_ (fun _ => ?_)
set_option maxHeartbeats 8000000 in
set_option maxRecDepth 100000 in
theorem gemotlaw2_has_p.calls (k : Nat) (A0 : Option Addr) (c0 : Nat) (l0 : List ByteArray) (a1 : ByteArray) (r : Bool) (w : World) (hr0 : Kd.C Kd.string w A0 l0.length l0) (hc0 : l0.length ≤ c0) (h : gemotlaw2_has_p.f k l0 a1 = some r) :
    Calls Try.prog 76 #[.slice A0 l0.length c0, .string a1] w fun e w' => e = .returned (.bool r) ∧ Drawn0 w w' := by
  have HR0 := Aside0.mk hr0
  have HC0 := Aside0.mk hc0
  clear hr0 hc0
  have H : (gemotlaw2_has_p.l0 k l0 a1 0) = some r := h
  clear h
  have H' := Aside0.mk H
  clear H
  go_enter Try.func76, Try.ntmps76
  go_wp2
  go_loopg [5] k (fun kq v5 w' => ∃ (x5_1 : Int), v5 = .int .i64 x5_1 ∧ Aside0 (gemotlaw2_has_p.l0 kq l0 a1 x5_1 = some r) ∧ Aside0 (kq ≤ k) ∧ Drawn0 w w')
  case atStart => exact ⟨(0), (by first | rfl | (simp; done) | (simp [*]; done)), H', ⟨Nat.le_refl _⟩, by repeat (first | exact Drawn0.refl _ | apply Drawn0.step)⟩
  case round =>
    clear H'
    try clear p2
    obtain ⟨x5_1, rfl, HA, HK1, ⟨m1, rfl⟩⟩ := hrel
    cases gk with
    | zero => exact absurd HA.out (by simp [gemotlaw2_has_p.l0])
    | succ k1 =>
      have H := HA.out
      clear HA
      simp only [gemotlaw2_has_p.l0] at H
      by_cases c3 : x5_1 < (l0.length : Int)
      · rw [if_pos c3] at H
        have c3b0 : decide (x5_1 < (l0.length : Int)) = true := decide_eq_true c3
        clear c3
        by_cases c4 : 0 ≤ x5_1
        · rw [if_pos c4] at H
          have c4b0 : decide (0 ≤ x5_1) = true := decide_eq_true c4
          clear c4
          by_cases c5 : (rdOf ByteArray.empty l0 x5_1).toList = a1.toList
          · rw [if_pos c5] at H
            have c5b0 : ((rdOf ByteArray.empty l0 x5_1).toList == a1.toList) = true := beq_iff_eq.mpr c5
            have c5b1 : ((rdOf ByteArray.empty l0 x5_1).toList != a1.toList) = false := bne_eq_false_iff_eq.mpr c5
            clear c5
            obtain rfl := Option.some.inj H
            have p1001 : 0 ≤ (x5_1 : Int) := of_decide_eq_true (by first | (with_reducible assumption) | assumption)
            have q1001 : x5_1 < (l0.length : Int) := of_decide_eq_true (by first | (with_reducible assumption) | assumption)
            obtain ⟨ad1001, e1001, hx1001_0⟩ := Kd.at_string HR0.out x5_1 p1001 q1001
            cases e1001
            replace p1001 := eq_true p1001
            replace q1001 := eq_true q1001
            go_wp2
            go_ret
            exact ⟨by first | rfl | (simp; done) | (simp [*]; done), by repeat (first | exact Drawn0.refl _ | apply Drawn0.step)⟩
          · rw [if_neg c5] at H
            have c5b0 : ((rdOf ByteArray.empty l0 x5_1).toList == a1.toList) = false := beq_eq_false_iff_ne.mpr c5
            have c5b1 : ((rdOf ByteArray.empty l0 x5_1).toList != a1.toList) = true := bne_iff_ne.mpr c5
            have H' := Aside0.mk H
            clear H
            have p1001 : 0 ≤ (x5_1 : Int) := of_decide_eq_true (by first | (with_reducible assumption) | assumption)
            have q1001 : x5_1 < (l0.length : Int) := of_decide_eq_true (by first | (with_reducible assumption) | assumption)
            obtain ⟨ad1001, e1001, hx1001_0⟩ := Kd.at_string HR0.out x5_1 p1001 q1001
            cases e1001
            replace p1001 := eq_true p1001
            replace q1001 := eq_true q1001
            go_wp2
            go_roundg k1
            case measure => have := HK1.out; omega
            case rel => exact ⟨(wrap64 (x5_1 + 1)), (by first | rfl | (simp; done) | (simp [*]; done)), H', ⟨by have := HK1.out; omega⟩, by repeat (first | exact Drawn0.refl _ | apply Drawn0.step)⟩
        · rw [if_neg c4] at H
          exact absurd H (by simp)
      · rw [if_neg c3] at H
        have c3b0 : decide (x5_1 < (l0.length : Int)) = false := decide_eq_false c3
        clear c3
        obtain rfl := Option.some.inj H
        go_wp2
        go_ret
        exact ⟨by first | rfl | (simp; done) | (simp [*]; done), by repeat (first | exact Drawn0.refl _ | apply Drawn0.step)⟩

def gemotlaw2_has.f (l : List ByteArray) (a : ByteArray) : Option Bool := some (l.any fun x => decide (x = a))
theorem gemotlaw2_has.text {a b : ByteArray} (h : a.toList = b.toList) : a = b := by
  rw [ByteArray.toList_eq, ByteArray.toList_eq] at h
  exact ByteArray.ext (Array.ext' h)
theorem gemotlaw2_has.go (l : List ByteArray) (a : ByteArray) (hl : l.length ≤ 9223372036854775807) (d : Nat) : ∀ (k : Nat) (i : Int), 0 ≤ i → i ≤ l.length → (l.length : Int) - i = d → d < k →
    gemotlaw2_has_p.l0 k l a i = some ((l.drop i.toNat).any fun x => decide (x = a)) := by
  induction d with
  | zero =>
    intro k i h0 h1 hd hk
    obtain ⟨k, rfl⟩ : ∃ m, k = m + 1 := ⟨k - 1, by omega⟩
    simp only [gemotlaw2_has_p.l0]
    rw [if_neg (by omega), List.drop_of_length_le (by omega)]
    simp
  | succ d ih =>
    intro k i h0 h1 hd hk
    obtain ⟨k, rfl⟩ : ∃ m, k = m + 1 := ⟨k - 1, by omega⟩
    have hlt : i < (l.length : Int) := by omega
    have hw : wrap64 (i + 1) = i + 1 := by unfold wrap64; omega
    have h3 : (i + 1).toNat = i.toNat + 1 := by omega
    have hr : l.drop i.toNat = rdOf ByteArray.empty l i :: l.drop (i + 1).toNat := by
      have hn : i.toNat < l.length := by omega
      rw [List.drop_eq_getElem_cons hn, h3]
      simp [rdOf, List.getD_eq_getElem?_getD, hn]
    simp only [gemotlaw2_has_p.l0]
    rw [if_pos hlt, if_pos h0, hr]
    by_cases hx : rdOf ByteArray.empty l i = a
    · rw [if_pos (by rw [hx])]
      simp [hx]
    · rw [if_neg (fun h => hx (gemotlaw2_has.text h)), hw, ih k (i + 1) (by omega) (by omega) (by omega) (by omega)]
      simp [hx]
theorem gemotlaw2_has.eq (l : List ByteArray) (a : ByteArray) (hl : l.length ≤ 9223372036854775807) : gemotlaw2_has_p.f (l.length + 1) l a = gemotlaw2_has.f l a := by
  unfold gemotlaw2_has_p.f gemotlaw2_has.f
  rw [gemotlaw2_has.go l a hl l.length _ 0 (by omega) (by omega) (by omega) (by omega)]
  rfl
theorem gemotlaw2_has.calls (A0 : Option Addr) (c0 : Nat) (l0 : List ByteArray) (a1 : ByteArray) (r : Bool) (w : World) (hr0 : Kd.C Kd.string w A0 l0.length l0) (hc0 : l0.length ≤ c0) (h : gemotlaw2_has.f l0 a1 = some r) :
    Calls Try.prog 76 #[.slice A0 l0.length c0, .string a1] w fun e w' => e = .returned (.bool r) ∧ Drawn0 w w' :=
  gemotlaw2_has_p.calls (l0.length + 1) A0 c0 l0 a1 r w hr0 hc0 ((gemotlaw2_has.eq l0 a1 hr0.2.1).trans h)

end Go.Proofs.Ytppimpadfgldjaa.F
