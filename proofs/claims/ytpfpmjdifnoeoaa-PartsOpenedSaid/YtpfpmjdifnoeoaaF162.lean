-- Laid by mk.py (a program of this session) over the seat's translation.
import Derived.Test.YtpfpmjdifnoeoaaF0
namespace Go.Proofs.Ytpfpmjdifnoeoaa.F
open Go.RowKit Go.Proofs.YtpfpmjdifnoeoaaW.PrintWords Go.Proofs.YtpfpmjdifnoeoaaW.PrintLast Go.Proofs.YtpfpmjdifnoeoaaW.PrintMore
attribute [local go_sem] max2_int min2_int max_two min_two max_three min_three max_four min_four
set_option linter.unusedVariables false
set_option linter.unusedSimpArgs false

/-! ### term_leaf: function 162 -/
set_option maxHeartbeats 400000 in
set_option maxRecDepth 10000 in
theorem term_leaf.c1 (s : ByteArray) (w : World) (h1 : 0 < s.size) (h2 : s.size < 9223372036854775800) (hc : bt s 0 = 103) :
    Calls Try.prog 162 #[.string s] w fun e w' => e = .returned (.int .i64 (1)) ∧ Drawn0 w w' := by
  have hx : ∀ h : 0 < s.size, ((s[0]'h).toNat : Int) = bt s 0 := fun h => bt_at s 0 h
  rw [hc] at hx
  have hm1 : decide (s.size < 1) = false := decide_eq_false (by omega)
  have hd1 : decide ((s.size : Int) < 1) = false := decide_eq_false (by omega)
  go_enter Try.func162, Try.ntmps162
  go_wp2
  go_ret
  exact ⟨rfl, by repeat (first | exact Drawn0.refl _ | apply Drawn0.step)⟩
set_option maxHeartbeats 400000 in
set_option maxRecDepth 10000 in
theorem term_leaf.c2 (s : ByteArray) (w : World) (h1 : 0 < s.size) (h2 : s.size < 9223372036854775800) (hc : bt s 0 = 110) (hs : 9 ≤ s.size) :
    Calls Try.prog 162 #[.string s] w fun e w' => e = .returned (.int .i64 (9)) ∧ Drawn0 w w' := by
  have hx : ∀ h : 0 < s.size, ((s[0]'h).toNat : Int) = bt s 0 := fun h => bt_at s 0 h
  rw [hc] at hx
  have hm9 : decide (s.size < 9) = false := decide_eq_false (by omega)
  have hd9 : decide ((s.size : Int) < 9) = false := decide_eq_false (by omega)
  go_enter Try.func162, Try.ntmps162
  go_wp2
  go_ret
  exact ⟨rfl, by repeat (first | exact Drawn0.refl _ | apply Drawn0.step)⟩
set_option maxHeartbeats 400000 in
set_option maxRecDepth 10000 in
theorem term_leaf.c3 (s : ByteArray) (w : World) (h1 : 0 < s.size) (h2 : s.size < 9223372036854775800) (hc : bt s 0 = 110) (hs : s.size < 9) :
    Calls Try.prog 162 #[.string s] w fun e w' => e = .returned (.int .i64 (0)) ∧ Drawn0 w w' := by
  have hx : ∀ h : 0 < s.size, ((s[0]'h).toNat : Int) = bt s 0 := fun h => bt_at s 0 h
  rw [hc] at hx
  have hm9 : decide (s.size < 9) = true := decide_eq_true (by omega)
  have hd9 : decide ((s.size : Int) < 9) = true := decide_eq_true (by omega)
  go_enter Try.func162, Try.ntmps162
  go_wp2
  go_ret
  exact ⟨rfl, by repeat (first | exact Drawn0.refl _ | apply Drawn0.step)⟩
set_option maxHeartbeats 400000 in
set_option maxRecDepth 10000 in
theorem term_leaf.c4 (s : ByteArray) (w : World) (h1 : 0 < s.size) (h2 : s.size < 9223372036854775800) (hc : bt s 0 = 117) (hs : 9 ≤ s.size) :
    Calls Try.prog 162 #[.string s] w fun e w' => e = .returned (.int .i64 (9)) ∧ Drawn0 w w' := by
  have hx : ∀ h : 0 < s.size, ((s[0]'h).toNat : Int) = bt s 0 := fun h => bt_at s 0 h
  rw [hc] at hx
  have hm9 : decide (s.size < 9) = false := decide_eq_false (by omega)
  have hd9 : decide ((s.size : Int) < 9) = false := decide_eq_false (by omega)
  go_enter Try.func162, Try.ntmps162
  go_wp2
  go_ret
  exact ⟨rfl, by repeat (first | exact Drawn0.refl _ | apply Drawn0.step)⟩
set_option maxHeartbeats 400000 in
set_option maxRecDepth 10000 in
theorem term_leaf.c5 (s : ByteArray) (w : World) (h1 : 0 < s.size) (h2 : s.size < 9223372036854775800) (hc : bt s 0 = 117) (hs : s.size < 9) :
    Calls Try.prog 162 #[.string s] w fun e w' => e = .returned (.int .i64 (0)) ∧ Drawn0 w w' := by
  have hx : ∀ h : 0 < s.size, ((s[0]'h).toNat : Int) = bt s 0 := fun h => bt_at s 0 h
  rw [hc] at hx
  have hm9 : decide (s.size < 9) = true := decide_eq_true (by omega)
  have hd9 : decide ((s.size : Int) < 9) = true := decide_eq_true (by omega)
  go_enter Try.func162, Try.ntmps162
  go_wp2
  go_ret
  exact ⟨rfl, by repeat (first | exact Drawn0.refl _ | apply Drawn0.step)⟩
set_option maxHeartbeats 400000 in
set_option maxRecDepth 10000 in
theorem term_leaf.c6 (s : ByteArray) (w : World) (h1 : 0 < s.size) (h2 : s.size < 9223372036854775800) (hc : bt s 0 = 105) (hs : s.size = 1) :
    Calls Try.prog 162 #[.string s] w fun e w' => e = .returned (.int .i64 (0)) ∧ Drawn0 w w' := by
  have hx : ∀ h : 0 < s.size, ((s[0]'h).toNat : Int) = bt s 0 := fun h => bt_at s 0 h
  rw [hc] at hx
  have hg1 : decide (1 < (s.size : Int)) = false := decide_eq_false (by omega)
  have hn1 : decide (1 < s.size) = false := decide_eq_false (by omega)
  have hz : decide ((s.size : Int) < 0) = false := decide_eq_false (by omega)
  clear hs
  go_enter Try.func162, Try.ntmps162
  go_wp2
  go_ret
  exact ⟨rfl, by repeat (first | exact Drawn0.refl _ | apply Drawn0.step)⟩
set_option maxHeartbeats 400000 in
set_option maxRecDepth 10000 in
theorem term_leaf.c7 (s : ByteArray) (w : World) (h1 : 0 < s.size) (h2 : s.size < 9223372036854775800) (hc : bt s 0 = 105) (hs : 1 < s.size) (hl : bt s 1 < 1) :
    Calls Try.prog 162 #[.string s] w fun e w' => e = .returned (.int .i64 (0)) ∧ Drawn0 w w' := by
  have hx : ∀ h : 0 < s.size, ((s[0]'h).toNat : Int) = bt s 0 := fun h => bt_at s 0 h
  rw [hc] at hx
  have hg1 : decide (1 < (s.size : Int)) = true := decide_eq_true (by omega)
  have hn1 : decide (1 < s.size) = true := decide_eq_true (by omega)
  have hx1 : ∀ h : 1 < s.size, ((s[1]'h).toNat : Int) = bt s 1 := fun h => bt_at s 1 h
  have hr1 := bt_range s 1
  have hq : decide (1 ≤ bt s 1) = false := decide_eq_false (by omega)
  have hz : decide ((s.size : Int) < 0) = false := decide_eq_false (by omega)
  go_enter Try.func162, Try.ntmps162
  go_wp2
  go_ret
  exact ⟨rfl, by repeat (first | exact Drawn0.refl _ | apply Drawn0.step)⟩
set_option maxHeartbeats 400000 in
set_option maxRecDepth 10000 in
theorem term_leaf.c8 (s : ByteArray) (w : World) (h1 : 0 < s.size) (h2 : s.size < 9223372036854775800) (hc : bt s 0 = 105) (hs : 1 < s.size) (hl : ¬ bt s 1 < 1) (hg : 8 < bt s 1) :
    Calls Try.prog 162 #[.string s] w fun e w' => e = .returned (.int .i64 (0)) ∧ Drawn0 w w' := by
  have hx : ∀ h : 0 < s.size, ((s[0]'h).toNat : Int) = bt s 0 := fun h => bt_at s 0 h
  rw [hc] at hx
  have hg1 : decide (1 < (s.size : Int)) = true := decide_eq_true (by omega)
  have hn1 : decide (1 < s.size) = true := decide_eq_true (by omega)
  have hx1 : ∀ h : 1 < s.size, ((s[1]'h).toNat : Int) = bt s 1 := fun h => bt_at s 1 h
  have hr1 := bt_range s 1
  have hq : decide (1 ≤ bt s 1) = true := decide_eq_true (by omega)
  have hq2 : decide (bt s 1 ≤ 8) = false := decide_eq_false (by omega)
  have hz : decide ((s.size : Int) < 0) = false := decide_eq_false (by omega)
  go_enter Try.func162, Try.ntmps162
  go_wp2
  go_ret
  exact ⟨rfl, by repeat (first | exact Drawn0.refl _ | apply Drawn0.step)⟩
set_option maxHeartbeats 400000 in
set_option maxRecDepth 10000 in
theorem term_leaf.c9 (s : ByteArray) (w : World) (h1 : 0 < s.size) (h2 : s.size < 9223372036854775800) (hc : bt s 0 = 105) (hs : 1 < s.size) (hl : ¬ bt s 1 < 1) (hg : ¬ 8 < bt s 1) :
    Calls Try.prog 162 #[.string s] w fun e w' => e = .returned (.int .i64 (2)) ∧ Drawn0 w w' := by
  have hx : ∀ h : 0 < s.size, ((s[0]'h).toNat : Int) = bt s 0 := fun h => bt_at s 0 h
  rw [hc] at hx
  have hg1 : decide (1 < (s.size : Int)) = true := decide_eq_true (by omega)
  have hn1 : decide (1 < s.size) = true := decide_eq_true (by omega)
  have hx1 : ∀ h : 1 < s.size, ((s[1]'h).toNat : Int) = bt s 1 := fun h => bt_at s 1 h
  have hr1 := bt_range s 1
  have hq : decide (1 ≤ bt s 1) = true := decide_eq_true (by omega)
  have hq2 : decide (bt s 1 ≤ 8) = true := decide_eq_true (by omega)
  have hm2 : decide (s.size < 2) = false := decide_eq_false (by omega)
  have hd2 : decide ((s.size : Int) < 2) = false := decide_eq_false (by omega)
  go_enter Try.func162, Try.ntmps162
  go_wp2
  go_ret
  exact ⟨rfl, by repeat (first | exact Drawn0.refl _ | apply Drawn0.step)⟩
set_option maxHeartbeats 400000 in
set_option maxRecDepth 10000 in
theorem term_leaf.c10 (s : ByteArray) (w : World) (h1 : 0 < s.size) (h2 : s.size < 9223372036854775800) (hc : bt s 0 = 116) (hs : s.size < 3) :
    Calls Try.prog 162 #[.string s] w fun e w' => e = .returned (.int .i64 (0)) ∧ Drawn0 w w' := by
  have hx : ∀ h : 0 < s.size, ((s[0]'h).toNat : Int) = bt s 0 := fun h => bt_at s 0 h
  rw [hc] at hx
  have hg1 : decide (3 ≤ (s.size : Int)) = false := decide_eq_false (by omega)
  have hn1 : decide (3 ≤ s.size) = false := decide_eq_false (by omega)
  have hz : decide ((s.size : Int) < 0) = false := decide_eq_false (by omega)
  go_enter Try.func162, Try.ntmps162
  go_wp2
  go_ret
  exact ⟨rfl, by repeat (first | exact Drawn0.refl _ | apply Drawn0.step)⟩
set_option maxHeartbeats 400000 in
set_option maxRecDepth 10000 in
theorem term_leaf.c11 (s : ByteArray) (w : World) (h1 : 0 < s.size) (h2 : s.size < 9223372036854775800) (hc : bt s 0 = 116) (hs : 3 ≤ s.size) (hl : bt s 1 ≠ 0) :
    Calls Try.prog 162 #[.string s] w fun e w' => e = .returned (.int .i64 (0)) ∧ Drawn0 w w' := by
  have hx : ∀ h : 0 < s.size, ((s[0]'h).toNat : Int) = bt s 0 := fun h => bt_at s 0 h
  rw [hc] at hx
  have hg1 : decide (3 ≤ (s.size : Int)) = true := decide_eq_true (by omega)
  have hn1 : decide (3 ≤ s.size) = true := decide_eq_true (by omega)
  have hx1 : ∀ h : 1 < s.size, ((s[1]'h).toNat : Int) = bt s 1 := fun h => bt_at s 1 h
  have hx2 : ∀ h : 2 < s.size, ((s[2]'h).toNat : Int) = bt s 2 := fun h => bt_at s 2 h
  have hl1 : 1 < s.size := by omega
  have hl2 : 2 < s.size := by omega
  have hr2 := bt_range s 2
  have hq : (bt s 1 == 0) = false := beq_eq_false_iff_ne.mpr hl
  have hz : decide ((s.size : Int) < 0) = false := decide_eq_false (by omega)
  clear hl
  go_enter Try.func162, Try.ntmps162
  go_wp2
  go_ret
  exact ⟨rfl, by repeat (first | exact Drawn0.refl _ | apply Drawn0.step)⟩
set_option maxHeartbeats 400000 in
set_option maxRecDepth 10000 in
theorem term_leaf.c12 (s : ByteArray) (w : World) (h1 : 0 < s.size) (h2 : s.size < 9223372036854775800) (hc : bt s 0 = 116) (hs : 3 ≤ s.size) (hl : bt s 1 = 0) (hg : 100 < bt s 2) :
    Calls Try.prog 162 #[.string s] w fun e w' => e = .returned (.int .i64 (0)) ∧ Drawn0 w w' := by
  have hx : ∀ h : 0 < s.size, ((s[0]'h).toNat : Int) = bt s 0 := fun h => bt_at s 0 h
  rw [hc] at hx
  have hg1 : decide (3 ≤ (s.size : Int)) = true := decide_eq_true (by omega)
  have hn1 : decide (3 ≤ s.size) = true := decide_eq_true (by omega)
  have hx1 : ∀ h : 1 < s.size, ((s[1]'h).toNat : Int) = bt s 1 := fun h => bt_at s 1 h
  have hx2 : ∀ h : 2 < s.size, ((s[2]'h).toNat : Int) = bt s 2 := fun h => bt_at s 2 h
  have hl1 : 1 < s.size := by omega
  have hl2 : 2 < s.size := by omega
  have hr2 := bt_range s 2
  rw [hl] at hx1
  have hq2 : decide (bt s 2 ≤ 100) = false := decide_eq_false (by omega)
  have hz : decide ((s.size : Int) < 0) = false := decide_eq_false (by omega)
  clear hl
  go_enter Try.func162, Try.ntmps162
  go_wp2
  go_ret
  exact ⟨rfl, by repeat (first | exact Drawn0.refl _ | apply Drawn0.step)⟩
set_option maxHeartbeats 400000 in
set_option maxRecDepth 10000 in
theorem term_leaf.c13 (s : ByteArray) (w : World) (h1 : 0 < s.size) (h2 : s.size < 9223372036854775800) (hc : bt s 0 = 116) (hs : 3 ≤ s.size) (hl : bt s 1 = 0) (hg : bt s 2 ≤ 100) (hf : 3 + bt s 2 ≤ s.size) :
    Calls Try.prog 162 #[.string s] w fun e w' => e = .returned (.int .i64 (3 + bt s 2)) ∧ Drawn0 w w' := by
  have hx : ∀ h : 0 < s.size, ((s[0]'h).toNat : Int) = bt s 0 := fun h => bt_at s 0 h
  rw [hc] at hx
  have hg1 : decide (3 ≤ (s.size : Int)) = true := decide_eq_true (by omega)
  have hn1 : decide (3 ≤ s.size) = true := decide_eq_true (by omega)
  have hx1 : ∀ h : 1 < s.size, ((s[1]'h).toNat : Int) = bt s 1 := fun h => bt_at s 1 h
  have hx2 : ∀ h : 2 < s.size, ((s[2]'h).toNat : Int) = bt s 2 := fun h => bt_at s 2 h
  have hl1 : 1 < s.size := by omega
  have hl2 : 2 < s.size := by omega
  have hr2 := bt_range s 2
  rw [hl] at hx1
  have hq2 : decide (bt s 2 ≤ 100) = true := decide_eq_true (by omega)
  have hz : decide ((s.size : Int) < 3 + bt s 2) = false := decide_eq_false (by omega)
  clear hl
  go_enter Try.func162, Try.ntmps162
  go_wp2
  go_ret
  exact ⟨rfl, by repeat (first | exact Drawn0.refl _ | apply Drawn0.step)⟩
set_option maxHeartbeats 400000 in
set_option maxRecDepth 10000 in
theorem term_leaf.c14 (s : ByteArray) (w : World) (h1 : 0 < s.size) (h2 : s.size < 9223372036854775800) (hc : bt s 0 = 116) (hs : 3 ≤ s.size) (hl : bt s 1 = 0) (hg : bt s 2 ≤ 100) (hf : ¬ 3 + bt s 2 ≤ s.size) :
    Calls Try.prog 162 #[.string s] w fun e w' => e = .returned (.int .i64 (0)) ∧ Drawn0 w w' := by
  have hx : ∀ h : 0 < s.size, ((s[0]'h).toNat : Int) = bt s 0 := fun h => bt_at s 0 h
  rw [hc] at hx
  have hg1 : decide (3 ≤ (s.size : Int)) = true := decide_eq_true (by omega)
  have hn1 : decide (3 ≤ s.size) = true := decide_eq_true (by omega)
  have hx1 : ∀ h : 1 < s.size, ((s[1]'h).toNat : Int) = bt s 1 := fun h => bt_at s 1 h
  have hx2 : ∀ h : 2 < s.size, ((s[2]'h).toNat : Int) = bt s 2 := fun h => bt_at s 2 h
  have hl1 : 1 < s.size := by omega
  have hl2 : 2 < s.size := by omega
  have hr2 := bt_range s 2
  rw [hl] at hx1
  have hq2 : decide (bt s 2 ≤ 100) = true := decide_eq_true (by omega)
  have hz : decide ((s.size : Int) < 3 + bt s 2) = true := decide_eq_true (by omega)
  clear hl
  go_enter Try.func162, Try.ntmps162
  go_wp2
  go_ret
  exact ⟨rfl, by repeat (first | exact Drawn0.refl _ | apply Drawn0.step)⟩
set_option maxHeartbeats 400000 in
set_option maxRecDepth 10000 in
theorem term_leaf.c15 (s : ByteArray) (w : World) (h1 : 0 < s.size) (h2 : s.size < 9223372036854775800) (n0 : bt s 0 ≠ 103) (n1 : bt s 0 ≠ 110) (n2 : bt s 0 ≠ 117) (n3 : bt s 0 ≠ 105) (n4 : bt s 0 ≠ 116) :
    Calls Try.prog 162 #[.string s] w fun e w' => e = .returned (.int .i64 (0)) ∧ Drawn0 w w' := by
  have hx : ∀ h : 0 < s.size, ((s[0]'h).toNat : Int) = bt s 0 := fun h => bt_at s 0 h
  have q0 : (bt s 0 == 103) = false := beq_eq_false_iff_ne.mpr n0
  have q1 : (bt s 0 == 110) = false := beq_eq_false_iff_ne.mpr n1
  have q2 : (bt s 0 == 117) = false := beq_eq_false_iff_ne.mpr n2
  have q3 : (bt s 0 == 105) = false := beq_eq_false_iff_ne.mpr n3
  have q4 : (bt s 0 == 116) = false := beq_eq_false_iff_ne.mpr n4
  have hz : decide ((s.size : Int) < 0) = false := decide_eq_false (by omega)
  clear n0 n1 n2 n3 n4
  go_enter Try.func162, Try.ntmps162
  go_wp2
  go_ret
  exact ⟨rfl, by repeat (first | exact Drawn0.refl _ | apply Drawn0.step)⟩
def leafF (s : ByteArray) : Int :=
  if bt s 0 = 103 then 1
  else if bt s 0 = 110 ∨ bt s 0 = 117 then (if 9 ≤ s.size then 9 else 0)
  else if bt s 0 = 105 then (if 1 < s.size ∧ 1 ≤ bt s 1 ∧ bt s 1 ≤ 8 then 2 else 0)
  else if bt s 0 = 116 then (if 3 ≤ s.size ∧ bt s 1 = 0 ∧ bt s 2 ≤ 100 ∧ 3 + bt s 2 ≤ s.size then 3 + bt s 2 else 0)
  else 0
def term_leaf.f (s : ByteArray) : Option Int := if 0 < s.size ∧ s.size < 9223372036854775800 then some (leafF s) else none
theorem term_leaf.calls (a0 : ByteArray) (r : Int) (w : World) (h : term_leaf.f a0 = some r) :
    Calls Try.prog 162 #[.string a0] w fun e w' => e = .returned (.int .i64 r) ∧ Drawn0 w w' := by
  unfold term_leaf.f at h
  split at h
  case isFalse => cases h
  rename_i hb
  obtain ⟨h1, h2⟩ := hb
  obtain rfl := Option.some.inj h
  clear h
  unfold leafF
  by_cases k1 : bt a0 0 = 103
  · rw [if_pos k1]; exact term_leaf.c1 a0 w h1 h2 k1
  rw [if_neg k1]
  by_cases k2 : bt a0 0 = 110
  · rw [if_pos (.inl k2)]
    split
    · exact term_leaf.c2 a0 w h1 h2 k2 ‹_›
    · exact term_leaf.c3 a0 w h1 h2 k2 (by omega)
  by_cases k3 : bt a0 0 = 117
  · rw [if_pos (.inr k3)]
    split
    · exact term_leaf.c4 a0 w h1 h2 k3 ‹_›
    · exact term_leaf.c5 a0 w h1 h2 k3 (by omega)
  rw [if_neg (by rintro (h | h) <;> contradiction)]
  by_cases k4 : bt a0 0 = 105
  · rw [if_pos k4]
    by_cases k5 : 1 < a0.size
    · by_cases k6 : bt a0 1 < 1
      · rw [if_neg (by omega)]; exact term_leaf.c7 a0 w h1 h2 k4 k5 k6
      · by_cases k7 : 8 < bt a0 1
        · rw [if_neg (by omega)]; exact term_leaf.c8 a0 w h1 h2 k4 k5 k6 k7
        · rw [if_pos (by omega)]; exact term_leaf.c9 a0 w h1 h2 k4 k5 k6 k7
    · rw [if_neg (fun h => k5 h.1)]; exact term_leaf.c6 a0 w h1 h2 k4 (by omega)
  rw [if_neg k4]
  by_cases k5 : bt a0 0 = 116
  · rw [if_pos k5]
    by_cases k6 : 3 ≤ a0.size
    · by_cases k7 : bt a0 1 = 0
      · by_cases k8 : bt a0 2 ≤ 100
        · by_cases k9 : 3 + bt a0 2 ≤ a0.size
          · rw [if_pos ⟨k6, k7, k8, k9⟩]; exact term_leaf.c13 a0 w h1 h2 k5 k6 k7 k8 k9
          · rw [if_neg (fun h => k9 h.2.2.2)]; exact term_leaf.c14 a0 w h1 h2 k5 k6 k7 k8 k9
        · rw [if_neg (fun h => k8 h.2.2.1)]; exact term_leaf.c12 a0 w h1 h2 k5 k6 k7 (by omega)
      · rw [if_neg (fun h => k7 h.2.1)]; exact term_leaf.c11 a0 w h1 h2 k5 k6 k7
    · rw [if_neg (fun h => k6 h.1)]; exact term_leaf.c10 a0 w h1 h2 k5 (by omega)
  rw [if_neg k5]
  exact term_leaf.c15 a0 w h1 h2 k1 k2 k3 k4 k5

end Go.Proofs.Ytpfpmjdifnoeoaa.F
