-- Laid by mk.py (a program of this session) over the seat's translation.
import Derived.Test.YtpfpmjdifnoeoaaF0
import Derived.RegionTactic
import Derived.ChangeAlike
import Derived.BigRegion
namespace Go.Proofs.Ytpfpmjdifnoeoaa.F
open Go.RowKit Go.Proofs.YtpfpmjdifnoeoaaW.PrintWords Go.Proofs.YtpfpmjdifnoeoaaW.PrintLast Go.Proofs.YtpfpmjdifnoeoaaW.PrintMore
attribute [local go_sem] max2_int min2_int max_two min_two max_three min_three max_four min_four
set_option linter.unusedVariables false
set_option linter.unusedSimpArgs false

/-! ### term_begin: function 163 -/
set_option maxHeartbeats 400000 in
set_option maxRecDepth 10000 in
theorem term_begin.c1 (s : ByteArray) (at_ : Int) (w : World) (h0 : 0 ≤ at_) (h1 : at_ < s.size) (h2 : s.size < 9223372036854775800) (hc : bt s at_ = 107) (hs : (s.size : Int) ≤ at_ + 1) :
    Calls Try.prog 163 #[.string s, .int .i64 at_] w fun e w' => e = .returned (.tuple #[.agg #[.int .i64 (0), .int .i64 0, .bool false, .int .i64 (at_ + 1), .string (⟨#[]⟩ : ByteArray)], .int .i64 (0), .bool false]) ∧ Below w.heap.size w w' := by
  have hx := bt_at s at_
  rw [hc] at hx
  have hd1 : decide ((s.size : Int) ≤ at_ + 1) = true := decide_eq_true hs
  have HB := Aside0.mk (Below.refl w.heap.size w)
  have hu := Try.underlying190
  go_enter Try.func163, Try.ntmps163
  go_wp2
  exact bodyPost_ret (v := .tuple #[.agg #[.int .i64 (0), .int .i64 0, .bool false, .int .i64 (at_ + 1), .string (⟨#[]⟩ : ByteArray)], .int .i64 (0), .bool false]) (by simp [results, Try.results163, go_sem]) rfl ⟨rfl, by repeat (first | exact HB.out | apply below_alloc | apply below_drew1 | apply pw_below_drewN)⟩
set_option maxHeartbeats 400000 in
set_option maxRecDepth 10000 in
theorem term_begin.c2 (s : ByteArray) (at_ : Int) (w : World) (h0 : 0 ≤ at_) (h1 : at_ < s.size) (h2 : s.size < 9223372036854775800) (hc : bt s at_ = 107) (hs : at_ + 1 < (s.size : Int)) (hc1 : bt s (at_ + 1) = 103) :
    Calls Try.prog 163 #[.string s, .int .i64 at_] w fun e w' => e = .returned (.tuple #[.agg #[.int .i64 (1), .int .i64 0, .bool false, .int .i64 (at_ + 1), .string (⟨#[]⟩ : ByteArray)], .int .i64 (at_ + 1), .bool true]) ∧ Below w.heap.size w w' := by
  have hx := bt_at s at_
  rw [hc] at hx
  have hx1 := bt_at s (at_ + 1)
  have hd1 : decide ((s.size : Int) ≤ at_ + 1) = false := decide_eq_false (by omega)
  have hp1 : 0 ≤ at_ + 1 := by omega
  rw [hc1] at hx1
  have HB := Aside0.mk (Below.refl w.heap.size w)
  have hu := Try.underlying190
  go_enter Try.func163, Try.ntmps163
  go_wp2
  go_region
  go_wp2
  exact bodyPost_ret (v := .tuple #[.agg #[.int .i64 (1), .int .i64 0, .bool false, .int .i64 (at_ + 1), .string (⟨#[]⟩ : ByteArray)], .int .i64 (at_ + 1), .bool true]) (by simp [results, Try.results163, go_sem]) rfl ⟨rfl, by repeat (first | exact HB.out | apply below_alloc | apply below_drew1 | apply pw_below_drewN)⟩
set_option maxHeartbeats 400000 in
set_option maxRecDepth 10000 in
theorem term_begin.c3 (s : ByteArray) (at_ : Int) (w : World) (h0 : 0 ≤ at_) (h1 : at_ < s.size) (h2 : s.size < 9223372036854775800) (hc : bt s at_ = 107) (hs : at_ + 1 < (s.size : Int)) (hc1 : bt s (at_ + 1) = 101) :
    Calls Try.prog 163 #[.string s, .int .i64 at_] w fun e w' => e = .returned (.tuple #[.agg #[.int .i64 (1), .int .i64 0, .bool false, .int .i64 (at_ + 1), .string (⟨#[]⟩ : ByteArray)], .int .i64 (at_ + 1), .bool true]) ∧ Below w.heap.size w w' := by
  have hx := bt_at s at_
  rw [hc] at hx
  have hx1 := bt_at s (at_ + 1)
  have hd1 : decide ((s.size : Int) ≤ at_ + 1) = false := decide_eq_false (by omega)
  have hp1 : 0 ≤ at_ + 1 := by omega
  rw [hc1] at hx1
  have HB := Aside0.mk (Below.refl w.heap.size w)
  have hu := Try.underlying190
  go_enter Try.func163, Try.ntmps163
  go_wp2
  go_region
  go_wp2
  exact bodyPost_ret (v := .tuple #[.agg #[.int .i64 (1), .int .i64 0, .bool false, .int .i64 (at_ + 1), .string (⟨#[]⟩ : ByteArray)], .int .i64 (at_ + 1), .bool true]) (by simp [results, Try.results163, go_sem]) rfl ⟨rfl, by repeat (first | exact HB.out | apply below_alloc | apply below_drew1 | apply pw_below_drewN)⟩
set_option maxHeartbeats 400000 in
set_option maxRecDepth 10000 in
theorem term_begin.c4 (s : ByteArray) (at_ : Int) (w : World) (h0 : 0 ≤ at_) (h1 : at_ < s.size) (h2 : s.size < 9223372036854775800) (hc : bt s at_ = 107) (hs : at_ + 1 < (s.size : Int)) (hn1 : bt s (at_ + 1) ≠ 103) (hn2 : bt s (at_ + 1) ≠ 101) :
    Calls Try.prog 163 #[.string s, .int .i64 at_] w fun e w' => e = .returned (.tuple #[.agg #[.int .i64 (0), .int .i64 0, .bool false, .int .i64 (at_ + 1), .string (⟨#[]⟩ : ByteArray)], .int .i64 (0), .bool false]) ∧ Below w.heap.size w w' := by
  have hx := bt_at s at_
  rw [hc] at hx
  have hx1 := bt_at s (at_ + 1)
  have hd1 : decide ((s.size : Int) ≤ at_ + 1) = false := decide_eq_false (by omega)
  have hp1 : 0 ≤ at_ + 1 := by omega
  have hq1 : (bt s (at_ + 1) == 103) = false := beq_eq_false_iff_ne.mpr hn1
  have hq2 : (bt s (at_ + 1) == 101) = false := beq_eq_false_iff_ne.mpr hn2
  have hq3 : (bt s (at_ + 1) != 103) = true := bne_iff_ne.mpr hn1
  have hq4 : (bt s (at_ + 1) != 101) = true := bne_iff_ne.mpr hn2
  clear hn1 hn2
  have HB := Aside0.mk (Below.refl w.heap.size w)
  have hu := Try.underlying190
  go_enter Try.func163, Try.ntmps163
  go_wp2
  exact bodyPost_ret (v := .tuple #[.agg #[.int .i64 (0), .int .i64 0, .bool false, .int .i64 (at_ + 1), .string (⟨#[]⟩ : ByteArray)], .int .i64 (0), .bool false]) (by simp [results, Try.results163, go_sem]) rfl ⟨rfl, by repeat (first | exact HB.out | apply below_alloc | apply below_drew1 | apply pw_below_drewN)⟩
set_option maxHeartbeats 400000 in
set_option maxRecDepth 10000 in
theorem term_begin.c5 (s : ByteArray) (at_ : Int) (w : World) (h0 : 0 ≤ at_) (h1 : at_ < s.size) (h2 : s.size < 9223372036854775800) (hc : bt s at_ = 104) :
    Calls Try.prog 163 #[.string s, .int .i64 at_] w fun e w' => e = .returned (.tuple #[.agg #[.int .i64 (1), .int .i64 0, .bool false, .int .i64 (at_ + 1), .string (⟨#[]⟩ : ByteArray)], .int .i64 (at_ + 1), .bool true]) ∧ Below w.heap.size w w' := by
  have hx := bt_at s at_
  rw [hc] at hx
  have HB := Aside0.mk (Below.refl w.heap.size w)
  have hu := Try.underlying190
  go_enter Try.func163, Try.ntmps163
  go_wp2
  go_region
  go_wp2
  exact bodyPost_ret (v := .tuple #[.agg #[.int .i64 (1), .int .i64 0, .bool false, .int .i64 (at_ + 1), .string (⟨#[]⟩ : ByteArray)], .int .i64 (at_ + 1), .bool true]) (by simp [results, Try.results163, go_sem]) rfl ⟨rfl, by repeat (first | exact HB.out | apply below_alloc | apply below_drew1 | apply pw_below_drewN)⟩
set_option maxHeartbeats 400000 in
set_option maxRecDepth 10000 in
theorem term_begin.c6 (s : ByteArray) (at_ : Int) (w : World) (h0 : 0 ≤ at_) (h1 : at_ < s.size) (h2 : s.size < 9223372036854775800) (hc : bt s at_ = 112) :
    Calls Try.prog 163 #[.string s, .int .i64 at_] w fun e w' => e = .returned (.tuple #[.agg #[.int .i64 (2), .int .i64 0, .bool false, .int .i64 (at_ + 1), .string (⟨#[]⟩ : ByteArray)], .int .i64 (at_ + 1), .bool true]) ∧ Below w.heap.size w w' := by
  have hx := bt_at s at_
  rw [hc] at hx
  have HB := Aside0.mk (Below.refl w.heap.size w)
  have hu := Try.underlying190
  go_enter Try.func163, Try.ntmps163
  go_wp2
  go_region
  go_wp2
  exact bodyPost_ret (v := .tuple #[.agg #[.int .i64 (2), .int .i64 0, .bool false, .int .i64 (at_ + 1), .string (⟨#[]⟩ : ByteArray)], .int .i64 (at_ + 1), .bool true]) (by simp [results, Try.results163, go_sem]) rfl ⟨rfl, by repeat (first | exact HB.out | apply below_alloc | apply below_drew1 | apply pw_below_drewN)⟩
set_option maxHeartbeats 400000 in
set_option maxRecDepth 10000 in
theorem term_begin.c7 (s : ByteArray) (at_ : Int) (w : World) (h0 : 0 ≤ at_) (h1 : at_ < s.size) (h2 : s.size < 9223372036854775800) (hc : bt s at_ = 120) :
    Calls Try.prog 163 #[.string s, .int .i64 at_] w fun e w' => e = .returned (.tuple #[.agg #[.int .i64 (2), .int .i64 0, .bool false, .int .i64 (at_ + 1), .string (⟨#[]⟩ : ByteArray)], .int .i64 (at_ + 1), .bool true]) ∧ Below w.heap.size w w' := by
  have hx := bt_at s at_
  rw [hc] at hx
  have HB := Aside0.mk (Below.refl w.heap.size w)
  have hu := Try.underlying190
  go_enter Try.func163, Try.ntmps163
  go_wp2
  go_region
  go_wp2
  exact bodyPost_ret (v := .tuple #[.agg #[.int .i64 (2), .int .i64 0, .bool false, .int .i64 (at_ + 1), .string (⟨#[]⟩ : ByteArray)], .int .i64 (at_ + 1), .bool true]) (by simp [results, Try.results163, go_sem]) rfl ⟨rfl, by repeat (first | exact HB.out | apply below_alloc | apply below_drew1 | apply pw_below_drewN)⟩
set_option maxHeartbeats 400000 in
set_option maxRecDepth 10000 in
theorem term_begin.c8 (s : ByteArray) (at_ : Int) (w : World) (h0 : 0 ≤ at_) (h1 : at_ < s.size) (h2 : s.size < 9223372036854775800) (hc : bt s at_ = 115) :
    Calls Try.prog 163 #[.string s, .int .i64 at_] w fun e w' => e = .returned (.tuple #[.agg #[.int .i64 (3), .int .i64 0, .bool false, .int .i64 (at_ + 1), .string (⟨#[]⟩ : ByteArray)], .int .i64 (at_ + 1), .bool true]) ∧ Below w.heap.size w w' := by
  have hx := bt_at s at_
  rw [hc] at hx
  have HB := Aside0.mk (Below.refl w.heap.size w)
  have hu := Try.underlying190
  go_enter Try.func163, Try.ntmps163
  go_wp2
  go_region
  go_wp2
  exact bodyPost_ret (v := .tuple #[.agg #[.int .i64 (3), .int .i64 0, .bool false, .int .i64 (at_ + 1), .string (⟨#[]⟩ : ByteArray)], .int .i64 (at_ + 1), .bool true]) (by simp [results, Try.results163, go_sem]) rfl ⟨rfl, by repeat (first | exact HB.out | apply below_alloc | apply below_drew1 | apply pw_below_drewN)⟩
set_option maxHeartbeats 400000 in
set_option maxRecDepth 10000 in
theorem term_begin.c9 (s : ByteArray) (at_ : Int) (w : World) (h0 : 0 ≤ at_) (h1 : at_ < s.size) (h2 : s.size < 9223372036854775800) (hc : bt s at_ = 101) (hs : (s.size : Int) ≤ at_ + 1) :
    Calls Try.prog 163 #[.string s, .int .i64 at_] w fun e w' => e = .returned (.tuple #[.agg #[.int .i64 (0), .int .i64 0, .bool false, .int .i64 (at_ + 1), .string (⟨#[]⟩ : ByteArray)], .int .i64 (0), .bool false]) ∧ Below w.heap.size w w' := by
  have hx := bt_at s at_
  rw [hc] at hx
  have hd1 : decide ((s.size : Int) ≤ at_ + 1) = true := decide_eq_true hs
  have HB := Aside0.mk (Below.refl w.heap.size w)
  have hu := Try.underlying190
  go_enter Try.func163, Try.ntmps163
  go_wp2
  exact bodyPost_ret (v := .tuple #[.agg #[.int .i64 (0), .int .i64 0, .bool false, .int .i64 (at_ + 1), .string (⟨#[]⟩ : ByteArray)], .int .i64 (0), .bool false]) (by simp [results, Try.results163, go_sem]) rfl ⟨rfl, by repeat (first | exact HB.out | apply below_alloc | apply below_drew1 | apply pw_below_drewN)⟩
set_option maxHeartbeats 400000 in
set_option maxRecDepth 10000 in
theorem term_begin.c10 (s : ByteArray) (at_ : Int) (w : World) (h0 : 0 ≤ at_) (h1 : at_ < s.size) (h2 : s.size < 9223372036854775800) (hc : bt s at_ = 101) (hs : at_ + 1 < (s.size : Int)) (hl : bt s (at_ + 1) < 1) :
    Calls Try.prog 163 #[.string s, .int .i64 at_] w fun e w' => e = .returned (.tuple #[.agg #[.int .i64 (0), .int .i64 0, .bool false, .int .i64 (at_ + 1), .string (⟨#[]⟩ : ByteArray)], .int .i64 (0), .bool false]) ∧ Below w.heap.size w w' := by
  have hx := bt_at s at_
  rw [hc] at hx
  have hx1 := bt_at s (at_ + 1)
  have hd1 : decide ((s.size : Int) ≤ at_ + 1) = false := decide_eq_false (by omega)
  have hp1 : 0 ≤ at_ + 1 := by omega
  have hq1 : decide (bt s (at_ + 1) < 1) = true := decide_eq_true hl
  have HB := Aside0.mk (Below.refl w.heap.size w)
  have hu := Try.underlying190
  go_enter Try.func163, Try.ntmps163
  go_wp2
  exact bodyPost_ret (v := .tuple #[.agg #[.int .i64 (0), .int .i64 0, .bool false, .int .i64 (at_ + 1), .string (⟨#[]⟩ : ByteArray)], .int .i64 (0), .bool false]) (by simp [results, Try.results163, go_sem]) rfl ⟨rfl, by repeat (first | exact HB.out | apply below_alloc | apply below_drew1 | apply pw_below_drewN)⟩
set_option maxHeartbeats 400000 in
set_option maxRecDepth 10000 in
theorem term_begin.c11 (s : ByteArray) (at_ : Int) (w : World) (h0 : 0 ≤ at_) (h1 : at_ < s.size) (h2 : s.size < 9223372036854775800) (hc : bt s at_ = 101) (hs : at_ + 1 < (s.size : Int)) (hl : ¬ bt s (at_ + 1) < 1) (hg : 32 < bt s (at_ + 1)) :
    Calls Try.prog 163 #[.string s, .int .i64 at_] w fun e w' => e = .returned (.tuple #[.agg #[.int .i64 (0), .int .i64 0, .bool false, .int .i64 (at_ + 1), .string (⟨#[]⟩ : ByteArray)], .int .i64 (0), .bool false]) ∧ Below w.heap.size w w' := by
  have hx := bt_at s at_
  rw [hc] at hx
  have hx1 := bt_at s (at_ + 1)
  have hd1 : decide ((s.size : Int) ≤ at_ + 1) = false := decide_eq_false (by omega)
  have hp1 : 0 ≤ at_ + 1 := by omega
  have hq1 : decide (bt s (at_ + 1) < 1) = false := decide_eq_false hl
  have hq2 : decide (32 < bt s (at_ + 1)) = true := decide_eq_true hg
  have HB := Aside0.mk (Below.refl w.heap.size w)
  have hu := Try.underlying190
  go_enter Try.func163, Try.ntmps163
  go_wp2
  exact bodyPost_ret (v := .tuple #[.agg #[.int .i64 (0), .int .i64 0, .bool false, .int .i64 (at_ + 1), .string (⟨#[]⟩ : ByteArray)], .int .i64 (0), .bool false]) (by simp [results, Try.results163, go_sem]) rfl ⟨rfl, by repeat (first | exact HB.out | apply below_alloc | apply below_drew1 | apply pw_below_drewN)⟩
set_option maxHeartbeats 400000 in
set_option maxRecDepth 10000 in
theorem term_begin.c12 (s : ByteArray) (at_ : Int) (w : World) (h0 : 0 ≤ at_) (h1 : at_ < s.size) (h2 : s.size < 9223372036854775800) (hc : bt s at_ = 101) (hs : at_ + 1 < (s.size : Int)) (hl : ¬ bt s (at_ + 1) < 1) (hg : ¬ 32 < bt s (at_ + 1)) :
    Calls Try.prog 163 #[.string s, .int .i64 at_] w fun e w' => e = .returned (.tuple #[.agg #[.int .i64 (bt s (at_ + 1)), .int .i64 0, .bool true, .int .i64 (at_ + 2), .string (⟨#[]⟩ : ByteArray)], .int .i64 (at_ + 2), .bool true]) ∧ Below w.heap.size w w' := by
  have hx := bt_at s at_
  rw [hc] at hx
  have hx1 := bt_at s (at_ + 1)
  have hd1 : decide ((s.size : Int) ≤ at_ + 1) = false := decide_eq_false (by omega)
  have hp1 : 0 ≤ at_ + 1 := by omega
  have hq1 : decide (bt s (at_ + 1) < 1) = false := decide_eq_false hl
  have hq2 : decide (32 < bt s (at_ + 1)) = false := decide_eq_false hg
  have hr1 := bt_range s (at_ + 1)
  have HB := Aside0.mk (Below.refl w.heap.size w)
  have hu := Try.underlying190
  go_enter Try.func163, Try.ntmps163
  go_wp2
  go_region
  go_wp2
  exact bodyPost_ret (v := .tuple #[.agg #[.int .i64 (bt s (at_ + 1)), .int .i64 0, .bool true, .int .i64 (at_ + 2), .string (⟨#[]⟩ : ByteArray)], .int .i64 (at_ + 2), .bool true]) (by simp [results, Try.results163, go_sem]) rfl ⟨rfl, by repeat (first | exact HB.out | apply below_alloc | apply below_drew1 | apply pw_below_drewN)⟩
set_option maxHeartbeats 400000 in
set_option maxRecDepth 10000 in
theorem term_begin.c13 (s : ByteArray) (at_ : Int) (w : World) (h0 : 0 ≤ at_) (h1 : at_ < s.size) (h2 : s.size < 9223372036854775800) (n1 : bt s at_ ≠ 107) (n2 : bt s at_ ≠ 104) (n3 : bt s at_ ≠ 112) (n4 : bt s at_ ≠ 120) (n5 : bt s at_ ≠ 115) (n6 : bt s at_ ≠ 101) :
    Calls Try.prog 163 #[.string s, .int .i64 at_] w fun e w' => e = .returned (.tuple #[.agg #[.int .i64 (0), .int .i64 0, .bool false, .int .i64 (at_ + 1), .string (⟨#[]⟩ : ByteArray)], .int .i64 (0), .bool false]) ∧ Below w.heap.size w w' := by
  have hx := bt_at s at_
  have q1 : (bt s at_ == 107) = false := beq_eq_false_iff_ne.mpr n1
  have q2 : (bt s at_ == 104) = false := beq_eq_false_iff_ne.mpr n2
  have q3 : (bt s at_ == 112) = false := beq_eq_false_iff_ne.mpr n3
  have q4 : (bt s at_ == 120) = false := beq_eq_false_iff_ne.mpr n4
  have q5 : (bt s at_ == 115) = false := beq_eq_false_iff_ne.mpr n5
  have q6 : (bt s at_ == 101) = false := beq_eq_false_iff_ne.mpr n6
  clear n1 n2 n3 n4 n5 n6
  have HB := Aside0.mk (Below.refl w.heap.size w)
  have hu := Try.underlying190
  go_enter Try.func163, Try.ntmps163
  go_wp2
  exact bodyPost_ret (v := .tuple #[.agg #[.int .i64 (0), .int .i64 0, .bool false, .int .i64 (at_ + 1), .string (⟨#[]⟩ : ByteArray)], .int .i64 (0), .bool false]) (by simp [results, Try.results163, go_sem]) rfl ⟨rfl, by repeat (first | exact HB.out | apply below_alloc | apply below_drew1 | apply pw_below_drewN)⟩
def beginF (s : ByteArray) (at_ : Int) : Int × Int × Bool × Int × ByteArray × Int × Bool :=
  if bt s at_ = 107 then (if at_ + 1 < (s.size : Int) ∧ (bt s (at_ + 1) = 103 ∨ bt s (at_ + 1) = 101) then (1, 0, false, at_ + 1, ⟨#[]⟩, at_ + 1, true) else (0, 0, false, at_ + 1, ⟨#[]⟩, 0, false))
  else if bt s at_ = 104 then (1, 0, false, at_ + 1, ⟨#[]⟩, at_ + 1, true)
  else if bt s at_ = 112 ∨ bt s at_ = 120 then (2, 0, false, at_ + 1, ⟨#[]⟩, at_ + 1, true)
  else if bt s at_ = 115 then (3, 0, false, at_ + 1, ⟨#[]⟩, at_ + 1, true)
  else if bt s at_ = 101 then (if at_ + 1 < (s.size : Int) ∧ 1 ≤ bt s (at_ + 1) ∧ bt s (at_ + 1) ≤ 32 then (bt s (at_ + 1), 0, true, at_ + 2, ⟨#[]⟩, at_ + 2, true) else (0, 0, false, at_ + 1, ⟨#[]⟩, 0, false))
  else (0, 0, false, at_ + 1, ⟨#[]⟩, 0, false)
def term_begin.f (s : ByteArray) (at_ : Int) : Option (Int × Int × Bool × Int × ByteArray × Int × Bool) := if 0 ≤ at_ ∧ at_ < s.size ∧ s.size < 9223372036854775800 then some (beginF s at_) else none
theorem term_begin.calls (a0 : ByteArray) (a1 : Int) (r1 : Int) (r2 : Int) (r3 : Bool) (r4 : Int) (r5 : ByteArray) (r6 : Int) (r7 : Bool) (w : World) (h : term_begin.f a0 a1 = some (r1, r2, r3, r4, r5, r6, r7)) :
    Calls Try.prog 163 #[.string a0, .int .i64 a1] w fun e w' => e = .returned (.tuple #[.agg #[.int .i64 r1, .int .i64 r2, .bool r3, .int .i64 r4, .string r5], .int .i64 r6, .bool r7]) ∧ Below w.heap.size w w' := by
  unfold term_begin.f at h
  split at h
  case isFalse => cases h
  rename_i hb
  obtain ⟨h0, h1, h2⟩ := hb
  replace h := Option.some.inj h
  unfold beginF at h
  by_cases k1 : bt a0 a1 = 107
  · rw [if_pos k1] at h
    by_cases k2 : a1 + 1 < (a0.size : Int)
    · by_cases k3 : bt a0 (a1 + 1) = 103
      · rw [if_pos ⟨k2, .inl k3⟩] at h
        simp only [Prod.mk.injEq] at h
        obtain ⟨rfl, rfl, rfl, rfl, rfl, rfl, rfl⟩ := h
        exact term_begin.c2 a0 a1 w h0 h1 h2 k1 k2 k3
      · by_cases k4 : bt a0 (a1 + 1) = 101
        · rw [if_pos ⟨k2, .inr k4⟩] at h
          simp only [Prod.mk.injEq] at h
          obtain ⟨rfl, rfl, rfl, rfl, rfl, rfl, rfl⟩ := h
          exact term_begin.c3 a0 a1 w h0 h1 h2 k1 k2 k4
        · rw [if_neg (by rintro ⟨_, h | h⟩ <;> contradiction)] at h
          simp only [Prod.mk.injEq] at h
          obtain ⟨rfl, rfl, rfl, rfl, rfl, rfl, rfl⟩ := h
          exact term_begin.c4 a0 a1 w h0 h1 h2 k1 k2 k3 k4
    · rw [if_neg (fun h => k2 h.1)] at h
      simp only [Prod.mk.injEq] at h
      obtain ⟨rfl, rfl, rfl, rfl, rfl, rfl, rfl⟩ := h
      exact term_begin.c1 a0 a1 w h0 h1 h2 k1 (by omega)
  rw [if_neg k1] at h
  by_cases k2 : bt a0 a1 = 104
  · rw [if_pos k2] at h
    simp only [Prod.mk.injEq] at h
    obtain ⟨rfl, rfl, rfl, rfl, rfl, rfl, rfl⟩ := h
    exact term_begin.c5 a0 a1 w h0 h1 h2 k2
  rw [if_neg k2] at h
  by_cases k3 : bt a0 a1 = 112
  · rw [if_pos (.inl k3)] at h
    simp only [Prod.mk.injEq] at h
    obtain ⟨rfl, rfl, rfl, rfl, rfl, rfl, rfl⟩ := h
    exact term_begin.c6 a0 a1 w h0 h1 h2 k3
  by_cases k4 : bt a0 a1 = 120
  · rw [if_pos (.inr k4)] at h
    simp only [Prod.mk.injEq] at h
    obtain ⟨rfl, rfl, rfl, rfl, rfl, rfl, rfl⟩ := h
    exact term_begin.c7 a0 a1 w h0 h1 h2 k4
  rw [if_neg (by rintro (h | h) <;> contradiction)] at h
  by_cases k5 : bt a0 a1 = 115
  · rw [if_pos k5] at h
    simp only [Prod.mk.injEq] at h
    obtain ⟨rfl, rfl, rfl, rfl, rfl, rfl, rfl⟩ := h
    exact term_begin.c8 a0 a1 w h0 h1 h2 k5
  rw [if_neg k5] at h
  by_cases k6 : bt a0 a1 = 101
  · rw [if_pos k6] at h
    by_cases k7 : a1 + 1 < (a0.size : Int)
    · by_cases k8 : bt a0 (a1 + 1) < 1
      · rw [if_neg (by omega)] at h
        simp only [Prod.mk.injEq] at h
        obtain ⟨rfl, rfl, rfl, rfl, rfl, rfl, rfl⟩ := h
        exact term_begin.c10 a0 a1 w h0 h1 h2 k6 k7 k8
      · by_cases k9 : 32 < bt a0 (a1 + 1)
        · rw [if_neg (by omega)] at h
          simp only [Prod.mk.injEq] at h
          obtain ⟨rfl, rfl, rfl, rfl, rfl, rfl, rfl⟩ := h
          exact term_begin.c11 a0 a1 w h0 h1 h2 k6 k7 k8 k9
        · rw [if_pos (by omega)] at h
          simp only [Prod.mk.injEq] at h
          obtain ⟨rfl, rfl, rfl, rfl, rfl, rfl, rfl⟩ := h
          exact term_begin.c12 a0 a1 w h0 h1 h2 k6 k7 k8 k9
    · rw [if_neg (fun h => k7 h.1)] at h
      simp only [Prod.mk.injEq] at h
      obtain ⟨rfl, rfl, rfl, rfl, rfl, rfl, rfl⟩ := h
      exact term_begin.c9 a0 a1 w h0 h1 h2 k6 (by omega)
  rw [if_neg k6] at h
  simp only [Prod.mk.injEq] at h
  obtain ⟨rfl, rfl, rfl, rfl, rfl, rfl, rfl⟩ := h
  exact term_begin.c13 a0 a1 w h0 h1 h2 k1 k2 k3 k4 k5 k6

end Go.Proofs.Ytpfpmjdifnoeoaa.F
