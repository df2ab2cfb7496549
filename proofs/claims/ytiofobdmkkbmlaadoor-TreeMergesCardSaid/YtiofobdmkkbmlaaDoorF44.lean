-- Laid by mk.py (a program of this session) over the seat's translation.
import Derived.Test.YtiofobdmkkbmlaaDoorF0
namespace Go.Proofs.YtiofobdmkkbmlaaDoor.F
open Go.RowKit Go.Proofs.YtiofobdmkkbmlaaDoorW.PrintWords Go.Proofs.YtiofobdmkkbmlaaDoorW.PrintLast Go.Proofs.YtiofobdmkkbmlaaDoorW.PrintMore
attribute [local go_sem] max2_int min2_int max_two min_two max_three min_three max_four min_four
set_option linter.unusedVariables false
set_option linter.unusedSimpArgs false

/-! ### strconv_Itoa_44: function 44 -/
/-- The text of a digit. -/
def digT (n : Int) : ByteArray := ⟨#[UInt8.ofNat (48 + n.toNat)]⟩
def strconv_Itoa_44.f (n : Int) : Option ByteArray := if 0 ≤ n ∧ n ≤ 9 then some (digT n) else none
set_option maxHeartbeats 1000000 in
set_option maxRecDepth 100000 in
theorem itoa.small (n : Int) (h : 0 ≤ n ∧ n ≤ 9) (w : World) : Calls Tryd.prog 82 #[.int .i64 n] w fun e w' => e = .returned (.string (digT n)) ∧ Drawn0 w w' := by
  have : n = 0 ∨ n = 1 ∨ n = 2 ∨ n = 3 ∨ n = 4 ∨ n = 5 ∨ n = 6 ∨ n = 7 ∨ n = 8 ∨ n = 9 := by omega
  clear h
  rcases this with rfl | rfl | rfl | rfl | rfl | rfl | rfl | rfl | rfl | rfl
  all_goals
    go_enter Tryd.func82, Tryd.ntmps82
    go_wp2
    go_ret
    exact ⟨rfl, Drawn0.refl _⟩
set_option maxHeartbeats 1000000 in
set_option maxRecDepth 100000 in
theorem itoa.format (n : Int) (h : 0 ≤ n ∧ n ≤ 9) (w : World) : Calls Tryd.prog 68 #[.int .i64 n, .int .i64 10] w fun e w' => e = .returned (.string (digT n)) ∧ Drawn0 w w' := by
  have HS := Aside0.mk (fun W => itoa.small n h W)
  have c1 : decide (0 ≤ n) = true := decide_eq_true h.1
  have c2 : decide (n < 100) = true := decide_eq_true (by omega)
  clear h
  go_enter Tryd.func68, Tryd.ntmps68
  go_wp2_with (go_at_call 82; go_loud (refine (HS.out _).mono ?_; rintro e w1 ⟨rfl, hd⟩))
  go_ret
  exact ⟨rfl, hd⟩
set_option maxHeartbeats 1000000 in
set_option maxRecDepth 100000 in
theorem itoa.inner (n : Int) (h : 0 ≤ n ∧ n ≤ 9) (w : World) : Calls Tryd.prog 60 #[.int .i64 n] w fun e w' => e = .returned (.string (digT n)) ∧ Drawn0 w w' := by
  have HS := Aside0.mk (fun W => itoa.format n h W)
  clear h
  go_enter Tryd.func60, Tryd.ntmps60
  go_wp2_with (go_at_call 68; go_loud (refine (HS.out _).mono ?_; rintro e w1 ⟨rfl, hd⟩))
  go_ret
  exact ⟨rfl, hd⟩
set_option maxHeartbeats 1000000 in
set_option maxRecDepth 100000 in
theorem strconv_Itoa_44.calls (n : Int) (r : ByteArray) (w : World) (h : strconv_Itoa_44.f n = some r) : Calls Tryd.prog 44 #[.int .i64 n] w fun e w' => e = .returned (.string r) ∧ Drawn0 w w' := by
  unfold strconv_Itoa_44.f at h
  split at h
  case isFalse => cases h
  rename_i hs
  obtain rfl := Option.some.inj h
  have HS := Aside0.mk (fun W => itoa.inner n hs W)
  clear h hs
  go_enter Tryd.func44, Tryd.ntmps44
  go_wp2_with (go_at_call 60; go_loud (refine (HS.out _).mono ?_; rintro e w1 ⟨rfl, hd⟩))
  go_ret
  exact ⟨rfl, hd⟩
theorem itoa.dig (n : Int) (h : 0 ≤ n ∧ n ≤ 9) (w : World) : Calls Tryd.prog 44 #[.int .i64 n] w fun e w' => e = .returned (.string (digT n)) ∧ Drawn0 w w' := strconv_Itoa_44.calls n _ w (if_pos h)

end Go.Proofs.YtiofobdmkkbmlaaDoor.F
