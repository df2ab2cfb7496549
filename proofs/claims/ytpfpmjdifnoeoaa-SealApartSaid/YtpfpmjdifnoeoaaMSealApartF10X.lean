import Derived.Test.YtpfpmjdifnoeoaaMSealApartF0
import Derived.Test.YtpfpmjdifnoeoaaMSealApartF10D
import Derived.Test.YtpfpmjdifnoeoaaMSealApartF56
import Derived.Test.YtpfpmjdifnoeoaaMSealApartF59
import Derived.Test.YtpfpmjdifnoeoaaMSealApartF63
import Derived.Test.YtpfpmjdifnoeoaaMSealApartF64
import Derived.Test.YtpfpmjdifnoeoaaMSealApartB1
namespace Go.Proofs.Ytpfpmjdifnoeoaa.F
open Go.RowKit Go.Proofs.YtpfpmjdifnoeoaaW.PrintWords Go.Proofs.YtpfpmjdifnoeoaaW.PrintLast Go.Proofs.YtpfpmjdifnoeoaaW.PrintMore
attribute [local go_sem] max2_int min2_int max_two min_two max_three min_three max_four min_four
set_option linter.unusedVariables false
set_option linter.unusedSimpArgs false
set_option maxHeartbeats 8000000 in
set_option maxRecDepth 100000 in
theorem gemotlaw17_SealApart.callsA (k : Nat) (a0 : Int) (A1 : Option Addr) (c1 : Nat) (l1 : List Int) (a2 : ByteArray) (a3 : ByteArray) (r : Bool) (w : World) (hr1 : Kd.C (Kd.int .i64) w A1 l1.length l1) (hc1 : l1.length ≤ c1) (h : gemotlaw17_SealApart.f k a0 l1 a2 a3 = some r) (hq : gemotlaw17_pick.f (rd l1 0) 1000 = gemotlaw17_pick.f (rd l1 3) 1000 ∧ gemotlaw17_pick.f (rd l1 1) 8 = gemotlaw17_pick.f (rd l1 4) 8) :
    Calls Try.prog 10 #[.int .u64 a0, .slice A1 l1.length c1, .string a2, .string a3] w fun e w' => e = .returned (.bool r) ∧ Below w.heap.size w w' := by
  have HQ := Aside0.mk hq
  clear hq
  have HR1 := Aside0.mk hr1
  have HC1 := Aside0.mk hc1
  clear hr1 hc1; have HB := Aside0.mk (Below.refl w.heap.size w)
  have H : ((gemotlaw17_shown.f).bind fun t1001 => (if t1001 = true then (if (a2.size : Int) > 90 then (gemotlaw17_SealApart.j0 k a0 l1 a2 a3 t1001 true) else (if (a3.size : Int) > 90 then (gemotlaw17_SealApart.j0 k a0 l1 a2 a3 t1001 true) else (gemotlaw17_SealApart.j0 k a0 l1 a2 a3 t1001 (decide ((l1.length : Int) < 6))))) else (gemotlaw17_SealApart.j0 k a0 l1 a2 a3 t1001 true))) = some r := h
  clear h; replace H := Option.bind_eq_some_iff.mp H
  obtain ⟨t1001, A50, H⟩ := H; replace H : (if t1001 = true then (if (a2.size : Int) > 90 then (gemotlaw17_SealApart.j0 k a0 l1 a2 a3 t1001 true) else (if (a3.size : Int) > 90 then (gemotlaw17_SealApart.j0 k a0 l1 a2 a3 t1001 true) else (gemotlaw17_SealApart.j0 k a0 l1 a2 a3 t1001 (decide ((l1.length : Int) < 6))))) else (gemotlaw17_SealApart.j0 k a0 l1 a2 a3 t1001 true)) = some r := H
  have A5 := Aside0.mk A50
  clear A50; have HC6 := Aside0.mk H
  clear H; go_enter Try.func10, Try.ntmps10
  go_upto_region 2 with (first | ((with_reducible refine gate_callee (f := 56) rfl ?_); refine goesL_ (some 15) rfl rfl Try.func56 (by kernel_rfl) rfl #[] rfl (by simp only [List.map_toArray, List.map_cons, List.map_nil] <;> rfl) ?_; (with_reducible refine (gemotlaw17_shown.calls  t1001 _ A5.out).mono ?_); rintro e w7 ⟨rfl, hb⟩; refine ⟨_, rfl, ?_⟩; have n0_ := Aside0.mk (below_step (by repeat with_reducible first | exact HB.out | apply below_alloc | apply pw_below_drewN | apply below_drew1) hb); clear HB; have HB := n0_; clear n0_; (try clear hb)))
  (try simp only [Act.put, List.setIfInBounds_toArray, List.set_cons_zero, List.set_cons_succ]); go_cut [32] (fun v32 wc => ∃ (kq : Nat) (x32_5 : Bool), v32 = .bool x32_5 ∧ Aside0 (gemotlaw17_SealApart.j0 kq a0 l1 a2 a3 t1001 x32_5 = some r) ∧ Aside0 (kq ≤ k) ∧ Aside0 (Below w.heap.size w wc))
  case first =>
    have H := HC6.out; clear HC6; by_cases c8 : t1001 = true
    · subst c8; have H1 : (if (a2.size : Int) > 90 then (gemotlaw17_SealApart.j0 k a0 l1 a2 a3 true true) else (if (a3.size : Int) > 90 then (gemotlaw17_SealApart.j0 k a0 l1 a2 a3 true true) else (gemotlaw17_SealApart.j0 k a0 l1 a2 a3 true (decide ((l1.length : Int) < 6))))) = some r := by rw [if_pos rfl] at H; exact H
      clear H; have H := H1; clear H1; by_cases c9 : (a2.size : Int) > 90
      · rw [if_pos c9] at H
        have c9b0 : decide (90 < (a2.size : Int)) = true := decide_eq_true c9
        have c9b1 : decide (90 < a2.size) = true := decide_eq_true (by omega)
        clear c9; (first | rw [c9b0] | (simp only [i64_w, i32_w]; rw [c9b0]) | skip); have H' := Aside0.mk H
        clear H; go_wp2; go_meet
        case rel => exact ⟨_, (true), (by first | rfl | (simp; done) | (simp [*]; done)), H', ⟨by first | omega | exact Nat.le_refl _⟩, ⟨by repeat (first | (with_reducible first | exact HB.out | apply below_alloc | apply pw_below_drewN | apply below_drew1) | exact HB.out)⟩⟩
      · rw [if_neg c9] at H
        have c9b0 : decide (90 < (a2.size : Int)) = false := decide_eq_false c9
        have c9b1 : decide (90 < a2.size) = false := decide_eq_false (by omega)
        clear c9; (first | rw [c9b0] | (simp only [i64_w, i32_w]; rw [c9b0]) | skip); by_cases c10 : (a3.size : Int) > 90
        · rw [if_pos c10] at H
          have c10b0 : decide (90 < (a3.size : Int)) = true := decide_eq_true c10
          have c10b1 : decide (90 < a3.size) = true := decide_eq_true (by omega)
          clear c10; have H' := Aside0.mk H
          clear H; go_wp2; go_meet
          case rel => exact ⟨_, (true), (by first | rfl | (simp; done) | (simp [*]; done)), H', ⟨by first | omega | exact Nat.le_refl _⟩, ⟨by repeat (first | (with_reducible first | exact HB.out | apply below_alloc | apply pw_below_drewN | apply below_drew1) | exact HB.out)⟩⟩
        · rw [if_neg c10] at H
          have c10b0 : decide (90 < (a3.size : Int)) = false := decide_eq_false c10
          have c10b1 : decide (90 < a3.size) = false := decide_eq_false (by omega)
          clear c10; have H' := Aside0.mk H
          clear H; go_wp2; go_meet
          case rel => exact ⟨_, (decide ((l1.length : Int) < 6)), (by first | rfl | (simp; done) | (simp [*]; done)), H', ⟨by first | omega | exact Nat.le_refl _⟩, ⟨by repeat (first | (with_reducible first | exact HB.out | apply below_alloc | apply pw_below_drewN | apply below_drew1) | exact HB.out)⟩⟩
    · replace c8 := Bool.eq_false_iff.mpr c8
      subst c8; have H1 : (gemotlaw17_SealApart.j0 k a0 l1 a2 a3 false true) = some r := by rw [if_neg (show ¬ (false = true) by decide)] at H; exact H
      clear H; have H := H1; clear H1; have H' := Aside0.mk H
      clear H; go_wp2; go_meet
      case rel => exact ⟨_, (true), (by first | rfl | (simp; done) | (simp [*]; done)), H', ⟨by first | omega | exact Nat.le_refl _⟩, ⟨by repeat (first | (with_reducible first | exact HB.out | apply below_alloc | apply pw_below_drewN | apply below_drew1) | exact HB.out)⟩⟩
  case rest =>
    clear HC6; try clear c1
    try clear p2
    try clear c5
    try clear c8
    try clear c9
    try clear c9b0
    try clear c9b1
    try clear c10
    try clear c10b0
    try clear c10b1
    obtain ⟨kq, x32_5, rfl, HA, HJ5, HB⟩ := hcut; cases kq with
    | zero => exact absurd HA.out (by simp [gemotlaw17_SealApart.j0])
    | succ kj5 =>
      have H := HA.out; clear HA; simp only [gemotlaw17_SealApart.j0] at H; by_cases c11 : x32_5 = true
      · subst c11; have H1 : (some t1001) = some r := by rw [if_pos rfl] at H; exact H
        clear H; have H := H1; clear H1; obtain rfl := Option.some.inj H
        go_wp2; go_ret
        exact ⟨by first | rfl | (simp [errW_none, errW_some] <;> rfl) | (simp [*, errW_none, errW_some] <;> rfl), by repeat (first | (with_reducible first | exact HB.out | apply below_alloc | apply pw_below_drewN | apply below_drew1) | exact HB.out)⟩
      · replace c11 := Bool.eq_false_iff.mpr c11
        subst c11; have H1 : ((term_Name.f a0).bind fun t1002 => (if 0 < (l1.length : Int) then ((gemotlaw17_of.f (rd l1 0)).bind fun bt1004 => (if 1 < (l1.length : Int) then ((gemotlaw17_pick.f (rd l1 1) 8).bind fun t1010 => (if 2 < (l1.length : Int) then ((gemotlaw17_pick.f (rd l1 2) 32).bind fun t1012 => ((seal_Close.f t1002 bt1004.1 bt1004.2.1 bt1004.2.2 (wrap64 (1 + t1010)) (wrap64 (1 + t1012)) a2).bind fun bt1013 => ((term_Name.f a0).bind fun t1015 => (if 3 < (l1.length : Int) then ((gemotlaw17_of.f (rd l1 3)).bind fun bt1017 => (if 4 < (l1.length : Int) then ((gemotlaw17_pick.f (rd l1 4) 8).bind fun t1023 => (if 5 < (l1.length : Int) then ((gemotlaw17_pick.f (rd l1 5) 32).bind fun t1025 => ((seal_Close.f t1015 bt1017.1 bt1017.2.1 bt1017.2.2 (wrap64 (1 + t1023)) (wrap64 (1 + t1025)) a3).bind fun bt1026 => ((gemotlaw17_pick.f (rd l1 0) 1000).bind fun t1029 => ((gemotlaw17_pick.f (rd l1 3) 1000).bind fun t1031 => (if t1029 = t1031 then ((gemotlaw17_pick.f (rd l1 1) 8).bind fun t1033 => ((gemotlaw17_pick.f (rd l1 4) 8).bind fun t1035 => (if t1033 = t1035 then ((gemotlaw17_pick.f (rd l1 2) 32).bind fun t1037 => ((gemotlaw17_pick.f (rd l1 5) 32).bind fun t1039 => (if t1037 = t1039 then (if bt1013.2 = 0 then (if bt1026.2 = 0 then (some ((bt1013.1.toList == bt1026.1.toList) == (a2.toList == a3.toList))) else (none)) else (none)) else (if bt1013.2 = 0 then (if bt1026.2 = 0 then (some ((bt1013.1.toList == bt1026.1.toList) == false)) else (none)) else (none))))) else (if bt1013.2 = 0 then (if bt1026.2 = 0 then (some ((bt1013.1.toList == bt1026.1.toList) == false)) else (none)) else (none))))) else (if bt1013.2 = 0 then (if bt1026.2 = 0 then (some ((bt1013.1.toList == bt1026.1.toList) == false)) else (none)) else (none))))))) else (none))) else (none))) else (none))))) else (none))) else (none))) else (none))) = some r := by rw [if_neg (show ¬ (false = true) by decide)] at H; exact H
        clear H; have H := H1; clear H1; replace H := Option.bind_eq_some_iff.mp H
        obtain ⟨t1002, A120, H⟩ := H; replace H : (if 0 < (l1.length : Int) then ((gemotlaw17_of.f (rd l1 0)).bind fun bt1004 => (if 1 < (l1.length : Int) then ((gemotlaw17_pick.f (rd l1 1) 8).bind fun t1010 => (if 2 < (l1.length : Int) then ((gemotlaw17_pick.f (rd l1 2) 32).bind fun t1012 => ((seal_Close.f t1002 bt1004.1 bt1004.2.1 bt1004.2.2 (wrap64 (1 + t1010)) (wrap64 (1 + t1012)) a2).bind fun bt1013 => ((term_Name.f a0).bind fun t1015 => (if 3 < (l1.length : Int) then ((gemotlaw17_of.f (rd l1 3)).bind fun bt1017 => (if 4 < (l1.length : Int) then ((gemotlaw17_pick.f (rd l1 4) 8).bind fun t1023 => (if 5 < (l1.length : Int) then ((gemotlaw17_pick.f (rd l1 5) 32).bind fun t1025 => ((seal_Close.f t1015 bt1017.1 bt1017.2.1 bt1017.2.2 (wrap64 (1 + t1023)) (wrap64 (1 + t1025)) a3).bind fun bt1026 => ((gemotlaw17_pick.f (rd l1 0) 1000).bind fun t1029 => ((gemotlaw17_pick.f (rd l1 3) 1000).bind fun t1031 => (if t1029 = t1031 then ((gemotlaw17_pick.f (rd l1 1) 8).bind fun t1033 => ((gemotlaw17_pick.f (rd l1 4) 8).bind fun t1035 => (if t1033 = t1035 then ((gemotlaw17_pick.f (rd l1 2) 32).bind fun t1037 => ((gemotlaw17_pick.f (rd l1 5) 32).bind fun t1039 => (if t1037 = t1039 then (if bt1013.2 = 0 then (if bt1026.2 = 0 then (some ((bt1013.1.toList == bt1026.1.toList) == (a2.toList == a3.toList))) else (none)) else (none)) else (if bt1013.2 = 0 then (if bt1026.2 = 0 then (some ((bt1013.1.toList == bt1026.1.toList) == false)) else (none)) else (none))))) else (if bt1013.2 = 0 then (if bt1026.2 = 0 then (some ((bt1013.1.toList == bt1026.1.toList) == false)) else (none)) else (none))))) else (if bt1013.2 = 0 then (if bt1026.2 = 0 then (some ((bt1013.1.toList == bt1026.1.toList) == false)) else (none)) else (none))))))) else (none))) else (none))) else (none))))) else (none))) else (none))) else (none)) = some r := H
        have A12 := Aside0.mk A120
        clear A120; by_cases c13 : 0 < (l1.length : Int); rotate_left; · (rw [if_neg c13] at H; exact absurd H (by simp))
        rw [if_pos c13] at H
        have c13b0 : decide (0 < (l1.length : Int)) = true := decide_eq_true c13
        have c13b1 : decide (0 < l1.length) = true := decide_eq_true (by omega)
        clear c13; replace H := Option.bind_eq_some_iff.mp H
        obtain ⟨⟨t1004, t1005, t1006⟩, A140, H⟩ := H
        replace H : (if 1 < (l1.length : Int) then ((gemotlaw17_pick.f (rd l1 1) 8).bind fun t1010 => (if 2 < (l1.length : Int) then ((gemotlaw17_pick.f (rd l1 2) 32).bind fun t1012 => ((seal_Close.f t1002 t1004 t1005 t1006 (wrap64 (1 + t1010)) (wrap64 (1 + t1012)) a2).bind fun bt1013 => ((term_Name.f a0).bind fun t1015 => (if 3 < (l1.length : Int) then ((gemotlaw17_of.f (rd l1 3)).bind fun bt1017 => (if 4 < (l1.length : Int) then ((gemotlaw17_pick.f (rd l1 4) 8).bind fun t1023 => (if 5 < (l1.length : Int) then ((gemotlaw17_pick.f (rd l1 5) 32).bind fun t1025 => ((seal_Close.f t1015 bt1017.1 bt1017.2.1 bt1017.2.2 (wrap64 (1 + t1023)) (wrap64 (1 + t1025)) a3).bind fun bt1026 => ((gemotlaw17_pick.f (rd l1 0) 1000).bind fun t1029 => ((gemotlaw17_pick.f (rd l1 3) 1000).bind fun t1031 => (if t1029 = t1031 then ((gemotlaw17_pick.f (rd l1 1) 8).bind fun t1033 => ((gemotlaw17_pick.f (rd l1 4) 8).bind fun t1035 => (if t1033 = t1035 then ((gemotlaw17_pick.f (rd l1 2) 32).bind fun t1037 => ((gemotlaw17_pick.f (rd l1 5) 32).bind fun t1039 => (if t1037 = t1039 then (if bt1013.2 = 0 then (if bt1026.2 = 0 then (some ((bt1013.1.toList == bt1026.1.toList) == (a2.toList == a3.toList))) else (none)) else (none)) else (if bt1013.2 = 0 then (if bt1026.2 = 0 then (some ((bt1013.1.toList == bt1026.1.toList) == false)) else (none)) else (none))))) else (if bt1013.2 = 0 then (if bt1026.2 = 0 then (some ((bt1013.1.toList == bt1026.1.toList) == false)) else (none)) else (none))))) else (if bt1013.2 = 0 then (if bt1026.2 = 0 then (some ((bt1013.1.toList == bt1026.1.toList) == false)) else (none)) else (none))))))) else (none))) else (none))) else (none))))) else (none))) else (none)) = some r := H
        have A14 := Aside0.mk A140
        clear A140; by_cases c15 : 1 < (l1.length : Int); rotate_left; · (rw [if_neg c15] at H; exact absurd H (by simp))
        rw [if_pos c15] at H
        have c15b0 : decide (1 < (l1.length : Int)) = true := decide_eq_true c15
        have c15b1 : decide (1 < l1.length) = true := decide_eq_true (by omega)
        clear c15; replace H := Option.bind_eq_some_iff.mp H
        obtain ⟨t1010, A160, H⟩ := H; replace H : (if 2 < (l1.length : Int) then ((gemotlaw17_pick.f (rd l1 2) 32).bind fun t1012 => ((seal_Close.f t1002 t1004 t1005 t1006 (wrap64 (1 + t1010)) (wrap64 (1 + t1012)) a2).bind fun bt1013 => ((term_Name.f a0).bind fun t1015 => (if 3 < (l1.length : Int) then ((gemotlaw17_of.f (rd l1 3)).bind fun bt1017 => (if 4 < (l1.length : Int) then ((gemotlaw17_pick.f (rd l1 4) 8).bind fun t1023 => (if 5 < (l1.length : Int) then ((gemotlaw17_pick.f (rd l1 5) 32).bind fun t1025 => ((seal_Close.f t1015 bt1017.1 bt1017.2.1 bt1017.2.2 (wrap64 (1 + t1023)) (wrap64 (1 + t1025)) a3).bind fun bt1026 => ((gemotlaw17_pick.f (rd l1 0) 1000).bind fun t1029 => ((gemotlaw17_pick.f (rd l1 3) 1000).bind fun t1031 => (if t1029 = t1031 then ((gemotlaw17_pick.f (rd l1 1) 8).bind fun t1033 => ((gemotlaw17_pick.f (rd l1 4) 8).bind fun t1035 => (if t1033 = t1035 then ((gemotlaw17_pick.f (rd l1 2) 32).bind fun t1037 => ((gemotlaw17_pick.f (rd l1 5) 32).bind fun t1039 => (if t1037 = t1039 then (if bt1013.2 = 0 then (if bt1026.2 = 0 then (some ((bt1013.1.toList == bt1026.1.toList) == (a2.toList == a3.toList))) else (none)) else (none)) else (if bt1013.2 = 0 then (if bt1026.2 = 0 then (some ((bt1013.1.toList == bt1026.1.toList) == false)) else (none)) else (none))))) else (if bt1013.2 = 0 then (if bt1026.2 = 0 then (some ((bt1013.1.toList == bt1026.1.toList) == false)) else (none)) else (none))))) else (if bt1013.2 = 0 then (if bt1026.2 = 0 then (some ((bt1013.1.toList == bt1026.1.toList) == false)) else (none)) else (none))))))) else (none))) else (none))) else (none))))) else (none)) = some r := H
        have A16 := Aside0.mk A160
        clear A160; by_cases c17 : 2 < (l1.length : Int); rotate_left; · (rw [if_neg c17] at H; exact absurd H (by simp))
        rw [if_pos c17] at H
        have c17b0 : decide (2 < (l1.length : Int)) = true := decide_eq_true c17
        have c17b1 : decide (2 < l1.length) = true := decide_eq_true (by omega)
        clear c17; replace H := Option.bind_eq_some_iff.mp H
        obtain ⟨t1012, A180, H⟩ := H; replace H : ((seal_Close.f t1002 t1004 t1005 t1006 (wrap64 (1 + t1010)) (wrap64 (1 + t1012)) a2).bind fun bt1013 => ((term_Name.f a0).bind fun t1015 => (if 3 < (l1.length : Int) then ((gemotlaw17_of.f (rd l1 3)).bind fun bt1017 => (if 4 < (l1.length : Int) then ((gemotlaw17_pick.f (rd l1 4) 8).bind fun t1023 => (if 5 < (l1.length : Int) then ((gemotlaw17_pick.f (rd l1 5) 32).bind fun t1025 => ((seal_Close.f t1015 bt1017.1 bt1017.2.1 bt1017.2.2 (wrap64 (1 + t1023)) (wrap64 (1 + t1025)) a3).bind fun bt1026 => ((gemotlaw17_pick.f (rd l1 0) 1000).bind fun t1029 => ((gemotlaw17_pick.f (rd l1 3) 1000).bind fun t1031 => (if t1029 = t1031 then ((gemotlaw17_pick.f (rd l1 1) 8).bind fun t1033 => ((gemotlaw17_pick.f (rd l1 4) 8).bind fun t1035 => (if t1033 = t1035 then ((gemotlaw17_pick.f (rd l1 2) 32).bind fun t1037 => ((gemotlaw17_pick.f (rd l1 5) 32).bind fun t1039 => (if t1037 = t1039 then (if bt1013.2 = 0 then (if bt1026.2 = 0 then (some ((bt1013.1.toList == bt1026.1.toList) == (a2.toList == a3.toList))) else (none)) else (none)) else (if bt1013.2 = 0 then (if bt1026.2 = 0 then (some ((bt1013.1.toList == bt1026.1.toList) == false)) else (none)) else (none))))) else (if bt1013.2 = 0 then (if bt1026.2 = 0 then (some ((bt1013.1.toList == bt1026.1.toList) == false)) else (none)) else (none))))) else (if bt1013.2 = 0 then (if bt1026.2 = 0 then (some ((bt1013.1.toList == bt1026.1.toList) == false)) else (none)) else (none))))))) else (none))) else (none))) else (none)))) = some r := H
        have A18 := Aside0.mk A180
        clear A180; replace H := Option.bind_eq_some_iff.mp H
        obtain ⟨⟨t1013, t1014⟩, A190, H⟩ := H
        replace H : ((term_Name.f a0).bind fun t1015 => (if 3 < (l1.length : Int) then ((gemotlaw17_of.f (rd l1 3)).bind fun bt1017 => (if 4 < (l1.length : Int) then ((gemotlaw17_pick.f (rd l1 4) 8).bind fun t1023 => (if 5 < (l1.length : Int) then ((gemotlaw17_pick.f (rd l1 5) 32).bind fun t1025 => ((seal_Close.f t1015 bt1017.1 bt1017.2.1 bt1017.2.2 (wrap64 (1 + t1023)) (wrap64 (1 + t1025)) a3).bind fun bt1026 => ((gemotlaw17_pick.f (rd l1 0) 1000).bind fun t1029 => ((gemotlaw17_pick.f (rd l1 3) 1000).bind fun t1031 => (if t1029 = t1031 then ((gemotlaw17_pick.f (rd l1 1) 8).bind fun t1033 => ((gemotlaw17_pick.f (rd l1 4) 8).bind fun t1035 => (if t1033 = t1035 then ((gemotlaw17_pick.f (rd l1 2) 32).bind fun t1037 => ((gemotlaw17_pick.f (rd l1 5) 32).bind fun t1039 => (if t1037 = t1039 then (if t1014 = 0 then (if bt1026.2 = 0 then (some ((t1013.toList == bt1026.1.toList) == (a2.toList == a3.toList))) else (none)) else (none)) else (if t1014 = 0 then (if bt1026.2 = 0 then (some ((t1013.toList == bt1026.1.toList) == false)) else (none)) else (none))))) else (if t1014 = 0 then (if bt1026.2 = 0 then (some ((t1013.toList == bt1026.1.toList) == false)) else (none)) else (none))))) else (if t1014 = 0 then (if bt1026.2 = 0 then (some ((t1013.toList == bt1026.1.toList) == false)) else (none)) else (none))))))) else (none))) else (none))) else (none))) = some r := H
        have A19 := Aside0.mk A190
        clear A190; replace H := Option.bind_eq_some_iff.mp H
        obtain ⟨t1015, A200, H⟩ := H; replace H : (if 3 < (l1.length : Int) then ((gemotlaw17_of.f (rd l1 3)).bind fun bt1017 => (if 4 < (l1.length : Int) then ((gemotlaw17_pick.f (rd l1 4) 8).bind fun t1023 => (if 5 < (l1.length : Int) then ((gemotlaw17_pick.f (rd l1 5) 32).bind fun t1025 => ((seal_Close.f t1015 bt1017.1 bt1017.2.1 bt1017.2.2 (wrap64 (1 + t1023)) (wrap64 (1 + t1025)) a3).bind fun bt1026 => ((gemotlaw17_pick.f (rd l1 0) 1000).bind fun t1029 => ((gemotlaw17_pick.f (rd l1 3) 1000).bind fun t1031 => (if t1029 = t1031 then ((gemotlaw17_pick.f (rd l1 1) 8).bind fun t1033 => ((gemotlaw17_pick.f (rd l1 4) 8).bind fun t1035 => (if t1033 = t1035 then ((gemotlaw17_pick.f (rd l1 2) 32).bind fun t1037 => ((gemotlaw17_pick.f (rd l1 5) 32).bind fun t1039 => (if t1037 = t1039 then (if t1014 = 0 then (if bt1026.2 = 0 then (some ((t1013.toList == bt1026.1.toList) == (a2.toList == a3.toList))) else (none)) else (none)) else (if t1014 = 0 then (if bt1026.2 = 0 then (some ((t1013.toList == bt1026.1.toList) == false)) else (none)) else (none))))) else (if t1014 = 0 then (if bt1026.2 = 0 then (some ((t1013.toList == bt1026.1.toList) == false)) else (none)) else (none))))) else (if t1014 = 0 then (if bt1026.2 = 0 then (some ((t1013.toList == bt1026.1.toList) == false)) else (none)) else (none))))))) else (none))) else (none))) else (none)) = some r := H
        have A20 := Aside0.mk A200
        clear A200; by_cases c21 : 3 < (l1.length : Int); rotate_left; · (rw [if_neg c21] at H; exact absurd H (by simp))
        rw [if_pos c21] at H
        have c21b0 : decide (3 < (l1.length : Int)) = true := decide_eq_true c21
        have c21b1 : decide (3 < l1.length) = true := decide_eq_true (by omega)
        clear c21; replace H := Option.bind_eq_some_iff.mp H
        obtain ⟨⟨t1017, t1018, t1019⟩, A220, H⟩ := H
        replace H : (if 4 < (l1.length : Int) then ((gemotlaw17_pick.f (rd l1 4) 8).bind fun t1023 => (if 5 < (l1.length : Int) then ((gemotlaw17_pick.f (rd l1 5) 32).bind fun t1025 => ((seal_Close.f t1015 t1017 t1018 t1019 (wrap64 (1 + t1023)) (wrap64 (1 + t1025)) a3).bind fun bt1026 => ((gemotlaw17_pick.f (rd l1 0) 1000).bind fun t1029 => ((gemotlaw17_pick.f (rd l1 3) 1000).bind fun t1031 => (if t1029 = t1031 then ((gemotlaw17_pick.f (rd l1 1) 8).bind fun t1033 => ((gemotlaw17_pick.f (rd l1 4) 8).bind fun t1035 => (if t1033 = t1035 then ((gemotlaw17_pick.f (rd l1 2) 32).bind fun t1037 => ((gemotlaw17_pick.f (rd l1 5) 32).bind fun t1039 => (if t1037 = t1039 then (if t1014 = 0 then (if bt1026.2 = 0 then (some ((t1013.toList == bt1026.1.toList) == (a2.toList == a3.toList))) else (none)) else (none)) else (if t1014 = 0 then (if bt1026.2 = 0 then (some ((t1013.toList == bt1026.1.toList) == false)) else (none)) else (none))))) else (if t1014 = 0 then (if bt1026.2 = 0 then (some ((t1013.toList == bt1026.1.toList) == false)) else (none)) else (none))))) else (if t1014 = 0 then (if bt1026.2 = 0 then (some ((t1013.toList == bt1026.1.toList) == false)) else (none)) else (none))))))) else (none))) else (none)) = some r := H
        have A22 := Aside0.mk A220
        clear A220; by_cases c23 : 4 < (l1.length : Int); rotate_left; · (rw [if_neg c23] at H; exact absurd H (by simp))
        rw [if_pos c23] at H
        have c23b0 : decide (4 < (l1.length : Int)) = true := decide_eq_true c23
        have c23b1 : decide (4 < l1.length) = true := decide_eq_true (by omega)
        clear c23; replace H := Option.bind_eq_some_iff.mp H
        obtain ⟨t1023, A240, H⟩ := H; replace H : (if 5 < (l1.length : Int) then ((gemotlaw17_pick.f (rd l1 5) 32).bind fun t1025 => ((seal_Close.f t1015 t1017 t1018 t1019 (wrap64 (1 + t1023)) (wrap64 (1 + t1025)) a3).bind fun bt1026 => ((gemotlaw17_pick.f (rd l1 0) 1000).bind fun t1029 => ((gemotlaw17_pick.f (rd l1 3) 1000).bind fun t1031 => (if t1029 = t1031 then ((gemotlaw17_pick.f (rd l1 1) 8).bind fun t1033 => ((gemotlaw17_pick.f (rd l1 4) 8).bind fun t1035 => (if t1033 = t1035 then ((gemotlaw17_pick.f (rd l1 2) 32).bind fun t1037 => ((gemotlaw17_pick.f (rd l1 5) 32).bind fun t1039 => (if t1037 = t1039 then (if t1014 = 0 then (if bt1026.2 = 0 then (some ((t1013.toList == bt1026.1.toList) == (a2.toList == a3.toList))) else (none)) else (none)) else (if t1014 = 0 then (if bt1026.2 = 0 then (some ((t1013.toList == bt1026.1.toList) == false)) else (none)) else (none))))) else (if t1014 = 0 then (if bt1026.2 = 0 then (some ((t1013.toList == bt1026.1.toList) == false)) else (none)) else (none))))) else (if t1014 = 0 then (if bt1026.2 = 0 then (some ((t1013.toList == bt1026.1.toList) == false)) else (none)) else (none))))))) else (none)) = some r := H
        have A24 := Aside0.mk A240
        clear A240; by_cases c25 : 5 < (l1.length : Int); rotate_left; · (rw [if_neg c25] at H; exact absurd H (by simp))
        rw [if_pos c25] at H
        have c25b0 : decide (5 < (l1.length : Int)) = true := decide_eq_true c25
        have c25b1 : decide (5 < l1.length) = true := decide_eq_true (by omega)
        clear c25; replace H := Option.bind_eq_some_iff.mp H
        obtain ⟨t1025, A260, H⟩ := H; replace H : ((seal_Close.f t1015 t1017 t1018 t1019 (wrap64 (1 + t1023)) (wrap64 (1 + t1025)) a3).bind fun bt1026 => ((gemotlaw17_pick.f (rd l1 0) 1000).bind fun t1029 => ((gemotlaw17_pick.f (rd l1 3) 1000).bind fun t1031 => (if t1029 = t1031 then ((gemotlaw17_pick.f (rd l1 1) 8).bind fun t1033 => ((gemotlaw17_pick.f (rd l1 4) 8).bind fun t1035 => (if t1033 = t1035 then ((gemotlaw17_pick.f (rd l1 2) 32).bind fun t1037 => ((gemotlaw17_pick.f (rd l1 5) 32).bind fun t1039 => (if t1037 = t1039 then (if t1014 = 0 then (if bt1026.2 = 0 then (some ((t1013.toList == bt1026.1.toList) == (a2.toList == a3.toList))) else (none)) else (none)) else (if t1014 = 0 then (if bt1026.2 = 0 then (some ((t1013.toList == bt1026.1.toList) == false)) else (none)) else (none))))) else (if t1014 = 0 then (if bt1026.2 = 0 then (some ((t1013.toList == bt1026.1.toList) == false)) else (none)) else (none))))) else (if t1014 = 0 then (if bt1026.2 = 0 then (some ((t1013.toList == bt1026.1.toList) == false)) else (none)) else (none)))))) = some r := H
        have A26 := Aside0.mk A260
        clear A260; replace H := Option.bind_eq_some_iff.mp H
        obtain ⟨⟨t1026, t1027⟩, A270, H⟩ := H
        replace H : ((gemotlaw17_pick.f (rd l1 0) 1000).bind fun t1029 => ((gemotlaw17_pick.f (rd l1 3) 1000).bind fun t1031 => (if t1029 = t1031 then ((gemotlaw17_pick.f (rd l1 1) 8).bind fun t1033 => ((gemotlaw17_pick.f (rd l1 4) 8).bind fun t1035 => (if t1033 = t1035 then ((gemotlaw17_pick.f (rd l1 2) 32).bind fun t1037 => ((gemotlaw17_pick.f (rd l1 5) 32).bind fun t1039 => (if t1037 = t1039 then (if t1014 = 0 then (if t1027 = 0 then (some ((t1013.toList == t1026.toList) == (a2.toList == a3.toList))) else (none)) else (none)) else (if t1014 = 0 then (if t1027 = 0 then (some ((t1013.toList == t1026.toList) == false)) else (none)) else (none))))) else (if t1014 = 0 then (if t1027 = 0 then (some ((t1013.toList == t1026.toList) == false)) else (none)) else (none))))) else (if t1014 = 0 then (if t1027 = 0 then (some ((t1013.toList == t1026.toList) == false)) else (none)) else (none))))) = some r := H
        have A27 := Aside0.mk A270
        clear A270; replace H := Option.bind_eq_some_iff.mp H
        obtain ⟨t1029, A280, H⟩ := H; replace H : ((gemotlaw17_pick.f (rd l1 3) 1000).bind fun t1031 => (if t1029 = t1031 then ((gemotlaw17_pick.f (rd l1 1) 8).bind fun t1033 => ((gemotlaw17_pick.f (rd l1 4) 8).bind fun t1035 => (if t1033 = t1035 then ((gemotlaw17_pick.f (rd l1 2) 32).bind fun t1037 => ((gemotlaw17_pick.f (rd l1 5) 32).bind fun t1039 => (if t1037 = t1039 then (if t1014 = 0 then (if t1027 = 0 then (some ((t1013.toList == t1026.toList) == (a2.toList == a3.toList))) else (none)) else (none)) else (if t1014 = 0 then (if t1027 = 0 then (some ((t1013.toList == t1026.toList) == false)) else (none)) else (none))))) else (if t1014 = 0 then (if t1027 = 0 then (some ((t1013.toList == t1026.toList) == false)) else (none)) else (none))))) else (if t1014 = 0 then (if t1027 = 0 then (some ((t1013.toList == t1026.toList) == false)) else (none)) else (none)))) = some r := H
        have A28 := Aside0.mk A280
        clear A280; replace H := Option.bind_eq_some_iff.mp H
        obtain ⟨t1031, A290, H⟩ := H; replace H : (if t1029 = t1031 then ((gemotlaw17_pick.f (rd l1 1) 8).bind fun t1033 => ((gemotlaw17_pick.f (rd l1 4) 8).bind fun t1035 => (if t1033 = t1035 then ((gemotlaw17_pick.f (rd l1 2) 32).bind fun t1037 => ((gemotlaw17_pick.f (rd l1 5) 32).bind fun t1039 => (if t1037 = t1039 then (if t1014 = 0 then (if t1027 = 0 then (some ((t1013.toList == t1026.toList) == (a2.toList == a3.toList))) else (none)) else (none)) else (if t1014 = 0 then (if t1027 = 0 then (some ((t1013.toList == t1026.toList) == false)) else (none)) else (none))))) else (if t1014 = 0 then (if t1027 = 0 then (some ((t1013.toList == t1026.toList) == false)) else (none)) else (none))))) else (if t1014 = 0 then (if t1027 = 0 then (some ((t1013.toList == t1026.toList) == false)) else (none)) else (none))) = some r := H
        have A29 := Aside0.mk A290
        clear A290; by_cases c30 : t1029 = t1031
        · rw [if_pos c30] at H
          have c30b0 : (t1029 == t1031) = true := beq_iff_eq.mpr c30
          have c30b1 : (t1029 != t1031) = false := bne_eq_false_iff_eq.mpr c30
          clear c30; replace H := Option.bind_eq_some_iff.mp H
          obtain ⟨t1033, A310, H⟩ := H; replace H : ((gemotlaw17_pick.f (rd l1 4) 8).bind fun t1035 => (if t1033 = t1035 then ((gemotlaw17_pick.f (rd l1 2) 32).bind fun t1037 => ((gemotlaw17_pick.f (rd l1 5) 32).bind fun t1039 => (if t1037 = t1039 then (if t1014 = 0 then (if t1027 = 0 then (some ((t1013.toList == t1026.toList) == (a2.toList == a3.toList))) else (none)) else (none)) else (if t1014 = 0 then (if t1027 = 0 then (some ((t1013.toList == t1026.toList) == false)) else (none)) else (none))))) else (if t1014 = 0 then (if t1027 = 0 then (some ((t1013.toList == t1026.toList) == false)) else (none)) else (none)))) = some r := H
          have A31 := Aside0.mk A310
          clear A310; replace H := Option.bind_eq_some_iff.mp H
          obtain ⟨t1035, A320, H⟩ := H; replace H : (if t1033 = t1035 then ((gemotlaw17_pick.f (rd l1 2) 32).bind fun t1037 => ((gemotlaw17_pick.f (rd l1 5) 32).bind fun t1039 => (if t1037 = t1039 then (if t1014 = 0 then (if t1027 = 0 then (some ((t1013.toList == t1026.toList) == (a2.toList == a3.toList))) else (none)) else (none)) else (if t1014 = 0 then (if t1027 = 0 then (some ((t1013.toList == t1026.toList) == false)) else (none)) else (none))))) else (if t1014 = 0 then (if t1027 = 0 then (some ((t1013.toList == t1026.toList) == false)) else (none)) else (none))) = some r := H
          have A32 := Aside0.mk A320
          clear A320; by_cases c33 : t1033 = t1035
          · rw [if_pos c33] at H
            have c33b0 : (t1033 == t1035) = true := beq_iff_eq.mpr c33
            have c33b1 : (t1033 != t1035) = false := bne_eq_false_iff_eq.mpr c33
            clear c33; replace H := Option.bind_eq_some_iff.mp H
            obtain ⟨t1037, A340, H⟩ := H; replace H : ((gemotlaw17_pick.f (rd l1 5) 32).bind fun t1039 => (if t1037 = t1039 then (if t1014 = 0 then (if t1027 = 0 then (some ((t1013.toList == t1026.toList) == (a2.toList == a3.toList))) else (none)) else (none)) else (if t1014 = 0 then (if t1027 = 0 then (some ((t1013.toList == t1026.toList) == false)) else (none)) else (none)))) = some r := H
            have A34 := Aside0.mk A340
            clear A340; replace H := Option.bind_eq_some_iff.mp H
            obtain ⟨t1039, A350, H⟩ := H; replace H : (if t1037 = t1039 then (if t1014 = 0 then (if t1027 = 0 then (some ((t1013.toList == t1026.toList) == (a2.toList == a3.toList))) else (none)) else (none)) else (if t1014 = 0 then (if t1027 = 0 then (some ((t1013.toList == t1026.toList) == false)) else (none)) else (none))) = some r := H
            have A35 := Aside0.mk A350
            clear A350; by_cases c36 : t1037 = t1039
            · rw [if_pos c36] at H
              have c36b0 : (t1037 == t1039) = true := beq_iff_eq.mpr c36
              have c36b1 : (t1037 != t1039) = false := bne_eq_false_iff_eq.mpr c36
              clear c36; by_cases c37 : t1014 = 0; rotate_left; · (rw [if_neg c37] at H; exact absurd H (by simp))
              rw [if_pos c37] at H
              have c37b0 : (t1014 == 0) = true := beq_iff_eq.mpr c37
              have c37b1 : (t1014 != 0) = false := bne_eq_false_iff_eq.mpr c37
              clear c37; by_cases c38 : t1027 = 0; rotate_left; · (rw [if_neg c38] at H; exact absurd H (by simp))
              rw [if_pos c38] at H
              have c38b0 : (t1027 == 0) = true := beq_iff_eq.mpr c38
              have c38b1 : (t1027 != 0) = false := bne_eq_false_iff_eq.mpr c38
              clear c38; obtain rfl := Option.some.inj H
              try go_wp2
              have n0_ := Aside0.mk (below_drew1 HB.out)
              clear HB; have HB := n0_; clear n0_; have p1003 : 0 ≤ (0 : Int) := (by omega)
              have q1003 : 0 < (l1.length : Int) := of_decide_eq_true (by first | (with_reducible assumption) | assumption)
              obtain ⟨ad1003, e1003, hx1003_0⟩ := Kd.at_int HR1.out 0 p1003 q1003
              have hw1003_0 := hx1003_0; (try rw [show ((0 : Int)).toNat = 0 from rfl] at hw1003_0); (try rw [show 0 * 1 = 0 from rfl] at hw1003_0); (try rw [Addr.add_zero'] at hw1003_0); cases e1003
              have qi1003 : (0 < l1.length) = True := eq_true (by omega)
              (try rw [show ((0 : Int)).toNat = 0 from rfl] at hx1003_0); (try rw [Addr.add_zero'] at hx1003_0); replace hx1003_0 := (HB.out.cell (World.block_lt_of_cell? w _ hx1003_0)).trans hx1003_0
              replace p1003 := eq_true p1003
              replace q1003 := eq_true q1003
              have p1009 : 0 ≤ (1 : Int) := (by omega)
              have q1009 : 1 < (l1.length : Int) := of_decide_eq_true (by first | (with_reducible assumption) | assumption)
              obtain ⟨ad1009, e1009, hx1009_0⟩ := Kd.at_int HR1.out 1 p1009 q1009
              have hw1009_0 := hx1009_0; (try rw [show ((1 : Int)).toNat = 1 from rfl] at hw1009_0); (try rw [show 1 * 1 = 1 from rfl] at hw1009_0); (try simp only [Nat.reduceMul, Nat.reduceEqDiff, Go.Addr.add, ↓reduceIte] at hw1009_0); obtain rfl : ad1003 = ad1009 := (by injection e1009)
              (try simp only [show (1 : Int).toNat = 1 from rfl, Nat.reduceMul, Nat.reduceEqDiff, Go.Addr.add, ↓reduceIte] at hx1009_0); have qi1009 : (1 < l1.length) = True := eq_true (by omega)
              (try rw [show ((1 : Int)).toNat = 1 from rfl] at hx1009_0); replace hx1009_0 := (HB.out.cell (World.block_lt_of_cell? w _ hx1009_0)).trans hx1009_0
              replace p1009 := eq_true p1009
              replace q1009 := eq_true q1009
              have p1011 : 0 ≤ (2 : Int) := (by omega)
              have q1011 : 2 < (l1.length : Int) := of_decide_eq_true (by first | (with_reducible assumption) | assumption)
              obtain ⟨ad1011, e1011, hx1011_0⟩ := Kd.at_int HR1.out 2 p1011 q1011
              have hw1011_0 := hx1011_0; (try rw [show ((2 : Int)).toNat = 2 from rfl] at hw1011_0); (try rw [show 2 * 1 = 2 from rfl] at hw1011_0); (try simp only [Nat.reduceMul, Nat.reduceEqDiff, Go.Addr.add, ↓reduceIte] at hw1011_0); obtain rfl : ad1003 = ad1011 := (by injection e1011)
              (try simp only [show (2 : Int).toNat = 2 from rfl, Nat.reduceMul, Nat.reduceEqDiff, Go.Addr.add, ↓reduceIte] at hx1011_0); have qi1011 : (2 < l1.length) = True := eq_true (by omega)
              (try rw [show ((2 : Int)).toNat = 2 from rfl] at hx1011_0); replace hx1011_0 := (HB.out.cell (World.block_lt_of_cell? w _ hx1011_0)).trans hx1011_0
              replace p1011 := eq_true p1011
              replace q1011 := eq_true q1011
              refine start_ (n := 23) (S := fun w' => w'.cell? ad1003 = some (.int .i64 (rd l1 0)) ∧ w'.cell? ⟨ad1003.block, ad1003.off + 1, none⟩ = some (.int .i64 (rd l1 1)) ∧ w'.cell? ⟨ad1003.block, ad1003.off + 2, none⟩ = some (.int .i64 (rd l1 2))) (ds := []) #[false,false,false,false,false,false,false,false,false,false,false,false,false,false,false,false,false,false,false,false,false,false,false] (by kernel_rfl) rfl rfl ⟨((HB.out.cell (World.block_lt_of_cell? w _ hw1003_0)).trans hw1003_0), ((HB.out.cell (World.block_lt_of_cell? w _ hw1009_0)).trans hw1009_0), ((HB.out.cell (World.block_lt_of_cell? w _ hw1011_0)).trans hw1011_0)⟩ (fun hHeld => ?_); refine with_tabW gemotlaw17_SealApart.tab4 gemotlaw17_SealApart.bits4 (fun HT_ HW_ => ?_)
              generalize wc.drew = w39 at HB hx1003_0 hx1009_0 hx1011_0 hHeld ⊢
              refine pure_ (i := 0) (N := some 35) (v := ?_) (a' := ?_) #[true,false,false,false,false,false,false,false,false,false,false,false,false,false,false,false,false,false,false,false,false,false,false] rfl rfl (any_of HT_.out (by kernel_rfl)) (fun _ _ _ h => h) (Or.inl ⟨by rfl, ?_⟩) ?_ ?_
              rotate_left
              · intro w'; go_simp; with_reducible rfl
              rotate_left; · (simp only [Act.put, List.setIfInBounds_toArray, List.set_cons_zero, List.set_cons_succ, i64_w, i32_w]; rfl)
              refine pure_ (i := 2) (N := some 37) (v := ?_) (a' := ?_) #[true,false,true,false,false,false,false,false,false,false,false,false,false,false,false,false,false,false,false,false,false,false,false] rfl rfl (any_of HT_.out (by kernel_rfl)) (fun _ _ _ h => h) (Or.inl ⟨by rfl, ?_⟩) ?_ ?_
              rotate_left
              · intro w'; go_simp; with_reducible rfl
              rotate_left; · (simp only [Act.put, List.setIfInBounds_toArray, List.set_cons_zero, List.set_cons_succ, i64_w, i32_w]; rfl)
              refine pure_ (i := 3) (N := some 38) (v := ?_) (a' := ?_) #[true,false,true,true,false,false,false,false,false,false,false,false,false,false,false,false,false,false,false,false,false,false,false] rfl rfl (any_of HT_.out (by kernel_rfl)) (fun _ _ _ h => h) (Or.inl ⟨by rfl, ?_⟩) ?_ ?_
              rotate_left
              · intro w'; go_simp; with_reducible rfl
              rotate_left; · (simp only [Act.put, List.setIfInBounds_toArray, List.set_cons_zero, List.set_cons_succ, i64_w, i32_w]; rfl)
              refine pure_ (i := 6) (N := some 41) (v := ?_) (a' := ?_) #[true,false,true,true,false,false,true,false,false,false,false,false,false,false,false,false,false,false,false,false,false,false,false] rfl rfl (any_of HT_.out (by kernel_rfl)) (fun _ _ _ h => h) (Or.inl ⟨by rfl, ?_⟩) ?_ ?_
              rotate_left
              · intro w'; go_simp; with_reducible rfl
              rotate_left; · (simp only [Act.put, List.setIfInBounds_toArray, List.set_cons_zero, List.set_cons_succ, i64_w, i32_w]; rfl)
              refine pure_ (i := 7) (N := some 42) (v := ?_) (a' := ?_) #[true,false,true,true,false,false,true,true,false,false,false,false,false,false,false,false,false,false,false,false,false,false,false] rfl rfl (any_of HT_.out (by kernel_rfl)) (fun _ _ _ h => h) (Or.inl ⟨by rfl, ?_⟩) ?_ ?_
              rotate_left
              · intro w'; go_simp; with_reducible rfl
              rotate_left; · (simp only [Act.put, List.setIfInBounds_toArray, List.set_cons_zero, List.set_cons_succ, i64_w, i32_w]; rfl)
              refine pure_ (i := 11) (N := some 46) (v := ?_) (a' := ?_) #[true,false,true,true,false,false,true,true,false,false,false,true,false,false,false,false,false,false,false,false,false,false,false] rfl rfl (any_of HT_.out (by kernel_rfl)) (fun _ _ _ h => h) (Or.inl ⟨by rfl, ?_⟩) ?_ ?_
              rotate_left
              · intro w'; go_simp; with_reducible rfl
              rotate_left; · (simp only [Act.put, List.setIfInBounds_toArray, List.set_cons_zero, List.set_cons_succ, i64_w, i32_w]; rfl)
              refine pure_ (i := 12) (N := some 47) (v := ?_) (a' := ?_) #[true,false,true,true,false,false,true,true,false,false,false,true,true,false,false,false,false,false,false,false,false,false,false] rfl rfl (any_of HT_.out (by kernel_rfl)) (fun _ _ _ h => h) (Or.inl ⟨by rfl, ?_⟩) ?_ ?_
              rotate_left
              · intro w'; go_simp; with_reducible rfl
              rotate_left; · (simp only [Act.put, List.setIfInBounds_toArray, List.set_cons_zero, List.set_cons_succ, i64_w, i32_w]; rfl)
              refine pure_ (i := 16) (N := some 51) (v := ?_) (a' := ?_) #[true,false,true,true,false,false,true,true,false,false,false,true,true,false,false,false,true,false,false,false,false,false,false] rfl rfl (any_of HT_.out (by kernel_rfl)) (fun _ _ _ h => h) (Or.inl ⟨by rfl, ?_⟩) ?_ ?_
              rotate_left
              · intro w'; go_simp; with_reducible rfl
              rotate_left; · (simp only [Act.put, List.setIfInBounds_toArray, List.set_cons_zero, List.set_cons_succ, i64_w, i32_w]; rfl)
              refine take_ (i := 4) (N := some 39) (v := ?_) (a' := ?_) #[true,false,true,true,true,false,true,true,false,false,false,true,true,false,false,false,true,false,false,false,false,false,false] rfl rfl (take_ofW HT_.out HW_.out (by kernel_rfl)) (fun _ _ _ h => h) (Or.inl ⟨by rfl, ?_⟩) hHeld ?_ ?_
              rotate_left
              · rintro w' ⟨s0, s1, s2⟩; go_simp; with_reducible rfl
              rotate_left; · (simp only [Act.put, List.setIfInBounds_toArray, List.set_cons_zero, List.set_cons_succ, i64_w, i32_w]; rfl)
              refine take_ (i := 8) (N := some 43) (v := ?_) (a' := ?_) #[true,false,true,true,true,false,true,true,true,false,false,true,true,false,false,false,true,false,false,false,false,false,false] rfl rfl (take_ofW HT_.out HW_.out (by kernel_rfl)) (fun _ _ _ h => h) (Or.inl ⟨by rfl, ?_⟩) hHeld ?_ ?_
              rotate_left
              · rintro w' ⟨s0, s1, s2⟩; go_simp; with_reducible rfl
              rotate_left; · (simp only [Act.put, List.setIfInBounds_toArray, List.set_cons_zero, List.set_cons_succ, i64_w, i32_w]; rfl)
              refine take_ (i := 13) (N := some 48) (v := ?_) (a' := ?_) #[true,false,true,true,true,false,true,true,true,false,false,true,true,true,false,false,true,false,false,false,false,false,false] rfl rfl (take_ofW HT_.out HW_.out (by kernel_rfl)) (fun _ _ _ h => h) (Or.inl ⟨by rfl, ?_⟩) hHeld ?_ ?_
              rotate_left
              · rintro w' ⟨s0, s1, s2⟩; go_simp; with_reducible rfl
              rotate_left; · (simp only [Act.put, List.setIfInBounds_toArray, List.set_cons_zero, List.set_cons_succ, i64_w, i32_w]; rfl)
              refine one_ (i := 1) (N := some 36) #[true,true,true,true,true,false,true,true,true,false,false,true,true,true,false,false,true,false,false,false,false,false,false] rfl rfl (one_of HT_.out (by kernel_rfl)) (by decide) (fun K hK => ?_)
              refine goes_ Try.func65 (by kernel_rfl) rfl #[.int .u64 a0] (by rfl) rfl rfl (by (try simp only [List.map_toArray, List.map_cons, List.map_nil]); first | done | rfl | (simp only [List.length_drop, List.length_take]; rfl)) ?_
              with_reducible refine (term_Name.calls a0 t1002 _ A12.out).mono ?_
              rintro e w40 ⟨rfl, hb⟩; refine ⟨_, rfl, ?_⟩
              have n0_ := Aside0.mk (below_step (by repeat (first | (with_reducible first | exact HB.out | apply below_alloc | apply pw_below_drewN | apply below_drew1) | exact HB.out)) hb)
              clear HB; have HB := n0_; clear n0_; (try clear hb); (try clear hb2); (try clear hk); (try clear hi); refine hK.out _ _ ⟨((HB.out.cell (World.block_lt_of_cell? w _ hw1003_0)).trans hw1003_0), ((HB.out.cell (World.block_lt_of_cell? w _ hw1009_0)).trans hw1009_0), ((HB.out.cell (World.block_lt_of_cell? w _ hw1011_0)).trans hw1011_0)⟩ (fun hHeld => ?_)
              clear hK K; refine norm_ (a' := ?_) ?_ ?_
              rotate_left
              · show Act.put _ (some 36) _ = _
                simp only [Act.put, List.setIfInBounds_toArray, List.set_cons_zero, List.set_cons_succ, i64_w, i32_w]; rfl
              refine one_ (i := 5) (N := some 40) #[true,true,true,true,true,true,true,true,true,false,false,true,true,true,false,false,true,false,false,false,false,false,false] rfl rfl (one_of HT_.out (by kernel_rfl)) (by decide) (fun K hK => ?_)
              refine goes_ Try.func63 (by kernel_rfl) rfl #[.int .i64 (rd l1 0)] (by rfl) rfl rfl (by (try simp only [List.map_toArray, List.map_cons, List.map_nil]); first | done | rfl | (simp only [List.length_drop, List.length_take]; rfl)) ?_
              with_reducible refine (gemotlaw17_of.calls (rd l1 0) t1004 t1005 t1006 _ A14.out).mono ?_
              rintro e w41 ⟨v1007, rfl, ho0, hb⟩; refine ⟨_, rfl, ?_⟩
              have n0_ := Aside0.mk (Kd.V_lower (Kd.V_mono (ok' := fun k_ => True) ho0 (fun k_ hk_ => trivial)) (below_size (by repeat (first | (with_reducible first | exact HB.out | apply below_alloc | apply pw_below_drewN | apply below_drew1) | exact HB.out))))
              have n1_ := Aside0.mk (below_step (by repeat (first | (with_reducible first | exact HB.out | apply below_alloc | apply pw_below_drewN | apply below_drew1) | exact HB.out)) hb)
              clear HB; have HO1008 := n0_; have HB := n1_; clear n0_ n1_; (try clear hb); (try clear hb2); (try clear hk); (try clear hi); (try clear ho0); refine hK.out _ _ ⟨((HB.out.cell (World.block_lt_of_cell? w _ hw1003_0)).trans hw1003_0), ((HB.out.cell (World.block_lt_of_cell? w _ hw1009_0)).trans hw1009_0), ((HB.out.cell (World.block_lt_of_cell? w _ hw1011_0)).trans hw1011_0)⟩ (fun hHeld => ?_)
              clear hK K; refine norm_ (a' := ?_) ?_ ?_
              rotate_left
              · show Act.put _ (some 40) _ = _
                simp only [Act.put, List.setIfInBounds_toArray, List.set_cons_zero, List.set_cons_succ, i64_w, i32_w]; rfl
              refine one_ (i := 9) (N := some 44) #[true,true,true,true,true,true,true,true,true,true,false,true,true,true,false,false,true,false,false,false,false,false,false] rfl rfl (one_of HT_.out (by kernel_rfl)) (by decide) (fun K hK => ?_)
              refine goes_ Try.func64 (by kernel_rfl) rfl #[.int .i64 (rd l1 1), .int .i64 8] (by rfl) rfl rfl (by (try simp only [List.map_toArray, List.map_cons, List.map_nil]); first | done | rfl | (simp only [List.length_drop, List.length_take]; rfl)) ?_
              with_reducible refine (gemotlaw17_pick.calls (rd l1 1) 8 t1010 _ A16.out).mono ?_
              rintro e w' ⟨rfl, ⟨nd, rfl⟩⟩; refine ⟨_, rfl, ?_⟩
              refine hK.out _ _ ⟨((HB.out.cell (World.block_lt_of_cell? w _ hw1003_0)).trans hw1003_0), ((HB.out.cell (World.block_lt_of_cell? w _ hw1009_0)).trans hw1009_0), ((HB.out.cell (World.block_lt_of_cell? w _ hw1011_0)).trans hw1011_0)⟩ (fun hHeld => ?_)
              clear hK K; refine norm_ (a' := ?_) ?_ ?_
              rotate_left
              · show Act.put _ (some 44) _ = _
                simp only [Act.put, List.setIfInBounds_toArray, List.set_cons_zero, List.set_cons_succ, i64_w, i32_w]; rfl
              refine pure_ (i := 10) (N := some 45) (v := ?_) (a' := ?_) #[true,true,true,true,true,true,true,true,true,true,true,true,true,true,false,false,true,false,false,false,false,false,false] rfl rfl (any_of HT_.out (by kernel_rfl)) (fun _ _ _ h => h) (Or.inl ⟨by rfl, ?_⟩) ?_ ?_
              rotate_left
              · intro w'; go_simp; with_reducible rfl
              rotate_left; · (simp only [Act.put, List.setIfInBounds_toArray, List.set_cons_zero, List.set_cons_succ, i64_w, i32_w]; rfl)
              refine one_ (i := 14) (N := some 49) #[true,true,true,true,true,true,true,true,true,true,true,true,true,true,true,false,true,false,false,false,false,false,false] rfl rfl (one_of HT_.out (by kernel_rfl)) (by decide) (fun K hK => ?_)
              refine goes_ Try.func64 (by kernel_rfl) rfl #[.int .i64 (rd l1 2), .int .i64 32] (by rfl) rfl rfl (by (try simp only [List.map_toArray, List.map_cons, List.map_nil]); first | done | rfl | (simp only [List.length_drop, List.length_take]; rfl)) ?_
              with_reducible refine (gemotlaw17_pick.calls (rd l1 2) 32 t1012 _ A18.out).mono ?_
              rintro e w' ⟨rfl, ⟨nd, rfl⟩⟩; refine ⟨_, rfl, ?_⟩
              obtain ⟨Ao42, co42, eo42⟩ := Kd.V_slice HO1008.out; (first | subst eo42 | (injection eo42 with f1_ f2_ f3_; have f4_ := f1_.symm; have f5_ := f3_.symm; clear f1_ f2_ f3_; subst f4_; subst f5_)); refine hK.out _ _ ⟨((HB.out.cell (World.block_lt_of_cell? w _ hw1003_0)).trans hw1003_0), ((HB.out.cell (World.block_lt_of_cell? w _ hw1009_0)).trans hw1009_0), ((HB.out.cell (World.block_lt_of_cell? w _ hw1011_0)).trans hw1011_0)⟩ (fun hHeld => ?_)
              clear hK K; refine norm_ (a' := ?_) ?_ ?_
              rotate_left
              · show Act.put _ (some 49) _ = _
                simp only [Act.put, List.setIfInBounds_toArray, List.set_cons_zero, List.set_cons_succ, i64_w, i32_w]; rfl
              refine pure_ (i := 15) (N := some 50) (v := ?_) (a' := ?_) #[true,true,true,true,true,true,true,true,true,true,true,true,true,true,true,true,true,false,false,false,false,false,false] rfl rfl (any_of HT_.out (by kernel_rfl)) (fun _ _ _ h => h) (Or.inl ⟨by rfl, ?_⟩) ?_ ?_
              rotate_left
              · intro w'; go_simp; with_reducible rfl
              rotate_left; · (simp only [Act.put, List.setIfInBounds_toArray, List.set_cons_zero, List.set_cons_succ, i64_w, i32_w]; rfl)
              refine one_ (i := 17) (N := some 52) #[true,true,true,true,true,true,true,true,true,true,true,true,true,true,true,true,true,true,false,false,false,false,false] rfl rfl (one_of HT_.out (by kernel_rfl)) (by decide) (fun K hK => ?_)
              refine goes_ Try.func59 (by kernel_rfl) rfl #[.string t1002, .agg #[.int .i64 t1004, .int .i64 t1005, .slice Ao42 t1006.length co42], .int .i64 (wrap64 (1 + t1010)), .int .i64 (wrap64 (1 + t1012)), .string a2] (by rfl) rfl rfl (by (try simp only [List.map_toArray, List.map_cons, List.map_nil]); first | done | rfl | (simp only [List.length_drop, List.length_take]; rfl)) ?_
              with_reducible refine (seal_Close.calls t1002 t1004 t1005 _ _ t1006 (wrap64 (1 + t1010)) (wrap64 (1 + t1012)) a2 t1013 t1014 _ ?side1 ?side2 A19.out).mono ?_
              (case side1 => repeat (first | exact (Kd.V_reads' HO1008.out).2.2 | (with_reducible refine Kd.C_alloc ?_ _) | (with_reducible refine Kd.C_drewN ?_ _) | (with_reducible refine Kd.C_drew ?_))); (case side2 => exact (Kd.V_reads' HO1008.out).2.1); rintro e w43 ⟨rfl, hb⟩; refine ⟨_, rfl, ?_⟩
              have n0_ := Aside0.mk (Kd.V_below (by (with_reducible repeat (first | apply Kd.V_alloc | apply Kd.V_drewN | apply Kd.V_drew)); exact HO1008.out) hb)
              have n1_ := Aside0.mk (below_step (by repeat (first | (with_reducible first | exact HB.out | apply below_alloc | apply pw_below_drewN | apply below_drew1) | exact HB.out)) hb)
              clear HO1008; clear HB; have HO1008 := n0_; have HB := n1_; clear n0_ n1_; (try clear hb); (try clear hb2); (try clear hk); (try clear hi); refine hK.out _ _ ⟨((HB.out.cell (World.block_lt_of_cell? w _ hw1003_0)).trans hw1003_0), ((HB.out.cell (World.block_lt_of_cell? w _ hw1009_0)).trans hw1009_0), ((HB.out.cell (World.block_lt_of_cell? w _ hw1011_0)).trans hw1011_0)⟩ (fun hHeld => ?_)
              clear hK K; refine norm_ (a' := ?_) ?_ ?_
              rotate_left
              · show Act.put _ (some 52) _ = _
                simp only [Act.put, List.setIfInBounds_toArray, List.set_cons_zero, List.set_cons_succ, i64_w, i32_w]; rfl
              refine pure_ (i := 18) (N := some 34) (v := ?_) (a' := ?_) #[true,true,true,true,true,true,true,true,true,true,true,true,true,true,true,true,true,true,true,false,false,false,false] rfl rfl (any_of HT_.out (by kernel_rfl)) (fun _ _ _ h => h) (Or.inl ⟨by rfl, ?_⟩) ?_ ?_
              rotate_left
              · intro w'; go_simp; with_reducible rfl
              rotate_left; · (simp only [Act.put, List.setIfInBounds_toArray, List.set_cons_zero, List.set_cons_succ, i64_w, i32_w]; rfl)
              refine pure_ (i := 19) (N := some 53) (v := ?_) (a' := ?_) #[true,true,true,true,true,true,true,true,true,true,true,true,true,true,true,true,true,true,true,true,false,false,false] rfl rfl (any_of HT_.out (by kernel_rfl)) (fun _ _ _ h => h) (Or.inl ⟨by rfl, ?_⟩) ?_ ?_
              rotate_left
              · intro w'; go_simp; with_reducible rfl
              rotate_left; · (simp only [Act.put, List.setIfInBounds_toArray, List.set_cons_zero, List.set_cons_succ, i64_w, i32_w]; rfl)
              refine pure_ (i := 20) (N := some 54) (v := ?_) (a' := ?_) #[true,true,true,true,true,true,true,true,true,true,true,true,true,true,true,true,true,true,true,true,true,false,false] rfl rfl (any_of HT_.out (by kernel_rfl)) (fun _ _ _ h => h) (Or.inl ⟨by rfl, ?_⟩) ?_ ?_
              rotate_left
              · intro w'; go_simp; with_reducible rfl
              rotate_left; · (simp only [Act.put, List.setIfInBounds_toArray, List.set_cons_zero, List.set_cons_succ, i64_w, i32_w]; rfl)
              refine pure_ (i := 21) (N := some 10) (v := ?_) (a' := ?_) #[true,true,true,true,true,true,true,true,true,true,true,true,true,true,true,true,true,true,true,true,true,true,false] rfl rfl (any_of HT_.out (by kernel_rfl)) (fun _ _ _ h => h) (Or.inl ⟨by rfl, ?_⟩) ?_ ?_
              rotate_left
              · intro w'; go_simp; with_reducible rfl
              rotate_left; · (simp only [Act.put, List.setIfInBounds_toArray, List.set_cons_zero, List.set_cons_succ, i64_w, i32_w]; rfl)
              refine pure_ (i := 22) (N := some 11) (v := ?_) (a' := ?_) #[true,true,true,true,true,true,true,true,true,true,true,true,true,true,true,true,true,true,true,true,true,true,true] rfl rfl (any_of HT_.out (by kernel_rfl)) (fun _ _ _ h => h) (Or.inl ⟨by rfl, ?_⟩) ?_ ?_
              rotate_left
              · intro w'; go_simp; with_reducible rfl
              rotate_left; · (simp only [Act.put, List.setIfInBounds_toArray, List.set_cons_zero, List.set_cons_succ, i64_w, i32_w]; rfl)
              refine done_ (done_of HT_.out (by kernel_rfl)) ?_
              try go_wp2
              have n0_ := Aside0.mk (Kd.V_drew HO1008.out)
              have n1_ := Aside0.mk (below_drew1 HB.out)
              clear HO1008; clear HB; have HO1008 := n0_; have HB := n1_; clear n0_ n1_; have p1016 : 0 ≤ (3 : Int) := (by omega)
              have q1016 : 3 < (l1.length : Int) := of_decide_eq_true (by first | (with_reducible assumption) | assumption)
              obtain ⟨ad1016, e1016, hx1016_0⟩ := Kd.at_int HR1.out 3 p1016 q1016
              have hw1016_0 := hx1016_0; (try rw [show ((3 : Int)).toNat = 3 from rfl] at hw1016_0); (try rw [show 3 * 1 = 3 from rfl] at hw1016_0); (try simp only [Nat.reduceMul, Nat.reduceEqDiff, Go.Addr.add, ↓reduceIte] at hw1016_0); obtain rfl : ad1003 = ad1016 := (by injection e1016)
              (try simp only [show (3 : Int).toNat = 3 from rfl, Nat.reduceMul, Nat.reduceEqDiff, Go.Addr.add, ↓reduceIte] at hx1016_0); have qi1016 : (3 < l1.length) = True := eq_true (by omega)
              (try rw [show ((3 : Int)).toNat = 3 from rfl] at hx1016_0); replace hx1016_0 := (HB.out.cell (World.block_lt_of_cell? w _ hx1016_0)).trans hx1016_0
              replace p1016 := eq_true p1016
              replace q1016 := eq_true q1016
              have p1022 : 0 ≤ (4 : Int) := (by omega)
              have q1022 : 4 < (l1.length : Int) := of_decide_eq_true (by first | (with_reducible assumption) | assumption)
              obtain ⟨ad1022, e1022, hx1022_0⟩ := Kd.at_int HR1.out 4 p1022 q1022
              have hw1022_0 := hx1022_0; (try rw [show ((4 : Int)).toNat = 4 from rfl] at hw1022_0); (try rw [show 4 * 1 = 4 from rfl] at hw1022_0); (try simp only [Nat.reduceMul, Nat.reduceEqDiff, Go.Addr.add, ↓reduceIte] at hw1022_0); obtain rfl : ad1003 = ad1022 := (by injection e1022)
              (try simp only [show (4 : Int).toNat = 4 from rfl, Nat.reduceMul, Nat.reduceEqDiff, Go.Addr.add, ↓reduceIte] at hx1022_0); have qi1022 : (4 < l1.length) = True := eq_true (by omega)
              (try rw [show ((4 : Int)).toNat = 4 from rfl] at hx1022_0); replace hx1022_0 := (HB.out.cell (World.block_lt_of_cell? w _ hx1022_0)).trans hx1022_0
              replace p1022 := eq_true p1022
              replace q1022 := eq_true q1022
              have p1024 : 0 ≤ (5 : Int) := (by omega)
              have q1024 : 5 < (l1.length : Int) := of_decide_eq_true (by first | (with_reducible assumption) | assumption)
              obtain ⟨ad1024, e1024, hx1024_0⟩ := Kd.at_int HR1.out 5 p1024 q1024
              have hw1024_0 := hx1024_0; (try rw [show ((5 : Int)).toNat = 5 from rfl] at hw1024_0); (try rw [show 5 * 1 = 5 from rfl] at hw1024_0); (try simp only [Nat.reduceMul, Nat.reduceEqDiff, Go.Addr.add, ↓reduceIte] at hw1024_0); obtain rfl : ad1003 = ad1024 := (by injection e1024)
              (try simp only [show (5 : Int).toNat = 5 from rfl, Nat.reduceMul, Nat.reduceEqDiff, Go.Addr.add, ↓reduceIte] at hx1024_0); have qi1024 : (5 < l1.length) = True := eq_true (by omega)
              (try rw [show ((5 : Int)).toNat = 5 from rfl] at hx1024_0); replace hx1024_0 := (HB.out.cell (World.block_lt_of_cell? w _ hx1024_0)).trans hx1024_0
              replace p1024 := eq_true p1024
              replace q1024 := eq_true q1024
              refine start_ (n := 23) (S := fun w' => w'.cell? ⟨ad1003.block, ad1003.off + 3, none⟩ = some (.int .i64 (rd l1 3)) ∧ w'.cell? ⟨ad1003.block, ad1003.off + 4, none⟩ = some (.int .i64 (rd l1 4)) ∧ w'.cell? ⟨ad1003.block, ad1003.off + 5, none⟩ = some (.int .i64 (rd l1 5))) (ds := []) #[false,false,false,false,false,false,false,false,false,false,false,false,false,false,false,false,false,false,false,false,false,false,false] (by kernel_rfl) rfl rfl ⟨((HB.out.cell (World.block_lt_of_cell? w _ hw1016_0)).trans hw1016_0), ((HB.out.cell (World.block_lt_of_cell? w _ hw1022_0)).trans hw1022_0), ((HB.out.cell (World.block_lt_of_cell? w _ hw1024_0)).trans hw1024_0)⟩ (fun hHeld => ?_); refine with_tabW gemotlaw17_SealApart.tab5 gemotlaw17_SealApart.bits5 (fun HT_ HW_ => ?_)
              generalize w43.drew = w44 at HO1008 HB hx1016_0 hx1022_0 hx1024_0 hHeld ⊢
              refine pure_ (i := 0) (N := some 56) (v := ?_) (a' := ?_) #[true,false,false,false,false,false,false,false,false,false,false,false,false,false,false,false,false,false,false,false,false,false,false] rfl rfl (any_of HT_.out (by kernel_rfl)) (fun _ _ _ h => h) (Or.inl ⟨by rfl, ?_⟩) ?_ ?_
              rotate_left
              · intro w'; go_simp; with_reducible rfl
              rotate_left; · (simp only [Act.put, List.setIfInBounds_toArray, List.set_cons_zero, List.set_cons_succ, i64_w, i32_w]; rfl)
              refine pure_ (i := 2) (N := some 58) (v := ?_) (a' := ?_) #[true,false,true,false,false,false,false,false,false,false,false,false,false,false,false,false,false,false,false,false,false,false,false] rfl rfl (any_of HT_.out (by kernel_rfl)) (fun _ _ _ h => h) (Or.inl ⟨by rfl, ?_⟩) ?_ ?_
              rotate_left
              · intro w'; go_simp; with_reducible rfl
              rotate_left; · (simp only [Act.put, List.setIfInBounds_toArray, List.set_cons_zero, List.set_cons_succ, i64_w, i32_w]; rfl)
              refine pure_ (i := 3) (N := some 59) (v := ?_) (a' := ?_) #[true,false,true,true,false,false,false,false,false,false,false,false,false,false,false,false,false,false,false,false,false,false,false] rfl rfl (any_of HT_.out (by kernel_rfl)) (fun _ _ _ h => h) (Or.inl ⟨by rfl, ?_⟩) ?_ ?_
              rotate_left
              · intro w'; go_simp; with_reducible rfl
              rotate_left; · (simp only [Act.put, List.setIfInBounds_toArray, List.set_cons_zero, List.set_cons_succ, i64_w, i32_w]; rfl)
              refine pure_ (i := 6) (N := some 62) (v := ?_) (a' := ?_) #[true,false,true,true,false,false,true,false,false,false,false,false,false,false,false,false,false,false,false,false,false,false,false] rfl rfl (any_of HT_.out (by kernel_rfl)) (fun _ _ _ h => h) (Or.inl ⟨by rfl, ?_⟩) ?_ ?_
              rotate_left
              · intro w'; go_simp; with_reducible rfl
              rotate_left; · (simp only [Act.put, List.setIfInBounds_toArray, List.set_cons_zero, List.set_cons_succ, i64_w, i32_w]; rfl)
              refine pure_ (i := 7) (N := some 63) (v := ?_) (a' := ?_) #[true,false,true,true,false,false,true,true,false,false,false,false,false,false,false,false,false,false,false,false,false,false,false] rfl rfl (any_of HT_.out (by kernel_rfl)) (fun _ _ _ h => h) (Or.inl ⟨by rfl, ?_⟩) ?_ ?_
              rotate_left
              · intro w'; go_simp; with_reducible rfl
              rotate_left; · (simp only [Act.put, List.setIfInBounds_toArray, List.set_cons_zero, List.set_cons_succ, i64_w, i32_w]; rfl)
              refine pure_ (i := 11) (N := some 67) (v := ?_) (a' := ?_) #[true,false,true,true,false,false,true,true,false,false,false,true,false,false,false,false,false,false,false,false,false,false,false] rfl rfl (any_of HT_.out (by kernel_rfl)) (fun _ _ _ h => h) (Or.inl ⟨by rfl, ?_⟩) ?_ ?_
              rotate_left
              · intro w'; go_simp; with_reducible rfl
              rotate_left; · (simp only [Act.put, List.setIfInBounds_toArray, List.set_cons_zero, List.set_cons_succ, i64_w, i32_w]; rfl)
              refine pure_ (i := 12) (N := some 68) (v := ?_) (a' := ?_) #[true,false,true,true,false,false,true,true,false,false,false,true,true,false,false,false,false,false,false,false,false,false,false] rfl rfl (any_of HT_.out (by kernel_rfl)) (fun _ _ _ h => h) (Or.inl ⟨by rfl, ?_⟩) ?_ ?_
              rotate_left
              · intro w'; go_simp; with_reducible rfl
              rotate_left; · (simp only [Act.put, List.setIfInBounds_toArray, List.set_cons_zero, List.set_cons_succ, i64_w, i32_w]; rfl)
              refine pure_ (i := 16) (N := some 72) (v := ?_) (a' := ?_) #[true,false,true,true,false,false,true,true,false,false,false,true,true,false,false,false,true,false,false,false,false,false,false] rfl rfl (any_of HT_.out (by kernel_rfl)) (fun _ _ _ h => h) (Or.inl ⟨by rfl, ?_⟩) ?_ ?_
              rotate_left
              · intro w'; go_simp; with_reducible rfl
              rotate_left; · (simp only [Act.put, List.setIfInBounds_toArray, List.set_cons_zero, List.set_cons_succ, i64_w, i32_w]; rfl)
              refine take_ (i := 4) (N := some 60) (v := ?_) (a' := ?_) #[true,false,true,true,true,false,true,true,false,false,false,true,true,false,false,false,true,false,false,false,false,false,false] rfl rfl (take_ofW HT_.out HW_.out (by kernel_rfl)) (fun _ _ _ h => h) (Or.inl ⟨by rfl, ?_⟩) hHeld ?_ ?_
              rotate_left
              · rintro w' ⟨s0, s1, s2⟩; go_simp; with_reducible rfl
              rotate_left; · (simp only [Act.put, List.setIfInBounds_toArray, List.set_cons_zero, List.set_cons_succ, i64_w, i32_w]; rfl)
              refine take_ (i := 8) (N := some 64) (v := ?_) (a' := ?_) #[true,false,true,true,true,false,true,true,true,false,false,true,true,false,false,false,true,false,false,false,false,false,false] rfl rfl (take_ofW HT_.out HW_.out (by kernel_rfl)) (fun _ _ _ h => h) (Or.inl ⟨by rfl, ?_⟩) hHeld ?_ ?_
              rotate_left
              · rintro w' ⟨s0, s1, s2⟩; go_simp; with_reducible rfl
              rotate_left; · (simp only [Act.put, List.setIfInBounds_toArray, List.set_cons_zero, List.set_cons_succ, i64_w, i32_w]; rfl)
              refine take_ (i := 13) (N := some 69) (v := ?_) (a' := ?_) #[true,false,true,true,true,false,true,true,true,false,false,true,true,true,false,false,true,false,false,false,false,false,false] rfl rfl (take_ofW HT_.out HW_.out (by kernel_rfl)) (fun _ _ _ h => h) (Or.inl ⟨by rfl, ?_⟩) hHeld ?_ ?_
              rotate_left
              · rintro w' ⟨s0, s1, s2⟩; go_simp; with_reducible rfl
              rotate_left; · (simp only [Act.put, List.setIfInBounds_toArray, List.set_cons_zero, List.set_cons_succ, i64_w, i32_w]; rfl)
              refine one_ (i := 1) (N := some 57) #[true,true,true,true,true,false,true,true,true,false,false,true,true,true,false,false,true,false,false,false,false,false,false] rfl rfl (one_of HT_.out (by kernel_rfl)) (by decide) (fun K hK => ?_)
              refine goes_ Try.func65 (by kernel_rfl) rfl #[.int .u64 a0] (by rfl) rfl rfl (by (try simp only [List.map_toArray, List.map_cons, List.map_nil]); first | done | rfl | (simp only [List.length_drop, List.length_take]; rfl)) ?_
              with_reducible refine (term_Name.calls a0 t1015 _ A20.out).mono ?_
              rintro e w45 ⟨rfl, hb⟩; refine ⟨_, rfl, ?_⟩
              have n0_ := Aside0.mk (Kd.V_below (by (with_reducible repeat (first | apply Kd.V_alloc | apply Kd.V_drewN | apply Kd.V_drew)); exact HO1008.out) hb)
              have n1_ := Aside0.mk (below_step (by repeat (first | (with_reducible first | exact HB.out | apply below_alloc | apply pw_below_drewN | apply below_drew1) | exact HB.out)) hb)
              clear HO1008; clear HB; have HO1008 := n0_; have HB := n1_; clear n0_ n1_; (try clear hb); (try clear hb2); (try clear hk); (try clear hi); refine hK.out _ _ ⟨((HB.out.cell (World.block_lt_of_cell? w _ hw1016_0)).trans hw1016_0), ((HB.out.cell (World.block_lt_of_cell? w _ hw1022_0)).trans hw1022_0), ((HB.out.cell (World.block_lt_of_cell? w _ hw1024_0)).trans hw1024_0)⟩ (fun hHeld => ?_)
              clear hK K; refine norm_ (a' := ?_) ?_ ?_
              rotate_left
              · show Act.put _ (some 57) _ = _
                simp only [Act.put, List.setIfInBounds_toArray, List.set_cons_zero, List.set_cons_succ, i64_w, i32_w]; rfl
              refine one_ (i := 5) (N := some 61) #[true,true,true,true,true,true,true,true,true,false,false,true,true,true,false,false,true,false,false,false,false,false,false] rfl rfl (one_of HT_.out (by kernel_rfl)) (by decide) (fun K hK => ?_)
              refine goes_ Try.func63 (by kernel_rfl) rfl #[.int .i64 (rd l1 3)] (by rfl) rfl rfl (by (try simp only [List.map_toArray, List.map_cons, List.map_nil]); first | done | rfl | (simp only [List.length_drop, List.length_take]; rfl)) ?_
              with_reducible refine (gemotlaw17_of.calls (rd l1 3) t1017 t1018 t1019 _ A22.out).mono ?_
              rintro e w46 ⟨v1020, rfl, ho0, hb⟩; refine ⟨_, rfl, ?_⟩
              have n0_ := Aside0.mk (Kd.V_below (by (with_reducible repeat (first | apply Kd.V_alloc | apply Kd.V_drewN | apply Kd.V_drew)); exact HO1008.out) hb)
              have n1_ := Aside0.mk (Kd.V_lower (Kd.V_mono (ok' := fun k_ => True) ho0 (fun k_ hk_ => trivial)) (below_size (by repeat (first | (with_reducible first | exact HB.out | apply below_alloc | apply pw_below_drewN | apply below_drew1) | exact HB.out))))
              have n2_ := Aside0.mk (below_step (by repeat (first | (with_reducible first | exact HB.out | apply below_alloc | apply pw_below_drewN | apply below_drew1) | exact HB.out)) hb)
              clear HO1008; clear HB; have HO1008 := n0_; have HO1021 := n1_; have HB := n2_; clear n0_ n1_ n2_; (try clear hb); (try clear hb2); (try clear hk); (try clear hi); (try clear ho0); refine hK.out _ _ ⟨((HB.out.cell (World.block_lt_of_cell? w _ hw1016_0)).trans hw1016_0), ((HB.out.cell (World.block_lt_of_cell? w _ hw1022_0)).trans hw1022_0), ((HB.out.cell (World.block_lt_of_cell? w _ hw1024_0)).trans hw1024_0)⟩ (fun hHeld => ?_)
              clear hK K; refine norm_ (a' := ?_) ?_ ?_
              rotate_left
              · show Act.put _ (some 61) _ = _
                simp only [Act.put, List.setIfInBounds_toArray, List.set_cons_zero, List.set_cons_succ, i64_w, i32_w]; rfl
              refine one_ (i := 9) (N := some 65) #[true,true,true,true,true,true,true,true,true,true,false,true,true,true,false,false,true,false,false,false,false,false,false] rfl rfl (one_of HT_.out (by kernel_rfl)) (by decide) (fun K hK => ?_)
              refine goes_ Try.func64 (by kernel_rfl) rfl #[.int .i64 (rd l1 4), .int .i64 8] (by rfl) rfl rfl (by (try simp only [List.map_toArray, List.map_cons, List.map_nil]); first | done | rfl | (simp only [List.length_drop, List.length_take]; rfl)) ?_
              with_reducible refine (gemotlaw17_pick.calls (rd l1 4) 8 t1023 _ A24.out).mono ?_
              rintro e w' ⟨rfl, ⟨nd, rfl⟩⟩; refine ⟨_, rfl, ?_⟩
              refine hK.out _ _ ⟨((HB.out.cell (World.block_lt_of_cell? w _ hw1016_0)).trans hw1016_0), ((HB.out.cell (World.block_lt_of_cell? w _ hw1022_0)).trans hw1022_0), ((HB.out.cell (World.block_lt_of_cell? w _ hw1024_0)).trans hw1024_0)⟩ (fun hHeld => ?_)
              clear hK K; refine norm_ (a' := ?_) ?_ ?_
              rotate_left
              · show Act.put _ (some 65) _ = _
                simp only [Act.put, List.setIfInBounds_toArray, List.set_cons_zero, List.set_cons_succ, i64_w, i32_w]; rfl
              refine pure_ (i := 10) (N := some 66) (v := ?_) (a' := ?_) #[true,true,true,true,true,true,true,true,true,true,true,true,true,true,false,false,true,false,false,false,false,false,false] rfl rfl (any_of HT_.out (by kernel_rfl)) (fun _ _ _ h => h) (Or.inl ⟨by rfl, ?_⟩) ?_ ?_
              rotate_left
              · intro w'; go_simp; with_reducible rfl
              rotate_left; · (simp only [Act.put, List.setIfInBounds_toArray, List.set_cons_zero, List.set_cons_succ, i64_w, i32_w]; rfl)
              refine one_ (i := 14) (N := some 70) #[true,true,true,true,true,true,true,true,true,true,true,true,true,true,true,false,true,false,false,false,false,false,false] rfl rfl (one_of HT_.out (by kernel_rfl)) (by decide) (fun K hK => ?_)
              refine goes_ Try.func64 (by kernel_rfl) rfl #[.int .i64 (rd l1 5), .int .i64 32] (by rfl) rfl rfl (by (try simp only [List.map_toArray, List.map_cons, List.map_nil]); first | done | rfl | (simp only [List.length_drop, List.length_take]; rfl)) ?_
              with_reducible refine (gemotlaw17_pick.calls (rd l1 5) 32 t1025 _ A26.out).mono ?_
              rintro e w' ⟨rfl, ⟨nd, rfl⟩⟩; refine ⟨_, rfl, ?_⟩
              obtain ⟨Ao47, co47, eo47⟩ := Kd.V_slice HO1021.out; (first | subst eo47 | (injection eo47 with f1_ f2_ f3_; have f4_ := f1_.symm; have f5_ := f3_.symm; clear f1_ f2_ f3_; subst f4_; subst f5_)); refine hK.out _ _ ⟨((HB.out.cell (World.block_lt_of_cell? w _ hw1016_0)).trans hw1016_0), ((HB.out.cell (World.block_lt_of_cell? w _ hw1022_0)).trans hw1022_0), ((HB.out.cell (World.block_lt_of_cell? w _ hw1024_0)).trans hw1024_0)⟩ (fun hHeld => ?_)
              clear hK K; refine norm_ (a' := ?_) ?_ ?_
              rotate_left
              · show Act.put _ (some 70) _ = _
                simp only [Act.put, List.setIfInBounds_toArray, List.set_cons_zero, List.set_cons_succ, i64_w, i32_w]; rfl
              refine pure_ (i := 15) (N := some 71) (v := ?_) (a' := ?_) #[true,true,true,true,true,true,true,true,true,true,true,true,true,true,true,true,true,false,false,false,false,false,false] rfl rfl (any_of HT_.out (by kernel_rfl)) (fun _ _ _ h => h) (Or.inl ⟨by rfl, ?_⟩) ?_ ?_
              rotate_left
              · intro w'; go_simp; with_reducible rfl
              rotate_left; · (simp only [Act.put, List.setIfInBounds_toArray, List.set_cons_zero, List.set_cons_succ, i64_w, i32_w]; rfl)
              refine one_ (i := 17) (N := some 73) #[true,true,true,true,true,true,true,true,true,true,true,true,true,true,true,true,true,true,false,false,false,false,false] rfl rfl (one_of HT_.out (by kernel_rfl)) (by decide) (fun K hK => ?_)
              refine goes_ Try.func59 (by kernel_rfl) rfl #[.string t1015, .agg #[.int .i64 t1017, .int .i64 t1018, .slice Ao47 t1019.length co47], .int .i64 (wrap64 (1 + t1023)), .int .i64 (wrap64 (1 + t1025)), .string a3] (by rfl) rfl rfl (by (try simp only [List.map_toArray, List.map_cons, List.map_nil]); first | done | rfl | (simp only [List.length_drop, List.length_take]; rfl)) ?_
              with_reducible refine (seal_Close.calls t1015 t1017 t1018 _ _ t1019 (wrap64 (1 + t1023)) (wrap64 (1 + t1025)) a3 t1026 t1027 _ ?side1 ?side2 A27.out).mono ?_
              (case side1 => repeat (first | exact (Kd.V_reads' HO1021.out).2.2 | (with_reducible refine Kd.C_alloc ?_ _) | (with_reducible refine Kd.C_drewN ?_ _) | (with_reducible refine Kd.C_drew ?_))); (case side2 => exact (Kd.V_reads' HO1021.out).2.1); rintro e w48 ⟨rfl, hb⟩; refine ⟨_, rfl, ?_⟩
              have n0_ := Aside0.mk (Kd.V_below (by (with_reducible repeat (first | apply Kd.V_alloc | apply Kd.V_drewN | apply Kd.V_drew)); exact HO1008.out) hb)
              have n1_ := Aside0.mk (Kd.V_below (by (with_reducible repeat (first | apply Kd.V_alloc | apply Kd.V_drewN | apply Kd.V_drew)); exact HO1021.out) hb)
              have n2_ := Aside0.mk (below_step (by repeat (first | (with_reducible first | exact HB.out | apply below_alloc | apply pw_below_drewN | apply below_drew1) | exact HB.out)) hb)
              clear HO1008; clear HO1021; clear HB; have HO1008 := n0_; have HO1021 := n1_; have HB := n2_; clear n0_ n1_ n2_; (try clear hb); (try clear hb2); (try clear hk); (try clear hi); refine hK.out _ _ ⟨((HB.out.cell (World.block_lt_of_cell? w _ hw1016_0)).trans hw1016_0), ((HB.out.cell (World.block_lt_of_cell? w _ hw1022_0)).trans hw1022_0), ((HB.out.cell (World.block_lt_of_cell? w _ hw1024_0)).trans hw1024_0)⟩ (fun hHeld => ?_)
              clear hK K; refine norm_ (a' := ?_) ?_ ?_
              rotate_left
              · show Act.put _ (some 73) _ = _
                simp only [Act.put, List.setIfInBounds_toArray, List.set_cons_zero, List.set_cons_succ, i64_w, i32_w]; rfl
              refine pure_ (i := 18) (N := some 55) (v := ?_) (a' := ?_) #[true,true,true,true,true,true,true,true,true,true,true,true,true,true,true,true,true,true,true,false,false,false,false] rfl rfl (any_of HT_.out (by kernel_rfl)) (fun _ _ _ h => h) (Or.inl ⟨by rfl, ?_⟩) ?_ ?_
              rotate_left
              · intro w'; go_simp; with_reducible rfl
              rotate_left; · (simp only [Act.put, List.setIfInBounds_toArray, List.set_cons_zero, List.set_cons_succ, i64_w, i32_w]; rfl)
              refine pure_ (i := 19) (N := some 74) (v := ?_) (a' := ?_) #[true,true,true,true,true,true,true,true,true,true,true,true,true,true,true,true,true,true,true,true,false,false,false] rfl rfl (any_of HT_.out (by kernel_rfl)) (fun _ _ _ h => h) (Or.inl ⟨by rfl, ?_⟩) ?_ ?_
              rotate_left
              · intro w'; go_simp; with_reducible rfl
              rotate_left; · (simp only [Act.put, List.setIfInBounds_toArray, List.set_cons_zero, List.set_cons_succ, i64_w, i32_w]; rfl)
              refine pure_ (i := 20) (N := some 75) (v := ?_) (a' := ?_) #[true,true,true,true,true,true,true,true,true,true,true,true,true,true,true,true,true,true,true,true,true,false,false] rfl rfl (any_of HT_.out (by kernel_rfl)) (fun _ _ _ h => h) (Or.inl ⟨by rfl, ?_⟩) ?_ ?_
              rotate_left
              · intro w'; go_simp; with_reducible rfl
              rotate_left; · (simp only [Act.put, List.setIfInBounds_toArray, List.set_cons_zero, List.set_cons_succ, i64_w, i32_w]; rfl)
              refine pure_ (i := 21) (N := some 12) (v := ?_) (a' := ?_) #[true,true,true,true,true,true,true,true,true,true,true,true,true,true,true,true,true,true,true,true,true,true,false] rfl rfl (any_of HT_.out (by kernel_rfl)) (fun _ _ _ h => h) (Or.inl ⟨by rfl, ?_⟩) ?_ ?_
              rotate_left
              · intro w'; go_simp; with_reducible rfl
              rotate_left; · (simp only [Act.put, List.setIfInBounds_toArray, List.set_cons_zero, List.set_cons_succ, i64_w, i32_w]; rfl)
              refine pure_ (i := 22) (N := some 13) (v := ?_) (a' := ?_) #[true,true,true,true,true,true,true,true,true,true,true,true,true,true,true,true,true,true,true,true,true,true,true] rfl rfl (any_of HT_.out (by kernel_rfl)) (fun _ _ _ h => h) (Or.inl ⟨by rfl, ?_⟩) ?_ ?_
              rotate_left
              · intro w'; go_simp; with_reducible rfl
              rotate_left; · (simp only [Act.put, List.setIfInBounds_toArray, List.set_cons_zero, List.set_cons_succ, i64_w, i32_w]; rfl)
              refine done_ (done_of HT_.out (by kernel_rfl)) ?_
              try go_wp2
              have n0_ := Aside0.mk (Kd.V_drew HO1008.out)
              have n1_ := Aside0.mk (Kd.V_drew HO1021.out)
              have n2_ := Aside0.mk (below_drew1 HB.out)
              clear HO1008; clear HO1021; clear HB; have HO1008 := n0_; have HO1021 := n1_; have HB := n2_; clear n0_ n1_ n2_; have p1028 : 0 ≤ (0 : Int) := (by omega)
              have q1028 : 0 < (l1.length : Int) := of_decide_eq_true (by first | (with_reducible assumption) | assumption)
              obtain ⟨ad1028, e1028, hx1028_0⟩ := Kd.at_int HR1.out 0 p1028 q1028
              have hw1028_0 := hx1028_0; (try rw [show ((0 : Int)).toNat = 0 from rfl] at hw1028_0); (try rw [show 0 * 1 = 0 from rfl] at hw1028_0); (try rw [Addr.add_zero'] at hw1028_0); obtain rfl : ad1003 = ad1028 := (by injection e1028)
              have qi1028 : (0 < l1.length) = True := eq_true (by omega)
              (try rw [show ((0 : Int)).toNat = 0 from rfl] at hx1028_0); (try rw [Addr.add_zero'] at hx1028_0); replace hx1028_0 := (HB.out.cell (World.block_lt_of_cell? w _ hx1028_0)).trans hx1028_0
              replace p1028 := eq_true p1028
              replace q1028 := eq_true q1028
              have p1030 : 0 ≤ (3 : Int) := (by omega)
              have q1030 : 3 < (l1.length : Int) := of_decide_eq_true (by first | (with_reducible assumption) | assumption)
              obtain ⟨ad1030, e1030, hx1030_0⟩ := Kd.at_int HR1.out 3 p1030 q1030
              have hw1030_0 := hx1030_0; (try rw [show ((3 : Int)).toNat = 3 from rfl] at hw1030_0); (try rw [show 3 * 1 = 3 from rfl] at hw1030_0); (try simp only [Nat.reduceMul, Nat.reduceEqDiff, Go.Addr.add, ↓reduceIte] at hw1030_0); obtain rfl : ad1003 = ad1030 := (by injection e1030)
              (try simp only [show (3 : Int).toNat = 3 from rfl, Nat.reduceMul, Nat.reduceEqDiff, Go.Addr.add, ↓reduceIte] at hx1030_0); have qi1030 : (3 < l1.length) = True := eq_true (by omega)
              (try rw [show ((3 : Int)).toNat = 3 from rfl] at hx1030_0); replace hx1030_0 := (HB.out.cell (World.block_lt_of_cell? w _ hx1030_0)).trans hx1030_0
              replace p1030 := eq_true p1030
              replace q1030 := eq_true q1030
              have p1032 : 0 ≤ (1 : Int) := (by omega)
              have q1032 : 1 < (l1.length : Int) := of_decide_eq_true (by first | (with_reducible assumption) | assumption)
              obtain ⟨ad1032, e1032, hx1032_0⟩ := Kd.at_int HR1.out 1 p1032 q1032
              have hw1032_0 := hx1032_0; (try rw [show ((1 : Int)).toNat = 1 from rfl] at hw1032_0); (try rw [show 1 * 1 = 1 from rfl] at hw1032_0); (try simp only [Nat.reduceMul, Nat.reduceEqDiff, Go.Addr.add, ↓reduceIte] at hw1032_0); obtain rfl : ad1003 = ad1032 := (by injection e1032)
              (try simp only [show (1 : Int).toNat = 1 from rfl, Nat.reduceMul, Nat.reduceEqDiff, Go.Addr.add, ↓reduceIte] at hx1032_0); have qi1032 : (1 < l1.length) = True := eq_true (by omega)
              (try rw [show ((1 : Int)).toNat = 1 from rfl] at hx1032_0); replace hx1032_0 := (HB.out.cell (World.block_lt_of_cell? w _ hx1032_0)).trans hx1032_0
              replace p1032 := eq_true p1032
              replace q1032 := eq_true q1032
              have p1034 : 0 ≤ (4 : Int) := (by omega)
              have q1034 : 4 < (l1.length : Int) := of_decide_eq_true (by first | (with_reducible assumption) | assumption)
              obtain ⟨ad1034, e1034, hx1034_0⟩ := Kd.at_int HR1.out 4 p1034 q1034
              have hw1034_0 := hx1034_0; (try rw [show ((4 : Int)).toNat = 4 from rfl] at hw1034_0); (try rw [show 4 * 1 = 4 from rfl] at hw1034_0); (try simp only [Nat.reduceMul, Nat.reduceEqDiff, Go.Addr.add, ↓reduceIte] at hw1034_0); obtain rfl : ad1003 = ad1034 := (by injection e1034)
              (try simp only [show (4 : Int).toNat = 4 from rfl, Nat.reduceMul, Nat.reduceEqDiff, Go.Addr.add, ↓reduceIte] at hx1034_0); have qi1034 : (4 < l1.length) = True := eq_true (by omega)
              (try rw [show ((4 : Int)).toNat = 4 from rfl] at hx1034_0); replace hx1034_0 := (HB.out.cell (World.block_lt_of_cell? w _ hx1034_0)).trans hx1034_0
              replace p1034 := eq_true p1034
              replace q1034 := eq_true q1034
              have p1036 : 0 ≤ (2 : Int) := (by omega)
              have q1036 : 2 < (l1.length : Int) := of_decide_eq_true (by first | (with_reducible assumption) | assumption)
              obtain ⟨ad1036, e1036, hx1036_0⟩ := Kd.at_int HR1.out 2 p1036 q1036
              have hw1036_0 := hx1036_0; (try rw [show ((2 : Int)).toNat = 2 from rfl] at hw1036_0); (try rw [show 2 * 1 = 2 from rfl] at hw1036_0); (try simp only [Nat.reduceMul, Nat.reduceEqDiff, Go.Addr.add, ↓reduceIte] at hw1036_0); obtain rfl : ad1003 = ad1036 := (by injection e1036)
              (try simp only [show (2 : Int).toNat = 2 from rfl, Nat.reduceMul, Nat.reduceEqDiff, Go.Addr.add, ↓reduceIte] at hx1036_0); have qi1036 : (2 < l1.length) = True := eq_true (by omega)
              (try rw [show ((2 : Int)).toNat = 2 from rfl] at hx1036_0); replace hx1036_0 := (HB.out.cell (World.block_lt_of_cell? w _ hx1036_0)).trans hx1036_0
              replace p1036 := eq_true p1036
              replace q1036 := eq_true q1036
              have p1038 : 0 ≤ (5 : Int) := (by omega)
              have q1038 : 5 < (l1.length : Int) := of_decide_eq_true (by first | (with_reducible assumption) | assumption)
              obtain ⟨ad1038, e1038, hx1038_0⟩ := Kd.at_int HR1.out 5 p1038 q1038
              have hw1038_0 := hx1038_0; (try rw [show ((5 : Int)).toNat = 5 from rfl] at hw1038_0); (try rw [show 5 * 1 = 5 from rfl] at hw1038_0); (try simp only [Nat.reduceMul, Nat.reduceEqDiff, Go.Addr.add, ↓reduceIte] at hw1038_0); obtain rfl : ad1003 = ad1038 := (by injection e1038)
              (try simp only [show (5 : Int).toNat = 5 from rfl, Nat.reduceMul, Nat.reduceEqDiff, Go.Addr.add, ↓reduceIte] at hx1038_0); have qi1038 : (5 < l1.length) = True := eq_true (by omega)
              (try rw [show ((5 : Int)).toNat = 5 from rfl] at hx1038_0); replace hx1038_0 := (HB.out.cell (World.block_lt_of_cell? w _ hx1038_0)).trans hx1038_0
              replace p1038 := eq_true p1038
              replace q1038 := eq_true q1038
              refine start_ (n := 37) (S := fun w' => w'.cell? ad1003 = some (.int .i64 (rd l1 0)) ∧ w'.cell? ⟨ad1003.block, ad1003.off + 3, none⟩ = some (.int .i64 (rd l1 3)) ∧ w'.cell? ⟨ad1003.block, ad1003.off + 1, none⟩ = some (.int .i64 (rd l1 1)) ∧ w'.cell? ⟨ad1003.block, ad1003.off + 4, none⟩ = some (.int .i64 (rd l1 4)) ∧ w'.cell? ⟨ad1003.block, ad1003.off + 2, none⟩ = some (.int .i64 (rd l1 2)) ∧ w'.cell? ⟨ad1003.block, ad1003.off + 5, none⟩ = some (.int .i64 (rd l1 5))) (ds := []) #[false,false,false,false,false,false,false,false,false,false,false,false,false,false,false,false,false,false,false,false,false,false,false,false,false,false,false,false,false,false,false,false,false,false,false,false,false] (by kernel_rfl) rfl rfl ⟨((HB.out.cell (World.block_lt_of_cell? w _ hw1028_0)).trans hw1028_0), ((HB.out.cell (World.block_lt_of_cell? w _ hw1030_0)).trans hw1030_0), ((HB.out.cell (World.block_lt_of_cell? w _ hw1032_0)).trans hw1032_0), ((HB.out.cell (World.block_lt_of_cell? w _ hw1034_0)).trans hw1034_0), ((HB.out.cell (World.block_lt_of_cell? w _ hw1036_0)).trans hw1036_0), ((HB.out.cell (World.block_lt_of_cell? w _ hw1038_0)).trans hw1038_0)⟩ (fun hHeld => ?_); refine with_tabW gemotlaw17_SealApart.tab6 gemotlaw17_SealApart.bits6 (fun HT_ HW_ => ?_)
              generalize w48.drew = w49 at HO1008 HO1021 HB hx1028_0 hx1030_0 hx1032_0 hx1034_0 hx1036_0 hx1038_0 hHeld ⊢
              refine pure_ (i := 0) (N := some 76) (v := ?_) (a' := ?_) #[true,false,false,false,false,false,false,false,false,false,false,false,false,false,false,false,false,false,false,false,false,false,false,false,false,false,false,false,false,false,false,false,false,false,false,false,false] rfl rfl (any_of HT_.out (by kernel_rfl)) (fun _ _ _ h => h) (Or.inl ⟨by rfl, ?_⟩) ?_ ?_
              rotate_left
              · intro w'; go_simp; with_reducible rfl
              rotate_left; · (simp only [Act.put, List.setIfInBounds_toArray, List.set_cons_zero, List.set_cons_succ, i64_w, i32_w]; rfl)
              refine pure_ (i := 1) (N := some 77) (v := ?_) (a' := ?_) #[true,true,false,false,false,false,false,false,false,false,false,false,false,false,false,false,false,false,false,false,false,false,false,false,false,false,false,false,false,false,false,false,false,false,false,false,false] rfl rfl (any_of HT_.out (by kernel_rfl)) (fun _ _ _ h => h) (Or.inl ⟨by rfl, ?_⟩) ?_ ?_
              rotate_left
              · intro w'; go_simp; with_reducible rfl
              rotate_left; · (simp only [Act.put, List.setIfInBounds_toArray, List.set_cons_zero, List.set_cons_succ, i64_w, i32_w]; rfl)
              refine pure_ (i := 4) (N := some 80) (v := ?_) (a' := ?_) #[true,true,false,false,true,false,false,false,false,false,false,false,false,false,false,false,false,false,false,false,false,false,false,false,false,false,false,false,false,false,false,false,false,false,false,false,false] rfl rfl (any_of HT_.out (by kernel_rfl)) (fun _ _ _ h => h) (Or.inl ⟨by rfl, ?_⟩) ?_ ?_
              rotate_left
              · intro w'; go_simp; with_reducible rfl
              rotate_left; · (simp only [Act.put, List.setIfInBounds_toArray, List.set_cons_zero, List.set_cons_succ, i64_w, i32_w]; rfl)
              refine pure_ (i := 5) (N := some 81) (v := ?_) (a' := ?_) #[true,true,false,false,true,true,false,false,false,false,false,false,false,false,false,false,false,false,false,false,false,false,false,false,false,false,false,false,false,false,false,false,false,false,false,false,false] rfl rfl (any_of HT_.out (by kernel_rfl)) (fun _ _ _ h => h) (Or.inl ⟨by rfl, ?_⟩) ?_ ?_
              rotate_left
              · intro w'; go_simp; with_reducible rfl
              rotate_left; · (simp only [Act.put, List.setIfInBounds_toArray, List.set_cons_zero, List.set_cons_succ, i64_w, i32_w]; rfl)
              refine take_ (i := 2) (N := some 78) (v := ?_) (a' := ?_) #[true,true,true,false,true,true,false,false,false,false,false,false,false,false,false,false,false,false,false,false,false,false,false,false,false,false,false,false,false,false,false,false,false,false,false,false,false] rfl rfl (take_ofW HT_.out HW_.out (by kernel_rfl)) (fun _ _ _ h => h) (Or.inl ⟨by rfl, ?_⟩) hHeld ?_ ?_
              rotate_left
              · rintro w' ⟨s0, s1, s2, s3, s4, s5⟩; go_simp; with_reducible rfl
              rotate_left; · (simp only [Act.put, List.setIfInBounds_toArray, List.set_cons_zero, List.set_cons_succ, i64_w, i32_w]; rfl)
              refine take_ (i := 6) (N := some 82) (v := ?_) (a' := ?_) #[true,true,true,false,true,true,true,false,false,false,false,false,false,false,false,false,false,false,false,false,false,false,false,false,false,false,false,false,false,false,false,false,false,false,false,false,false] rfl rfl (take_ofW HT_.out HW_.out (by kernel_rfl)) (fun _ _ _ h => h) (Or.inl ⟨by rfl, ?_⟩) hHeld ?_ ?_
              rotate_left
              · rintro w' ⟨s0, s1, s2, s3, s4, s5⟩; go_simp; with_reducible rfl
              rotate_left; · (simp only [Act.put, List.setIfInBounds_toArray, List.set_cons_zero, List.set_cons_succ, i64_w, i32_w]; rfl)
              refine one_ (i := 3) (N := some 79) #[true,true,true,true,true,true,true,false,false,false,false,false,false,false,false,false,false,false,false,false,false,false,false,false,false,false,false,false,false,false,false,false,false,false,false,false,false] rfl rfl (one_of HT_.out (by kernel_rfl)) (by decide) (fun K hK => ?_)
              refine goes_ Try.func64 (by kernel_rfl) rfl #[.int .i64 (rd l1 0), .int .i64 1000] (by rfl) rfl rfl (by (try simp only [List.map_toArray, List.map_cons, List.map_nil]); first | done | rfl | (simp only [List.length_drop, List.length_take]; rfl)) ?_
              with_reducible refine (gemotlaw17_pick.calls (rd l1 0) 1000 t1029 _ A28.out).mono ?_
              rintro e w' ⟨rfl, ⟨nd, rfl⟩⟩; refine ⟨_, rfl, ?_⟩
              refine hK.out _ _ ⟨((HB.out.cell (World.block_lt_of_cell? w _ hw1028_0)).trans hw1028_0), ((HB.out.cell (World.block_lt_of_cell? w _ hw1030_0)).trans hw1030_0), ((HB.out.cell (World.block_lt_of_cell? w _ hw1032_0)).trans hw1032_0), ((HB.out.cell (World.block_lt_of_cell? w _ hw1034_0)).trans hw1034_0), ((HB.out.cell (World.block_lt_of_cell? w _ hw1036_0)).trans hw1036_0), ((HB.out.cell (World.block_lt_of_cell? w _ hw1038_0)).trans hw1038_0)⟩ (fun hHeld => ?_)
              clear hK K; refine norm_ (a' := ?_) ?_ ?_
              rotate_left
              · show Act.put _ (some 79) _ = _
                simp only [Act.put, List.setIfInBounds_toArray, List.set_cons_zero, List.set_cons_succ, i64_w, i32_w]; rfl
              refine one_ (i := 7) (N := some 83) #[true,true,true,true,true,true,true,true,false,false,false,false,false,false,false,false,false,false,false,false,false,false,false,false,false,false,false,false,false,false,false,false,false,false,false,false,false] rfl rfl (one_of HT_.out (by kernel_rfl)) (by decide) (fun K hK => ?_)
              refine goes_ Try.func64 (by kernel_rfl) rfl #[.int .i64 (rd l1 3), .int .i64 1000] (by rfl) rfl rfl (by (try simp only [List.map_toArray, List.map_cons, List.map_nil]); first | done | rfl | (simp only [List.length_drop, List.length_take]; rfl)) ?_
              with_reducible refine (gemotlaw17_pick.calls (rd l1 3) 1000 t1031 _ A29.out).mono ?_
              rintro e w' ⟨rfl, ⟨nd, rfl⟩⟩; refine ⟨_, rfl, ?_⟩
              refine hK.out _ _ ⟨((HB.out.cell (World.block_lt_of_cell? w _ hw1028_0)).trans hw1028_0), ((HB.out.cell (World.block_lt_of_cell? w _ hw1030_0)).trans hw1030_0), ((HB.out.cell (World.block_lt_of_cell? w _ hw1032_0)).trans hw1032_0), ((HB.out.cell (World.block_lt_of_cell? w _ hw1034_0)).trans hw1034_0), ((HB.out.cell (World.block_lt_of_cell? w _ hw1036_0)).trans hw1036_0), ((HB.out.cell (World.block_lt_of_cell? w _ hw1038_0)).trans hw1038_0)⟩ (fun hHeld => ?_)
              clear hK K; refine norm_ (a' := ?_) ?_ ?_
              rotate_left
              · show Act.put _ (some 83) _ = _
                simp only [Act.put, List.setIfInBounds_toArray, List.set_cons_zero, List.set_cons_succ, i64_w, i32_w]; rfl
              refine pure_ (i := 8) (N := some 84) (v := ?_) (a' := ?_) #[true,true,true,true,true,true,true,true,true,false,false,false,false,false,false,false,false,false,false,false,false,false,false,false,false,false,false,false,false,false,false,false,false,false,false,false,false] rfl rfl (any_of HT_.out (by kernel_rfl)) (fun _ _ _ h => h) (Or.inl ⟨by rfl, ?_⟩) ?_ ?_
              rotate_left
              · intro w'; go_simp; with_reducible rfl
              rotate_left; · (simp only [Act.put, List.setIfInBounds_toArray, List.set_cons_zero, List.set_cons_succ, i64_w, i32_w]; rfl)
              refine pure_ (i := 9) (N := some 85) (v := ?_) (a' := ?_) #[true,true,true,true,true,true,true,true,true,true,false,false,false,false,false,false,false,false,false,false,false,false,false,false,false,false,false,false,false,false,false,false,false,false,false,false,false] rfl rfl (any_of HT_.out (by kernel_rfl)) (fun _ _ _ h => h) (Or.inl ⟨by rfl, ?_⟩) ?_ ?_
              rotate_left
              · intro w'; go_simp; with_reducible rfl
              rotate_left; · (simp only [Act.put, List.setIfInBounds_toArray, List.set_cons_zero, List.set_cons_succ, i64_w, i32_w]; rfl)
              refine pure_ (i := 10) (N := some 86) (v := ?_) (a' := ?_) #[true,true,true,true,true,true,true,true,true,true,true,false,false,false,false,false,false,false,false,false,false,false,false,false,false,false,false,false,false,false,false,false,false,false,false,false,false] rfl rfl (any_of HT_.out (by kernel_rfl)) (fun _ _ _ h => h) (Or.inl ⟨by rfl, ?_⟩) ?_ ?_
              rotate_left
              · intro w'; go_simp; with_reducible rfl
              rotate_left; · (simp only [Act.put, List.setIfInBounds_toArray, List.set_cons_zero, List.set_cons_succ, i64_w, i32_w]; rfl)
              refine pure_ (i := 11) (N := some 87) (v := ?_) (a' := ?_) #[true,true,true,true,true,true,true,true,true,true,true,true,false,false,false,false,false,false,false,false,false,false,false,false,false,false,false,false,false,false,false,false,false,false,false,false,false] rfl rfl (any_of HT_.out (by kernel_rfl)) (fun _ _ _ h => h) (Or.inl ⟨by rfl, ?_⟩) ?_ ?_
              rotate_left
              · intro w'; go_simp; with_reducible rfl
              rotate_left; · (simp only [Act.put, List.setIfInBounds_toArray, List.set_cons_zero, List.set_cons_succ, i64_w, i32_w]; rfl)
              refine pure_ (i := 14) (N := some 90) (v := ?_) (a' := ?_) #[true,true,true,true,true,true,true,true,true,true,true,true,false,false,true,false,false,false,false,false,false,false,false,false,false,false,false,false,false,false,false,false,false,false,false,false,false] rfl rfl (any_of HT_.out (by kernel_rfl)) (fun _ _ _ h => h) (Or.inl ⟨by rfl, ?_⟩) ?_ ?_
              rotate_left
              · intro w'; go_simp; with_reducible rfl
              rotate_left; · (simp only [Act.put, List.setIfInBounds_toArray, List.set_cons_zero, List.set_cons_succ, i64_w, i32_w]; rfl)
              refine pure_ (i := 15) (N := some 91) (v := ?_) (a' := ?_) #[true,true,true,true,true,true,true,true,true,true,true,true,false,false,true,true,false,false,false,false,false,false,false,false,false,false,false,false,false,false,false,false,false,false,false,false,false] rfl rfl (any_of HT_.out (by kernel_rfl)) (fun _ _ _ h => h) (Or.inl ⟨by rfl, ?_⟩) ?_ ?_
              rotate_left
              · intro w'; go_simp; with_reducible rfl
              rotate_left; · (simp only [Act.put, List.setIfInBounds_toArray, List.set_cons_zero, List.set_cons_succ, i64_w, i32_w]; rfl)
              refine take_ (i := 12) (N := some 88) (v := ?_) (a' := ?_) #[true,true,true,true,true,true,true,true,true,true,true,true,true,false,true,true,false,false,false,false,false,false,false,false,false,false,false,false,false,false,false,false,false,false,false,false,false] rfl rfl (take_ofW HT_.out HW_.out (by kernel_rfl)) (fun _ _ _ h => h) (Or.inl ⟨by rfl, ?_⟩) hHeld ?_ ?_
              rotate_left
              · rintro w' ⟨s0, s1, s2, s3, s4, s5⟩; go_simp; with_reducible rfl
              rotate_left; · (simp only [Act.put, List.setIfInBounds_toArray, List.set_cons_zero, List.set_cons_succ, i64_w, i32_w]; rfl)
              refine take_ (i := 16) (N := some 92) (v := ?_) (a' := ?_) #[true,true,true,true,true,true,true,true,true,true,true,true,true,false,true,true,true,false,false,false,false,false,false,false,false,false,false,false,false,false,false,false,false,false,false,false,false] rfl rfl (take_ofW HT_.out HW_.out (by kernel_rfl)) (fun _ _ _ h => h) (Or.inl ⟨by rfl, ?_⟩) hHeld ?_ ?_
              rotate_left
              · rintro w' ⟨s0, s1, s2, s3, s4, s5⟩; go_simp; with_reducible rfl
              rotate_left; · (simp only [Act.put, List.setIfInBounds_toArray, List.set_cons_zero, List.set_cons_succ, i64_w, i32_w]; rfl)
              refine one_ (i := 13) (N := some 89) #[true,true,true,true,true,true,true,true,true,true,true,true,true,true,true,true,true,false,false,false,false,false,false,false,false,false,false,false,false,false,false,false,false,false,false,false,false] rfl rfl (one_of HT_.out (by kernel_rfl)) (by decide) (fun K hK => ?_)
              refine goes_ Try.func64 (by kernel_rfl) rfl #[.int .i64 (rd l1 1), .int .i64 8] (by rfl) rfl rfl (by (try simp only [List.map_toArray, List.map_cons, List.map_nil]); first | done | rfl | (simp only [List.length_drop, List.length_take]; rfl)) ?_
              with_reducible refine (gemotlaw17_pick.calls (rd l1 1) 8 t1033 _ A31.out).mono ?_
              rintro e w' ⟨rfl, ⟨nd, rfl⟩⟩; refine ⟨_, rfl, ?_⟩
              refine hK.out _ _ ⟨((HB.out.cell (World.block_lt_of_cell? w _ hw1028_0)).trans hw1028_0), ((HB.out.cell (World.block_lt_of_cell? w _ hw1030_0)).trans hw1030_0), ((HB.out.cell (World.block_lt_of_cell? w _ hw1032_0)).trans hw1032_0), ((HB.out.cell (World.block_lt_of_cell? w _ hw1034_0)).trans hw1034_0), ((HB.out.cell (World.block_lt_of_cell? w _ hw1036_0)).trans hw1036_0), ((HB.out.cell (World.block_lt_of_cell? w _ hw1038_0)).trans hw1038_0)⟩ (fun hHeld => ?_)
              clear hK K; refine norm_ (a' := ?_) ?_ ?_
              rotate_left
              · show Act.put _ (some 89) _ = _
                simp only [Act.put, List.setIfInBounds_toArray, List.set_cons_zero, List.set_cons_succ, i64_w, i32_w]; rfl
              refine one_ (i := 17) (N := some 93) #[true,true,true,true,true,true,true,true,true,true,true,true,true,true,true,true,true,true,false,false,false,false,false,false,false,false,false,false,false,false,false,false,false,false,false,false,false] rfl rfl (one_of HT_.out (by kernel_rfl)) (by decide) (fun K hK => ?_)
              refine goes_ Try.func64 (by kernel_rfl) rfl #[.int .i64 (rd l1 4), .int .i64 8] (by rfl) rfl rfl (by (try simp only [List.map_toArray, List.map_cons, List.map_nil]); first | done | rfl | (simp only [List.length_drop, List.length_take]; rfl)) ?_
              with_reducible refine (gemotlaw17_pick.calls (rd l1 4) 8 t1035 _ A32.out).mono ?_
              rintro e w' ⟨rfl, ⟨nd, rfl⟩⟩; refine ⟨_, rfl, ?_⟩
              refine hK.out _ _ ⟨((HB.out.cell (World.block_lt_of_cell? w _ hw1028_0)).trans hw1028_0), ((HB.out.cell (World.block_lt_of_cell? w _ hw1030_0)).trans hw1030_0), ((HB.out.cell (World.block_lt_of_cell? w _ hw1032_0)).trans hw1032_0), ((HB.out.cell (World.block_lt_of_cell? w _ hw1034_0)).trans hw1034_0), ((HB.out.cell (World.block_lt_of_cell? w _ hw1036_0)).trans hw1036_0), ((HB.out.cell (World.block_lt_of_cell? w _ hw1038_0)).trans hw1038_0)⟩ (fun hHeld => ?_)
              clear hK K; refine norm_ (a' := ?_) ?_ ?_
              rotate_left
              · show Act.put _ (some 93) _ = _
                simp only [Act.put, List.setIfInBounds_toArray, List.set_cons_zero, List.set_cons_succ, i64_w, i32_w]; rfl
              refine pure_ (i := 18) (N := some 94) (v := ?_) (a' := ?_) #[true,true,true,true,true,true,true,true,true,true,true,true,true,true,true,true,true,true,true,false,false,false,false,false,false,false,false,false,false,false,false,false,false,false,false,false,false] rfl rfl (any_of HT_.out (by kernel_rfl)) (fun _ _ _ h => h) (Or.inl ⟨by rfl, ?_⟩) ?_ ?_
              rotate_left
              · intro w'; go_simp; with_reducible rfl
              rotate_left; · (simp only [Act.put, List.setIfInBounds_toArray, List.set_cons_zero, List.set_cons_succ, i64_w, i32_w]; rfl)
              refine pure_ (i := 19) (N := some 95) (v := ?_) (a' := ?_) #[true,true,true,true,true,true,true,true,true,true,true,true,true,true,true,true,true,true,true,true,false,false,false,false,false,false,false,false,false,false,false,false,false,false,false,false,false] rfl rfl (any_of HT_.out (by kernel_rfl)) (fun _ _ _ h => h) (Or.inl ⟨by rfl, ?_⟩) ?_ ?_
              rotate_left
              · intro w'; go_simp; with_reducible rfl
              rotate_left; · (simp only [Act.put, List.setIfInBounds_toArray, List.set_cons_zero, List.set_cons_succ, i64_w, i32_w]; rfl)
              refine pure_ (i := 20) (N := some 96) (v := ?_) (a' := ?_) #[true,true,true,true,true,true,true,true,true,true,true,true,true,true,true,true,true,true,true,true,true,false,false,false,false,false,false,false,false,false,false,false,false,false,false,false,false] rfl rfl (any_of HT_.out (by kernel_rfl)) (fun _ _ _ h => h) (Or.inl ⟨by rfl, ?_⟩) ?_ ?_
              rotate_left
              · intro w'; go_simp; with_reducible rfl
              rotate_left; · (simp only [Act.put, List.setIfInBounds_toArray, List.set_cons_zero, List.set_cons_succ, i64_w, i32_w]; rfl)
              refine pure_ (i := 21) (N := some 97) (v := ?_) (a' := ?_) #[true,true,true,true,true,true,true,true,true,true,true,true,true,true,true,true,true,true,true,true,true,true,false,false,false,false,false,false,false,false,false,false,false,false,false,false,false] rfl rfl (any_of HT_.out (by kernel_rfl)) (fun _ _ _ h => h) (Or.inl ⟨by rfl, ?_⟩) ?_ ?_
              rotate_left
              · intro w'; go_simp; with_reducible rfl
              rotate_left; · (simp only [Act.put, List.setIfInBounds_toArray, List.set_cons_zero, List.set_cons_succ, i64_w, i32_w]; rfl)
              refine pure_ (i := 22) (N := some 98) (v := ?_) (a' := ?_) #[true,true,true,true,true,true,true,true,true,true,true,true,true,true,true,true,true,true,true,true,true,true,true,false,false,false,false,false,false,false,false,false,false,false,false,false,false] rfl rfl (any_of HT_.out (by kernel_rfl)) (fun _ _ _ h => h) (Or.inl ⟨by rfl, ?_⟩) ?_ ?_
              rotate_left
              · intro w'; go_simp; with_reducible rfl
              rotate_left; · (simp only [Act.put, List.setIfInBounds_toArray, List.set_cons_zero, List.set_cons_succ, i64_w, i32_w]; rfl)
              refine pure_ (i := 25) (N := some 101) (v := ?_) (a' := ?_) #[true,true,true,true,true,true,true,true,true,true,true,true,true,true,true,true,true,true,true,true,true,true,true,false,false,true,false,false,false,false,false,false,false,false,false,false,false] rfl rfl (any_of HT_.out (by kernel_rfl)) (fun _ _ _ h => h) (Or.inl ⟨by rfl, ?_⟩) ?_ ?_
              rotate_left
              · intro w'; go_simp; with_reducible rfl
              rotate_left; · (simp only [Act.put, List.setIfInBounds_toArray, List.set_cons_zero, List.set_cons_succ, i64_w, i32_w]; rfl)
              refine pure_ (i := 26) (N := some 102) (v := ?_) (a' := ?_) #[true,true,true,true,true,true,true,true,true,true,true,true,true,true,true,true,true,true,true,true,true,true,true,false,false,true,true,false,false,false,false,false,false,false,false,false,false] rfl rfl (any_of HT_.out (by kernel_rfl)) (fun _ _ _ h => h) (Or.inl ⟨by rfl, ?_⟩) ?_ ?_
              rotate_left
              · intro w'; go_simp; with_reducible rfl
              rotate_left; · (simp only [Act.put, List.setIfInBounds_toArray, List.set_cons_zero, List.set_cons_succ, i64_w, i32_w]; rfl)
              refine take_ (i := 23) (N := some 99) (v := ?_) (a' := ?_) #[true,true,true,true,true,true,true,true,true,true,true,true,true,true,true,true,true,true,true,true,true,true,true,true,false,true,true,false,false,false,false,false,false,false,false,false,false] rfl rfl (take_ofW HT_.out HW_.out (by kernel_rfl)) (fun _ _ _ h => h) (Or.inl ⟨by rfl, ?_⟩) hHeld ?_ ?_
              rotate_left
              · rintro w' ⟨s0, s1, s2, s3, s4, s5⟩; go_simp; with_reducible rfl
              rotate_left; · (simp only [Act.put, List.setIfInBounds_toArray, List.set_cons_zero, List.set_cons_succ, i64_w, i32_w]; rfl)
              refine take_ (i := 27) (N := some 103) (v := ?_) (a' := ?_) #[true,true,true,true,true,true,true,true,true,true,true,true,true,true,true,true,true,true,true,true,true,true,true,true,false,true,true,true,false,false,false,false,false,false,false,false,false] rfl rfl (take_ofW HT_.out HW_.out (by kernel_rfl)) (fun _ _ _ h => h) (Or.inl ⟨by rfl, ?_⟩) hHeld ?_ ?_
              rotate_left
              · rintro w' ⟨s0, s1, s2, s3, s4, s5⟩; go_simp; with_reducible rfl
              rotate_left; · (simp only [Act.put, List.setIfInBounds_toArray, List.set_cons_zero, List.set_cons_succ, i64_w, i32_w]; rfl)
              refine one_ (i := 24) (N := some 100) #[true,true,true,true,true,true,true,true,true,true,true,true,true,true,true,true,true,true,true,true,true,true,true,true,true,true,true,true,false,false,false,false,false,false,false,false,false] rfl rfl (one_of HT_.out (by kernel_rfl)) (by decide) (fun K hK => ?_)
              refine goes_ Try.func64 (by kernel_rfl) rfl #[.int .i64 (rd l1 2), .int .i64 32] (by rfl) rfl rfl (by (try simp only [List.map_toArray, List.map_cons, List.map_nil]); first | done | rfl | (simp only [List.length_drop, List.length_take]; rfl)) ?_
              with_reducible refine (gemotlaw17_pick.calls (rd l1 2) 32 t1037 _ A34.out).mono ?_
              rintro e w' ⟨rfl, ⟨nd, rfl⟩⟩; refine ⟨_, rfl, ?_⟩
              refine hK.out _ _ ⟨((HB.out.cell (World.block_lt_of_cell? w _ hw1028_0)).trans hw1028_0), ((HB.out.cell (World.block_lt_of_cell? w _ hw1030_0)).trans hw1030_0), ((HB.out.cell (World.block_lt_of_cell? w _ hw1032_0)).trans hw1032_0), ((HB.out.cell (World.block_lt_of_cell? w _ hw1034_0)).trans hw1034_0), ((HB.out.cell (World.block_lt_of_cell? w _ hw1036_0)).trans hw1036_0), ((HB.out.cell (World.block_lt_of_cell? w _ hw1038_0)).trans hw1038_0)⟩ (fun hHeld => ?_)
              clear hK K; refine norm_ (a' := ?_) ?_ ?_
              rotate_left
              · show Act.put _ (some 100) _ = _
                simp only [Act.put, List.setIfInBounds_toArray, List.set_cons_zero, List.set_cons_succ, i64_w, i32_w]; rfl
              refine one_ (i := 28) (N := some 104) #[true,true,true,true,true,true,true,true,true,true,true,true,true,true,true,true,true,true,true,true,true,true,true,true,true,true,true,true,true,false,false,false,false,false,false,false,false] rfl rfl (one_of HT_.out (by kernel_rfl)) (by decide) (fun K hK => ?_)
              refine goes_ Try.func64 (by kernel_rfl) rfl #[.int .i64 (rd l1 5), .int .i64 32] (by rfl) rfl rfl (by (try simp only [List.map_toArray, List.map_cons, List.map_nil]); first | done | rfl | (simp only [List.length_drop, List.length_take]; rfl)) ?_
              with_reducible refine (gemotlaw17_pick.calls (rd l1 5) 32 t1039 _ A35.out).mono ?_
              rintro e w' ⟨rfl, ⟨nd, rfl⟩⟩; refine ⟨_, rfl, ?_⟩
              refine hK.out _ _ ⟨((HB.out.cell (World.block_lt_of_cell? w _ hw1028_0)).trans hw1028_0), ((HB.out.cell (World.block_lt_of_cell? w _ hw1030_0)).trans hw1030_0), ((HB.out.cell (World.block_lt_of_cell? w _ hw1032_0)).trans hw1032_0), ((HB.out.cell (World.block_lt_of_cell? w _ hw1034_0)).trans hw1034_0), ((HB.out.cell (World.block_lt_of_cell? w _ hw1036_0)).trans hw1036_0), ((HB.out.cell (World.block_lt_of_cell? w _ hw1038_0)).trans hw1038_0)⟩ (fun hHeld => ?_)
              clear hK K; refine norm_ (a' := ?_) ?_ ?_
              rotate_left
              · show Act.put _ (some 104) _ = _
                simp only [Act.put, List.setIfInBounds_toArray, List.set_cons_zero, List.set_cons_succ, i64_w, i32_w]; rfl
              refine pure_ (i := 29) (N := some 105) (v := ?_) (a' := ?_) #[true,true,true,true,true,true,true,true,true,true,true,true,true,true,true,true,true,true,true,true,true,true,true,true,true,true,true,true,true,true,false,false,false,false,false,false,false] rfl rfl (any_of HT_.out (by kernel_rfl)) (fun _ _ _ h => h) (Or.inl ⟨by rfl, ?_⟩) ?_ ?_
              rotate_left
              · intro w'; go_simp; with_reducible rfl
              rotate_left; · (simp only [Act.put, List.setIfInBounds_toArray, List.set_cons_zero, List.set_cons_succ, i64_w, i32_w]; rfl)
              refine pure_ (i := 30) (N := some 106) (v := ?_) (a' := ?_) #[true,true,true,true,true,true,true,true,true,true,true,true,true,true,true,true,true,true,true,true,true,true,true,true,true,true,true,true,true,true,true,false,false,false,false,false,false] rfl rfl (any_of HT_.out (by kernel_rfl)) (fun _ _ _ h => h) (Or.inl ⟨by rfl, ?_⟩) ?_ ?_
              rotate_left
              · intro w'; go_simp; with_reducible rfl
              rotate_left; · (simp only [Act.put, List.setIfInBounds_toArray, List.set_cons_zero, List.set_cons_succ, i64_w, i32_w]; rfl)
              refine pure_ (i := 31) (N := some 107) (v := ?_) (a' := ?_) #[true,true,true,true,true,true,true,true,true,true,true,true,true,true,true,true,true,true,true,true,true,true,true,true,true,true,true,true,true,true,true,true,false,false,false,false,false] rfl rfl (any_of HT_.out (by kernel_rfl)) (fun _ _ _ h => h) (Or.inl ⟨by rfl, ?_⟩) ?_ ?_
              rotate_left
              · intro w'; go_simp; with_reducible rfl
              rotate_left; · (simp only [Act.put, List.setIfInBounds_toArray, List.set_cons_zero, List.set_cons_succ, i64_w, i32_w]; rfl)
              refine pure_ (i := 32) (N := some 108) (v := ?_) (a' := ?_) #[true,true,true,true,true,true,true,true,true,true,true,true,true,true,true,true,true,true,true,true,true,true,true,true,true,true,true,true,true,true,true,true,true,false,false,false,false] rfl rfl (any_of HT_.out (by kernel_rfl)) (fun _ _ _ h => h) (Or.inl ⟨by rfl, ?_⟩) ?_ ?_
              rotate_left
              · intro w'; go_simp; with_reducible rfl
              rotate_left; · (simp only [Act.put, List.setIfInBounds_toArray, List.set_cons_zero, List.set_cons_succ, i64_w, i32_w]; rfl)
              refine pure_ (i := 33) (N := some 109) (v := ?_) (a' := ?_) #[true,true,true,true,true,true,true,true,true,true,true,true,true,true,true,true,true,true,true,true,true,true,true,true,true,true,true,true,true,true,true,true,true,true,false,false,false] rfl rfl (any_of HT_.out (by kernel_rfl)) (fun _ _ _ h => h) (Or.inl ⟨by rfl, ?_⟩) ?_ ?_
              rotate_left
              · intro w'; go_simp; with_reducible rfl
              rotate_left; · (simp only [Act.put, List.setIfInBounds_toArray, List.set_cons_zero, List.set_cons_succ, i64_w, i32_w]; rfl)
              refine pure_ (i := 34) (N := some 110) (v := ?_) (a' := ?_) #[true,true,true,true,true,true,true,true,true,true,true,true,true,true,true,true,true,true,true,true,true,true,true,true,true,true,true,true,true,true,true,true,true,true,true,false,false] rfl rfl (any_of HT_.out (by kernel_rfl)) (fun _ _ _ h => h) (Or.inl ⟨by rfl, ?_⟩) ?_ ?_
              rotate_left
              · intro w'; go_simp; with_reducible rfl
              rotate_left; · (simp only [Act.put, List.setIfInBounds_toArray, List.set_cons_zero, List.set_cons_succ, i64_w, i32_w]; rfl)
              refine pure_ (i := 35) (N := some 111) (v := ?_) (a' := ?_) #[true,true,true,true,true,true,true,true,true,true,true,true,true,true,true,true,true,true,true,true,true,true,true,true,true,true,true,true,true,true,true,true,true,true,true,true,false] rfl rfl (any_of HT_.out (by kernel_rfl)) (fun _ _ _ h => h) (Or.inl ⟨by rfl, ?_⟩) ?_ ?_
              rotate_left
              · intro w'; go_simp; with_reducible rfl
              rotate_left; · (simp only [Act.put, List.setIfInBounds_toArray, List.set_cons_zero, List.set_cons_succ, i64_w, i32_w]; rfl)
              refine pure_ (i := 36) (N := some 14) (v := ?_) (a' := ?_) #[true,true,true,true,true,true,true,true,true,true,true,true,true,true,true,true,true,true,true,true,true,true,true,true,true,true,true,true,true,true,true,true,true,true,true,true,true] rfl rfl (any_of HT_.out (by kernel_rfl)) (fun _ _ _ h => h) (Or.inl ⟨by rfl, ?_⟩) ?_ ?_
              rotate_left
              · intro w'; go_simp; with_reducible rfl
              rotate_left; · (simp only [Act.put, List.setIfInBounds_toArray, List.set_cons_zero, List.set_cons_succ, i64_w, i32_w]; rfl)
              refine done_ (done_of HT_.out (by kernel_rfl)) ?_
              try go_wp2
              go_ret
              exact ⟨by first | rfl | (simp [errW_none, errW_some] <;> rfl) | (simp [*, errW_none, errW_some] <;> rfl), by repeat (first | (with_reducible first | exact HB.out | apply below_alloc | apply pw_below_drewN | apply below_drew1) | exact HB.out)⟩
            · rw [if_neg c36] at H
              have c36b0 : (t1037 == t1039) = false := beq_eq_false_iff_ne.mpr c36
              have c36b1 : (t1037 != t1039) = true := bne_iff_ne.mpr c36
              by_cases c72 : t1014 = 0; rotate_left; · (rw [if_neg c72] at H; exact absurd H (by simp))
              rw [if_pos c72] at H
              have c72b0 : (t1014 == 0) = true := beq_iff_eq.mpr c72
              have c72b1 : (t1014 != 0) = false := bne_eq_false_iff_eq.mpr c72
              clear c72; by_cases c73 : t1027 = 0; rotate_left; · (rw [if_neg c73] at H; exact absurd H (by simp))
              rw [if_pos c73] at H
              have c73b0 : (t1027 == 0) = true := beq_iff_eq.mpr c73
              have c73b1 : (t1027 != 0) = false := bne_eq_false_iff_eq.mpr c73
              clear c73; obtain rfl := Option.some.inj H
              try go_wp2
              have n0_ := Aside0.mk (below_drew1 HB.out)
              clear HB; have HB := n0_; clear n0_; have p1003 : 0 ≤ (0 : Int) := (by omega)
              have q1003 : 0 < (l1.length : Int) := of_decide_eq_true (by first | (with_reducible assumption) | assumption)
              obtain ⟨ad1003, e1003, hx1003_0⟩ := Kd.at_int HR1.out 0 p1003 q1003
              have hw1003_0 := hx1003_0; (try rw [show ((0 : Int)).toNat = 0 from rfl] at hw1003_0); (try rw [show 0 * 1 = 0 from rfl] at hw1003_0); (try rw [Addr.add_zero'] at hw1003_0); cases e1003
              have qi1003 : (0 < l1.length) = True := eq_true (by omega)
              (try rw [show ((0 : Int)).toNat = 0 from rfl] at hx1003_0); (try rw [Addr.add_zero'] at hx1003_0); replace hx1003_0 := (HB.out.cell (World.block_lt_of_cell? w _ hx1003_0)).trans hx1003_0
              replace p1003 := eq_true p1003
              replace q1003 := eq_true q1003
              have p1009 : 0 ≤ (1 : Int) := (by omega)
              have q1009 : 1 < (l1.length : Int) := of_decide_eq_true (by first | (with_reducible assumption) | assumption)
              obtain ⟨ad1009, e1009, hx1009_0⟩ := Kd.at_int HR1.out 1 p1009 q1009
              have hw1009_0 := hx1009_0; (try rw [show ((1 : Int)).toNat = 1 from rfl] at hw1009_0); (try rw [show 1 * 1 = 1 from rfl] at hw1009_0); (try simp only [Nat.reduceMul, Nat.reduceEqDiff, Go.Addr.add, ↓reduceIte] at hw1009_0); obtain rfl : ad1003 = ad1009 := (by injection e1009)
              (try simp only [show (1 : Int).toNat = 1 from rfl, Nat.reduceMul, Nat.reduceEqDiff, Go.Addr.add, ↓reduceIte] at hx1009_0); have qi1009 : (1 < l1.length) = True := eq_true (by omega)
              (try rw [show ((1 : Int)).toNat = 1 from rfl] at hx1009_0); replace hx1009_0 := (HB.out.cell (World.block_lt_of_cell? w _ hx1009_0)).trans hx1009_0
              replace p1009 := eq_true p1009
              replace q1009 := eq_true q1009
              have p1011 : 0 ≤ (2 : Int) := (by omega)
              have q1011 : 2 < (l1.length : Int) := of_decide_eq_true (by first | (with_reducible assumption) | assumption)
              obtain ⟨ad1011, e1011, hx1011_0⟩ := Kd.at_int HR1.out 2 p1011 q1011
              have hw1011_0 := hx1011_0; (try rw [show ((2 : Int)).toNat = 2 from rfl] at hw1011_0); (try rw [show 2 * 1 = 2 from rfl] at hw1011_0); (try simp only [Nat.reduceMul, Nat.reduceEqDiff, Go.Addr.add, ↓reduceIte] at hw1011_0); obtain rfl : ad1003 = ad1011 := (by injection e1011)
              (try simp only [show (2 : Int).toNat = 2 from rfl, Nat.reduceMul, Nat.reduceEqDiff, Go.Addr.add, ↓reduceIte] at hx1011_0); have qi1011 : (2 < l1.length) = True := eq_true (by omega)
              (try rw [show ((2 : Int)).toNat = 2 from rfl] at hx1011_0); replace hx1011_0 := (HB.out.cell (World.block_lt_of_cell? w _ hx1011_0)).trans hx1011_0
              replace p1011 := eq_true p1011
              replace q1011 := eq_true q1011
              refine start_ (n := 23) (S := fun w' => w'.cell? ad1003 = some (.int .i64 (rd l1 0)) ∧ w'.cell? ⟨ad1003.block, ad1003.off + 1, none⟩ = some (.int .i64 (rd l1 1)) ∧ w'.cell? ⟨ad1003.block, ad1003.off + 2, none⟩ = some (.int .i64 (rd l1 2))) (ds := []) #[false,false,false,false,false,false,false,false,false,false,false,false,false,false,false,false,false,false,false,false,false,false,false] (by kernel_rfl) rfl rfl ⟨((HB.out.cell (World.block_lt_of_cell? w _ hw1003_0)).trans hw1003_0), ((HB.out.cell (World.block_lt_of_cell? w _ hw1009_0)).trans hw1009_0), ((HB.out.cell (World.block_lt_of_cell? w _ hw1011_0)).trans hw1011_0)⟩ (fun hHeld => ?_); refine with_tabW gemotlaw17_SealApart.tab4 gemotlaw17_SealApart.bits4 (fun HT_ HW_ => ?_)
              generalize wc.drew = w74 at HB hx1003_0 hx1009_0 hx1011_0 hHeld ⊢
              refine pure_ (i := 0) (N := some 35) (v := ?_) (a' := ?_) #[true,false,false,false,false,false,false,false,false,false,false,false,false,false,false,false,false,false,false,false,false,false,false] rfl rfl (any_of HT_.out (by kernel_rfl)) (fun _ _ _ h => h) (Or.inl ⟨by rfl, ?_⟩) ?_ ?_
              rotate_left
              · intro w'; go_simp; with_reducible rfl
              rotate_left; · (simp only [Act.put, List.setIfInBounds_toArray, List.set_cons_zero, List.set_cons_succ, i64_w, i32_w]; rfl)
              refine pure_ (i := 2) (N := some 37) (v := ?_) (a' := ?_) #[true,false,true,false,false,false,false,false,false,false,false,false,false,false,false,false,false,false,false,false,false,false,false] rfl rfl (any_of HT_.out (by kernel_rfl)) (fun _ _ _ h => h) (Or.inl ⟨by rfl, ?_⟩) ?_ ?_
              rotate_left
              · intro w'; go_simp; with_reducible rfl
              rotate_left; · (simp only [Act.put, List.setIfInBounds_toArray, List.set_cons_zero, List.set_cons_succ, i64_w, i32_w]; rfl)
              refine pure_ (i := 3) (N := some 38) (v := ?_) (a' := ?_) #[true,false,true,true,false,false,false,false,false,false,false,false,false,false,false,false,false,false,false,false,false,false,false] rfl rfl (any_of HT_.out (by kernel_rfl)) (fun _ _ _ h => h) (Or.inl ⟨by rfl, ?_⟩) ?_ ?_
              rotate_left
              · intro w'; go_simp; with_reducible rfl
              rotate_left; · (simp only [Act.put, List.setIfInBounds_toArray, List.set_cons_zero, List.set_cons_succ, i64_w, i32_w]; rfl)
              refine pure_ (i := 6) (N := some 41) (v := ?_) (a' := ?_) #[true,false,true,true,false,false,true,false,false,false,false,false,false,false,false,false,false,false,false,false,false,false,false] rfl rfl (any_of HT_.out (by kernel_rfl)) (fun _ _ _ h => h) (Or.inl ⟨by rfl, ?_⟩) ?_ ?_
              rotate_left
              · intro w'; go_simp; with_reducible rfl
              rotate_left; · (simp only [Act.put, List.setIfInBounds_toArray, List.set_cons_zero, List.set_cons_succ, i64_w, i32_w]; rfl)
              refine pure_ (i := 7) (N := some 42) (v := ?_) (a' := ?_) #[true,false,true,true,false,false,true,true,false,false,false,false,false,false,false,false,false,false,false,false,false,false,false] rfl rfl (any_of HT_.out (by kernel_rfl)) (fun _ _ _ h => h) (Or.inl ⟨by rfl, ?_⟩) ?_ ?_
              rotate_left
              · intro w'; go_simp; with_reducible rfl
              rotate_left; · (simp only [Act.put, List.setIfInBounds_toArray, List.set_cons_zero, List.set_cons_succ, i64_w, i32_w]; rfl)
              refine pure_ (i := 11) (N := some 46) (v := ?_) (a' := ?_) #[true,false,true,true,false,false,true,true,false,false,false,true,false,false,false,false,false,false,false,false,false,false,false] rfl rfl (any_of HT_.out (by kernel_rfl)) (fun _ _ _ h => h) (Or.inl ⟨by rfl, ?_⟩) ?_ ?_
              rotate_left
              · intro w'; go_simp; with_reducible rfl
              rotate_left; · (simp only [Act.put, List.setIfInBounds_toArray, List.set_cons_zero, List.set_cons_succ, i64_w, i32_w]; rfl)
              refine pure_ (i := 12) (N := some 47) (v := ?_) (a' := ?_) #[true,false,true,true,false,false,true,true,false,false,false,true,true,false,false,false,false,false,false,false,false,false,false] rfl rfl (any_of HT_.out (by kernel_rfl)) (fun _ _ _ h => h) (Or.inl ⟨by rfl, ?_⟩) ?_ ?_
              rotate_left
              · intro w'; go_simp; with_reducible rfl
              rotate_left; · (simp only [Act.put, List.setIfInBounds_toArray, List.set_cons_zero, List.set_cons_succ, i64_w, i32_w]; rfl)
              refine pure_ (i := 16) (N := some 51) (v := ?_) (a' := ?_) #[true,false,true,true,false,false,true,true,false,false,false,true,true,false,false,false,true,false,false,false,false,false,false] rfl rfl (any_of HT_.out (by kernel_rfl)) (fun _ _ _ h => h) (Or.inl ⟨by rfl, ?_⟩) ?_ ?_
              rotate_left
              · intro w'; go_simp; with_reducible rfl
              rotate_left; · (simp only [Act.put, List.setIfInBounds_toArray, List.set_cons_zero, List.set_cons_succ, i64_w, i32_w]; rfl)
              refine take_ (i := 4) (N := some 39) (v := ?_) (a' := ?_) #[true,false,true,true,true,false,true,true,false,false,false,true,true,false,false,false,true,false,false,false,false,false,false] rfl rfl (take_ofW HT_.out HW_.out (by kernel_rfl)) (fun _ _ _ h => h) (Or.inl ⟨by rfl, ?_⟩) hHeld ?_ ?_
              rotate_left
              · rintro w' ⟨s0, s1, s2⟩; go_simp; with_reducible rfl
              rotate_left; · (simp only [Act.put, List.setIfInBounds_toArray, List.set_cons_zero, List.set_cons_succ, i64_w, i32_w]; rfl)
              refine take_ (i := 8) (N := some 43) (v := ?_) (a' := ?_) #[true,false,true,true,true,false,true,true,true,false,false,true,true,false,false,false,true,false,false,false,false,false,false] rfl rfl (take_ofW HT_.out HW_.out (by kernel_rfl)) (fun _ _ _ h => h) (Or.inl ⟨by rfl, ?_⟩) hHeld ?_ ?_
              rotate_left
              · rintro w' ⟨s0, s1, s2⟩; go_simp; with_reducible rfl
              rotate_left; · (simp only [Act.put, List.setIfInBounds_toArray, List.set_cons_zero, List.set_cons_succ, i64_w, i32_w]; rfl)
              refine take_ (i := 13) (N := some 48) (v := ?_) (a' := ?_) #[true,false,true,true,true,false,true,true,true,false,false,true,true,true,false,false,true,false,false,false,false,false,false] rfl rfl (take_ofW HT_.out HW_.out (by kernel_rfl)) (fun _ _ _ h => h) (Or.inl ⟨by rfl, ?_⟩) hHeld ?_ ?_
              rotate_left
              · rintro w' ⟨s0, s1, s2⟩; go_simp; with_reducible rfl
              rotate_left; · (simp only [Act.put, List.setIfInBounds_toArray, List.set_cons_zero, List.set_cons_succ, i64_w, i32_w]; rfl)
              refine one_ (i := 1) (N := some 36) #[true,true,true,true,true,false,true,true,true,false,false,true,true,true,false,false,true,false,false,false,false,false,false] rfl rfl (one_of HT_.out (by kernel_rfl)) (by decide) (fun K hK => ?_)
              refine goes_ Try.func65 (by kernel_rfl) rfl #[.int .u64 a0] (by rfl) rfl rfl (by (try simp only [List.map_toArray, List.map_cons, List.map_nil]); first | done | rfl | (simp only [List.length_drop, List.length_take]; rfl)) ?_
              with_reducible refine (term_Name.calls a0 t1002 _ A12.out).mono ?_
              rintro e w75 ⟨rfl, hb⟩; refine ⟨_, rfl, ?_⟩
              have n0_ := Aside0.mk (below_step (by repeat (first | (with_reducible first | exact HB.out | apply below_alloc | apply pw_below_drewN | apply below_drew1) | exact HB.out)) hb)
              clear HB; have HB := n0_; clear n0_; (try clear hb); (try clear hb2); (try clear hk); (try clear hi); refine hK.out _ _ ⟨((HB.out.cell (World.block_lt_of_cell? w _ hw1003_0)).trans hw1003_0), ((HB.out.cell (World.block_lt_of_cell? w _ hw1009_0)).trans hw1009_0), ((HB.out.cell (World.block_lt_of_cell? w _ hw1011_0)).trans hw1011_0)⟩ (fun hHeld => ?_)
              clear hK K; refine norm_ (a' := ?_) ?_ ?_
              rotate_left
              · show Act.put _ (some 36) _ = _
                simp only [Act.put, List.setIfInBounds_toArray, List.set_cons_zero, List.set_cons_succ, i64_w, i32_w]; rfl
              refine one_ (i := 5) (N := some 40) #[true,true,true,true,true,true,true,true,true,false,false,true,true,true,false,false,true,false,false,false,false,false,false] rfl rfl (one_of HT_.out (by kernel_rfl)) (by decide) (fun K hK => ?_)
              refine goes_ Try.func63 (by kernel_rfl) rfl #[.int .i64 (rd l1 0)] (by rfl) rfl rfl (by (try simp only [List.map_toArray, List.map_cons, List.map_nil]); first | done | rfl | (simp only [List.length_drop, List.length_take]; rfl)) ?_
              with_reducible refine (gemotlaw17_of.calls (rd l1 0) t1004 t1005 t1006 _ A14.out).mono ?_
              rintro e w76 ⟨v1007, rfl, ho0, hb⟩; refine ⟨_, rfl, ?_⟩
              have n0_ := Aside0.mk (Kd.V_lower (Kd.V_mono (ok' := fun k_ => True) ho0 (fun k_ hk_ => trivial)) (below_size (by repeat (first | (with_reducible first | exact HB.out | apply below_alloc | apply pw_below_drewN | apply below_drew1) | exact HB.out))))
              have n1_ := Aside0.mk (below_step (by repeat (first | (with_reducible first | exact HB.out | apply below_alloc | apply pw_below_drewN | apply below_drew1) | exact HB.out)) hb)
              clear HB; have HO1008 := n0_; have HB := n1_; clear n0_ n1_; (try clear hb); (try clear hb2); (try clear hk); (try clear hi); (try clear ho0); refine hK.out _ _ ⟨((HB.out.cell (World.block_lt_of_cell? w _ hw1003_0)).trans hw1003_0), ((HB.out.cell (World.block_lt_of_cell? w _ hw1009_0)).trans hw1009_0), ((HB.out.cell (World.block_lt_of_cell? w _ hw1011_0)).trans hw1011_0)⟩ (fun hHeld => ?_)
              clear hK K; refine norm_ (a' := ?_) ?_ ?_
              rotate_left
              · show Act.put _ (some 40) _ = _
                simp only [Act.put, List.setIfInBounds_toArray, List.set_cons_zero, List.set_cons_succ, i64_w, i32_w]; rfl
              refine one_ (i := 9) (N := some 44) #[true,true,true,true,true,true,true,true,true,true,false,true,true,true,false,false,true,false,false,false,false,false,false] rfl rfl (one_of HT_.out (by kernel_rfl)) (by decide) (fun K hK => ?_)
              refine goes_ Try.func64 (by kernel_rfl) rfl #[.int .i64 (rd l1 1), .int .i64 8] (by rfl) rfl rfl (by (try simp only [List.map_toArray, List.map_cons, List.map_nil]); first | done | rfl | (simp only [List.length_drop, List.length_take]; rfl)) ?_
              with_reducible refine (gemotlaw17_pick.calls (rd l1 1) 8 t1010 _ A16.out).mono ?_
              rintro e w' ⟨rfl, ⟨nd, rfl⟩⟩; refine ⟨_, rfl, ?_⟩
              refine hK.out _ _ ⟨((HB.out.cell (World.block_lt_of_cell? w _ hw1003_0)).trans hw1003_0), ((HB.out.cell (World.block_lt_of_cell? w _ hw1009_0)).trans hw1009_0), ((HB.out.cell (World.block_lt_of_cell? w _ hw1011_0)).trans hw1011_0)⟩ (fun hHeld => ?_)
              clear hK K; refine norm_ (a' := ?_) ?_ ?_
              rotate_left
              · show Act.put _ (some 44) _ = _
                simp only [Act.put, List.setIfInBounds_toArray, List.set_cons_zero, List.set_cons_succ, i64_w, i32_w]; rfl
              refine pure_ (i := 10) (N := some 45) (v := ?_) (a' := ?_) #[true,true,true,true,true,true,true,true,true,true,true,true,true,true,false,false,true,false,false,false,false,false,false] rfl rfl (any_of HT_.out (by kernel_rfl)) (fun _ _ _ h => h) (Or.inl ⟨by rfl, ?_⟩) ?_ ?_
              rotate_left
              · intro w'; go_simp; with_reducible rfl
              rotate_left; · (simp only [Act.put, List.setIfInBounds_toArray, List.set_cons_zero, List.set_cons_succ, i64_w, i32_w]; rfl)
              refine one_ (i := 14) (N := some 49) #[true,true,true,true,true,true,true,true,true,true,true,true,true,true,true,false,true,false,false,false,false,false,false] rfl rfl (one_of HT_.out (by kernel_rfl)) (by decide) (fun K hK => ?_)
              refine goes_ Try.func64 (by kernel_rfl) rfl #[.int .i64 (rd l1 2), .int .i64 32] (by rfl) rfl rfl (by (try simp only [List.map_toArray, List.map_cons, List.map_nil]); first | done | rfl | (simp only [List.length_drop, List.length_take]; rfl)) ?_
              with_reducible refine (gemotlaw17_pick.calls (rd l1 2) 32 t1012 _ A18.out).mono ?_
              rintro e w' ⟨rfl, ⟨nd, rfl⟩⟩; refine ⟨_, rfl, ?_⟩
              obtain ⟨Ao77, co77, eo77⟩ := Kd.V_slice HO1008.out; (first | subst eo77 | (injection eo77 with f1_ f2_ f3_; have f4_ := f1_.symm; have f5_ := f3_.symm; clear f1_ f2_ f3_; subst f4_; subst f5_)); refine hK.out _ _ ⟨((HB.out.cell (World.block_lt_of_cell? w _ hw1003_0)).trans hw1003_0), ((HB.out.cell (World.block_lt_of_cell? w _ hw1009_0)).trans hw1009_0), ((HB.out.cell (World.block_lt_of_cell? w _ hw1011_0)).trans hw1011_0)⟩ (fun hHeld => ?_)
              clear hK K; refine norm_ (a' := ?_) ?_ ?_
              rotate_left
              · show Act.put _ (some 49) _ = _
                simp only [Act.put, List.setIfInBounds_toArray, List.set_cons_zero, List.set_cons_succ, i64_w, i32_w]; rfl
              refine pure_ (i := 15) (N := some 50) (v := ?_) (a' := ?_) #[true,true,true,true,true,true,true,true,true,true,true,true,true,true,true,true,true,false,false,false,false,false,false] rfl rfl (any_of HT_.out (by kernel_rfl)) (fun _ _ _ h => h) (Or.inl ⟨by rfl, ?_⟩) ?_ ?_
              rotate_left
              · intro w'; go_simp; with_reducible rfl
              rotate_left; · (simp only [Act.put, List.setIfInBounds_toArray, List.set_cons_zero, List.set_cons_succ, i64_w, i32_w]; rfl)
              refine one_ (i := 17) (N := some 52) #[true,true,true,true,true,true,true,true,true,true,true,true,true,true,true,true,true,true,false,false,false,false,false] rfl rfl (one_of HT_.out (by kernel_rfl)) (by decide) (fun K hK => ?_)
              refine goes_ Try.func59 (by kernel_rfl) rfl #[.string t1002, .agg #[.int .i64 t1004, .int .i64 t1005, .slice Ao77 t1006.length co77], .int .i64 (wrap64 (1 + t1010)), .int .i64 (wrap64 (1 + t1012)), .string a2] (by rfl) rfl rfl (by (try simp only [List.map_toArray, List.map_cons, List.map_nil]); first | done | rfl | (simp only [List.length_drop, List.length_take]; rfl)) ?_
              with_reducible refine (seal_Close.calls t1002 t1004 t1005 _ _ t1006 (wrap64 (1 + t1010)) (wrap64 (1 + t1012)) a2 t1013 t1014 _ ?side1 ?side2 A19.out).mono ?_
              (case side1 => repeat (first | exact (Kd.V_reads' HO1008.out).2.2 | (with_reducible refine Kd.C_alloc ?_ _) | (with_reducible refine Kd.C_drewN ?_ _) | (with_reducible refine Kd.C_drew ?_))); (case side2 => exact (Kd.V_reads' HO1008.out).2.1); rintro e w78 ⟨rfl, hb⟩; refine ⟨_, rfl, ?_⟩
              have n0_ := Aside0.mk (Kd.V_below (by (with_reducible repeat (first | apply Kd.V_alloc | apply Kd.V_drewN | apply Kd.V_drew)); exact HO1008.out) hb)
              have n1_ := Aside0.mk (below_step (by repeat (first | (with_reducible first | exact HB.out | apply below_alloc | apply pw_below_drewN | apply below_drew1) | exact HB.out)) hb)
              clear HO1008; clear HB; have HO1008 := n0_; have HB := n1_; clear n0_ n1_; (try clear hb); (try clear hb2); (try clear hk); (try clear hi); refine hK.out _ _ ⟨((HB.out.cell (World.block_lt_of_cell? w _ hw1003_0)).trans hw1003_0), ((HB.out.cell (World.block_lt_of_cell? w _ hw1009_0)).trans hw1009_0), ((HB.out.cell (World.block_lt_of_cell? w _ hw1011_0)).trans hw1011_0)⟩ (fun hHeld => ?_)
              clear hK K; refine norm_ (a' := ?_) ?_ ?_
              rotate_left
              · show Act.put _ (some 52) _ = _
                simp only [Act.put, List.setIfInBounds_toArray, List.set_cons_zero, List.set_cons_succ, i64_w, i32_w]; rfl
              refine pure_ (i := 18) (N := some 34) (v := ?_) (a' := ?_) #[true,true,true,true,true,true,true,true,true,true,true,true,true,true,true,true,true,true,true,false,false,false,false] rfl rfl (any_of HT_.out (by kernel_rfl)) (fun _ _ _ h => h) (Or.inl ⟨by rfl, ?_⟩) ?_ ?_
              rotate_left
              · intro w'; go_simp; with_reducible rfl
              rotate_left; · (simp only [Act.put, List.setIfInBounds_toArray, List.set_cons_zero, List.set_cons_succ, i64_w, i32_w]; rfl)
              refine pure_ (i := 19) (N := some 53) (v := ?_) (a' := ?_) #[true,true,true,true,true,true,true,true,true,true,true,true,true,true,true,true,true,true,true,true,false,false,false] rfl rfl (any_of HT_.out (by kernel_rfl)) (fun _ _ _ h => h) (Or.inl ⟨by rfl, ?_⟩) ?_ ?_
              rotate_left
              · intro w'; go_simp; with_reducible rfl
              rotate_left; · (simp only [Act.put, List.setIfInBounds_toArray, List.set_cons_zero, List.set_cons_succ, i64_w, i32_w]; rfl)
              refine pure_ (i := 20) (N := some 54) (v := ?_) (a' := ?_) #[true,true,true,true,true,true,true,true,true,true,true,true,true,true,true,true,true,true,true,true,true,false,false] rfl rfl (any_of HT_.out (by kernel_rfl)) (fun _ _ _ h => h) (Or.inl ⟨by rfl, ?_⟩) ?_ ?_
              rotate_left
              · intro w'; go_simp; with_reducible rfl
              rotate_left; · (simp only [Act.put, List.setIfInBounds_toArray, List.set_cons_zero, List.set_cons_succ, i64_w, i32_w]; rfl)
              refine pure_ (i := 21) (N := some 10) (v := ?_) (a' := ?_) #[true,true,true,true,true,true,true,true,true,true,true,true,true,true,true,true,true,true,true,true,true,true,false] rfl rfl (any_of HT_.out (by kernel_rfl)) (fun _ _ _ h => h) (Or.inl ⟨by rfl, ?_⟩) ?_ ?_
              rotate_left
              · intro w'; go_simp; with_reducible rfl
              rotate_left; · (simp only [Act.put, List.setIfInBounds_toArray, List.set_cons_zero, List.set_cons_succ, i64_w, i32_w]; rfl)
              refine pure_ (i := 22) (N := some 11) (v := ?_) (a' := ?_) #[true,true,true,true,true,true,true,true,true,true,true,true,true,true,true,true,true,true,true,true,true,true,true] rfl rfl (any_of HT_.out (by kernel_rfl)) (fun _ _ _ h => h) (Or.inl ⟨by rfl, ?_⟩) ?_ ?_
              rotate_left
              · intro w'; go_simp; with_reducible rfl
              rotate_left; · (simp only [Act.put, List.setIfInBounds_toArray, List.set_cons_zero, List.set_cons_succ, i64_w, i32_w]; rfl)
              refine done_ (done_of HT_.out (by kernel_rfl)) ?_
              try go_wp2
              have n0_ := Aside0.mk (Kd.V_drew HO1008.out)
              have n1_ := Aside0.mk (below_drew1 HB.out)
              clear HO1008; clear HB; have HO1008 := n0_; have HB := n1_; clear n0_ n1_; have p1016 : 0 ≤ (3 : Int) := (by omega)
              have q1016 : 3 < (l1.length : Int) := of_decide_eq_true (by first | (with_reducible assumption) | assumption)
              obtain ⟨ad1016, e1016, hx1016_0⟩ := Kd.at_int HR1.out 3 p1016 q1016
              have hw1016_0 := hx1016_0; (try rw [show ((3 : Int)).toNat = 3 from rfl] at hw1016_0); (try rw [show 3 * 1 = 3 from rfl] at hw1016_0); (try simp only [Nat.reduceMul, Nat.reduceEqDiff, Go.Addr.add, ↓reduceIte] at hw1016_0); obtain rfl : ad1003 = ad1016 := (by injection e1016)
              (try simp only [show (3 : Int).toNat = 3 from rfl, Nat.reduceMul, Nat.reduceEqDiff, Go.Addr.add, ↓reduceIte] at hx1016_0); have qi1016 : (3 < l1.length) = True := eq_true (by omega)
              (try rw [show ((3 : Int)).toNat = 3 from rfl] at hx1016_0); replace hx1016_0 := (HB.out.cell (World.block_lt_of_cell? w _ hx1016_0)).trans hx1016_0
              replace p1016 := eq_true p1016
              replace q1016 := eq_true q1016
              have p1022 : 0 ≤ (4 : Int) := (by omega)
              have q1022 : 4 < (l1.length : Int) := of_decide_eq_true (by first | (with_reducible assumption) | assumption)
              obtain ⟨ad1022, e1022, hx1022_0⟩ := Kd.at_int HR1.out 4 p1022 q1022
              have hw1022_0 := hx1022_0; (try rw [show ((4 : Int)).toNat = 4 from rfl] at hw1022_0); (try rw [show 4 * 1 = 4 from rfl] at hw1022_0); (try simp only [Nat.reduceMul, Nat.reduceEqDiff, Go.Addr.add, ↓reduceIte] at hw1022_0); obtain rfl : ad1003 = ad1022 := (by injection e1022)
              (try simp only [show (4 : Int).toNat = 4 from rfl, Nat.reduceMul, Nat.reduceEqDiff, Go.Addr.add, ↓reduceIte] at hx1022_0); have qi1022 : (4 < l1.length) = True := eq_true (by omega)
              (try rw [show ((4 : Int)).toNat = 4 from rfl] at hx1022_0); replace hx1022_0 := (HB.out.cell (World.block_lt_of_cell? w _ hx1022_0)).trans hx1022_0
              replace p1022 := eq_true p1022
              replace q1022 := eq_true q1022
              have p1024 : 0 ≤ (5 : Int) := (by omega)
              have q1024 : 5 < (l1.length : Int) := of_decide_eq_true (by first | (with_reducible assumption) | assumption)
              obtain ⟨ad1024, e1024, hx1024_0⟩ := Kd.at_int HR1.out 5 p1024 q1024
              have hw1024_0 := hx1024_0; (try rw [show ((5 : Int)).toNat = 5 from rfl] at hw1024_0); (try rw [show 5 * 1 = 5 from rfl] at hw1024_0); (try simp only [Nat.reduceMul, Nat.reduceEqDiff, Go.Addr.add, ↓reduceIte] at hw1024_0); obtain rfl : ad1003 = ad1024 := (by injection e1024)
              (try simp only [show (5 : Int).toNat = 5 from rfl, Nat.reduceMul, Nat.reduceEqDiff, Go.Addr.add, ↓reduceIte] at hx1024_0); have qi1024 : (5 < l1.length) = True := eq_true (by omega)
              (try rw [show ((5 : Int)).toNat = 5 from rfl] at hx1024_0); replace hx1024_0 := (HB.out.cell (World.block_lt_of_cell? w _ hx1024_0)).trans hx1024_0
              replace p1024 := eq_true p1024
              replace q1024 := eq_true q1024
              refine start_ (n := 23) (S := fun w' => w'.cell? ⟨ad1003.block, ad1003.off + 3, none⟩ = some (.int .i64 (rd l1 3)) ∧ w'.cell? ⟨ad1003.block, ad1003.off + 4, none⟩ = some (.int .i64 (rd l1 4)) ∧ w'.cell? ⟨ad1003.block, ad1003.off + 5, none⟩ = some (.int .i64 (rd l1 5))) (ds := []) #[false,false,false,false,false,false,false,false,false,false,false,false,false,false,false,false,false,false,false,false,false,false,false] (by kernel_rfl) rfl rfl ⟨((HB.out.cell (World.block_lt_of_cell? w _ hw1016_0)).trans hw1016_0), ((HB.out.cell (World.block_lt_of_cell? w _ hw1022_0)).trans hw1022_0), ((HB.out.cell (World.block_lt_of_cell? w _ hw1024_0)).trans hw1024_0)⟩ (fun hHeld => ?_); refine with_tabW gemotlaw17_SealApart.tab5 gemotlaw17_SealApart.bits5 (fun HT_ HW_ => ?_)
              generalize w78.drew = w79 at HO1008 HB hx1016_0 hx1022_0 hx1024_0 hHeld ⊢
              refine pure_ (i := 0) (N := some 56) (v := ?_) (a' := ?_) #[true,false,false,false,false,false,false,false,false,false,false,false,false,false,false,false,false,false,false,false,false,false,false] rfl rfl (any_of HT_.out (by kernel_rfl)) (fun _ _ _ h => h) (Or.inl ⟨by rfl, ?_⟩) ?_ ?_
              rotate_left
              · intro w'; go_simp; with_reducible rfl
              rotate_left; · (simp only [Act.put, List.setIfInBounds_toArray, List.set_cons_zero, List.set_cons_succ, i64_w, i32_w]; rfl)
              refine pure_ (i := 2) (N := some 58) (v := ?_) (a' := ?_) #[true,false,true,false,false,false,false,false,false,false,false,false,false,false,false,false,false,false,false,false,false,false,false] rfl rfl (any_of HT_.out (by kernel_rfl)) (fun _ _ _ h => h) (Or.inl ⟨by rfl, ?_⟩) ?_ ?_
              rotate_left
              · intro w'; go_simp; with_reducible rfl
              rotate_left; · (simp only [Act.put, List.setIfInBounds_toArray, List.set_cons_zero, List.set_cons_succ, i64_w, i32_w]; rfl)
              refine pure_ (i := 3) (N := some 59) (v := ?_) (a' := ?_) #[true,false,true,true,false,false,false,false,false,false,false,false,false,false,false,false,false,false,false,false,false,false,false] rfl rfl (any_of HT_.out (by kernel_rfl)) (fun _ _ _ h => h) (Or.inl ⟨by rfl, ?_⟩) ?_ ?_
              rotate_left
              · intro w'; go_simp; with_reducible rfl
              rotate_left; · (simp only [Act.put, List.setIfInBounds_toArray, List.set_cons_zero, List.set_cons_succ, i64_w, i32_w]; rfl)
              refine pure_ (i := 6) (N := some 62) (v := ?_) (a' := ?_) #[true,false,true,true,false,false,true,false,false,false,false,false,false,false,false,false,false,false,false,false,false,false,false] rfl rfl (any_of HT_.out (by kernel_rfl)) (fun _ _ _ h => h) (Or.inl ⟨by rfl, ?_⟩) ?_ ?_
              rotate_left
              · intro w'; go_simp; with_reducible rfl
              rotate_left; · (simp only [Act.put, List.setIfInBounds_toArray, List.set_cons_zero, List.set_cons_succ, i64_w, i32_w]; rfl)
              refine pure_ (i := 7) (N := some 63) (v := ?_) (a' := ?_) #[true,false,true,true,false,false,true,true,false,false,false,false,false,false,false,false,false,false,false,false,false,false,false] rfl rfl (any_of HT_.out (by kernel_rfl)) (fun _ _ _ h => h) (Or.inl ⟨by rfl, ?_⟩) ?_ ?_
              rotate_left
              · intro w'; go_simp; with_reducible rfl
              rotate_left; · (simp only [Act.put, List.setIfInBounds_toArray, List.set_cons_zero, List.set_cons_succ, i64_w, i32_w]; rfl)
              refine pure_ (i := 11) (N := some 67) (v := ?_) (a' := ?_) #[true,false,true,true,false,false,true,true,false,false,false,true,false,false,false,false,false,false,false,false,false,false,false] rfl rfl (any_of HT_.out (by kernel_rfl)) (fun _ _ _ h => h) (Or.inl ⟨by rfl, ?_⟩) ?_ ?_
              rotate_left
              · intro w'; go_simp; with_reducible rfl
              rotate_left; · (simp only [Act.put, List.setIfInBounds_toArray, List.set_cons_zero, List.set_cons_succ, i64_w, i32_w]; rfl)
              refine pure_ (i := 12) (N := some 68) (v := ?_) (a' := ?_) #[true,false,true,true,false,false,true,true,false,false,false,true,true,false,false,false,false,false,false,false,false,false,false] rfl rfl (any_of HT_.out (by kernel_rfl)) (fun _ _ _ h => h) (Or.inl ⟨by rfl, ?_⟩) ?_ ?_
              rotate_left
              · intro w'; go_simp; with_reducible rfl
              rotate_left; · (simp only [Act.put, List.setIfInBounds_toArray, List.set_cons_zero, List.set_cons_succ, i64_w, i32_w]; rfl)
              refine pure_ (i := 16) (N := some 72) (v := ?_) (a' := ?_) #[true,false,true,true,false,false,true,true,false,false,false,true,true,false,false,false,true,false,false,false,false,false,false] rfl rfl (any_of HT_.out (by kernel_rfl)) (fun _ _ _ h => h) (Or.inl ⟨by rfl, ?_⟩) ?_ ?_
              rotate_left
              · intro w'; go_simp; with_reducible rfl
              rotate_left; · (simp only [Act.put, List.setIfInBounds_toArray, List.set_cons_zero, List.set_cons_succ, i64_w, i32_w]; rfl)
              refine take_ (i := 4) (N := some 60) (v := ?_) (a' := ?_) #[true,false,true,true,true,false,true,true,false,false,false,true,true,false,false,false,true,false,false,false,false,false,false] rfl rfl (take_ofW HT_.out HW_.out (by kernel_rfl)) (fun _ _ _ h => h) (Or.inl ⟨by rfl, ?_⟩) hHeld ?_ ?_
              rotate_left
              · rintro w' ⟨s0, s1, s2⟩; go_simp; with_reducible rfl
              rotate_left; · (simp only [Act.put, List.setIfInBounds_toArray, List.set_cons_zero, List.set_cons_succ, i64_w, i32_w]; rfl)
              refine take_ (i := 8) (N := some 64) (v := ?_) (a' := ?_) #[true,false,true,true,true,false,true,true,true,false,false,true,true,false,false,false,true,false,false,false,false,false,false] rfl rfl (take_ofW HT_.out HW_.out (by kernel_rfl)) (fun _ _ _ h => h) (Or.inl ⟨by rfl, ?_⟩) hHeld ?_ ?_
              rotate_left
              · rintro w' ⟨s0, s1, s2⟩; go_simp; with_reducible rfl
              rotate_left; · (simp only [Act.put, List.setIfInBounds_toArray, List.set_cons_zero, List.set_cons_succ, i64_w, i32_w]; rfl)
              refine take_ (i := 13) (N := some 69) (v := ?_) (a' := ?_) #[true,false,true,true,true,false,true,true,true,false,false,true,true,true,false,false,true,false,false,false,false,false,false] rfl rfl (take_ofW HT_.out HW_.out (by kernel_rfl)) (fun _ _ _ h => h) (Or.inl ⟨by rfl, ?_⟩) hHeld ?_ ?_
              rotate_left
              · rintro w' ⟨s0, s1, s2⟩; go_simp; with_reducible rfl
              rotate_left; · (simp only [Act.put, List.setIfInBounds_toArray, List.set_cons_zero, List.set_cons_succ, i64_w, i32_w]; rfl)
              refine one_ (i := 1) (N := some 57) #[true,true,true,true,true,false,true,true,true,false,false,true,true,true,false,false,true,false,false,false,false,false,false] rfl rfl (one_of HT_.out (by kernel_rfl)) (by decide) (fun K hK => ?_)
              refine goes_ Try.func65 (by kernel_rfl) rfl #[.int .u64 a0] (by rfl) rfl rfl (by (try simp only [List.map_toArray, List.map_cons, List.map_nil]); first | done | rfl | (simp only [List.length_drop, List.length_take]; rfl)) ?_
              with_reducible refine (term_Name.calls a0 t1015 _ A20.out).mono ?_
              rintro e w80 ⟨rfl, hb⟩; refine ⟨_, rfl, ?_⟩
              have n0_ := Aside0.mk (Kd.V_below (by (with_reducible repeat (first | apply Kd.V_alloc | apply Kd.V_drewN | apply Kd.V_drew)); exact HO1008.out) hb)
              have n1_ := Aside0.mk (below_step (by repeat (first | (with_reducible first | exact HB.out | apply below_alloc | apply pw_below_drewN | apply below_drew1) | exact HB.out)) hb)
              clear HO1008; clear HB; have HO1008 := n0_; have HB := n1_; clear n0_ n1_; (try clear hb); (try clear hb2); (try clear hk); (try clear hi); refine hK.out _ _ ⟨((HB.out.cell (World.block_lt_of_cell? w _ hw1016_0)).trans hw1016_0), ((HB.out.cell (World.block_lt_of_cell? w _ hw1022_0)).trans hw1022_0), ((HB.out.cell (World.block_lt_of_cell? w _ hw1024_0)).trans hw1024_0)⟩ (fun hHeld => ?_)
              clear hK K; refine norm_ (a' := ?_) ?_ ?_
              rotate_left
              · show Act.put _ (some 57) _ = _
                simp only [Act.put, List.setIfInBounds_toArray, List.set_cons_zero, List.set_cons_succ, i64_w, i32_w]; rfl
              refine one_ (i := 5) (N := some 61) #[true,true,true,true,true,true,true,true,true,false,false,true,true,true,false,false,true,false,false,false,false,false,false] rfl rfl (one_of HT_.out (by kernel_rfl)) (by decide) (fun K hK => ?_)
              refine goes_ Try.func63 (by kernel_rfl) rfl #[.int .i64 (rd l1 3)] (by rfl) rfl rfl (by (try simp only [List.map_toArray, List.map_cons, List.map_nil]); first | done | rfl | (simp only [List.length_drop, List.length_take]; rfl)) ?_
              with_reducible refine (gemotlaw17_of.calls (rd l1 3) t1017 t1018 t1019 _ A22.out).mono ?_
              rintro e w81 ⟨v1020, rfl, ho0, hb⟩; refine ⟨_, rfl, ?_⟩
              have n0_ := Aside0.mk (Kd.V_below (by (with_reducible repeat (first | apply Kd.V_alloc | apply Kd.V_drewN | apply Kd.V_drew)); exact HO1008.out) hb)
              have n1_ := Aside0.mk (Kd.V_lower (Kd.V_mono (ok' := fun k_ => True) ho0 (fun k_ hk_ => trivial)) (below_size (by repeat (first | (with_reducible first | exact HB.out | apply below_alloc | apply pw_below_drewN | apply below_drew1) | exact HB.out))))
              have n2_ := Aside0.mk (below_step (by repeat (first | (with_reducible first | exact HB.out | apply below_alloc | apply pw_below_drewN | apply below_drew1) | exact HB.out)) hb)
              clear HO1008; clear HB; have HO1008 := n0_; have HO1021 := n1_; have HB := n2_; clear n0_ n1_ n2_; (try clear hb); (try clear hb2); (try clear hk); (try clear hi); (try clear ho0); refine hK.out _ _ ⟨((HB.out.cell (World.block_lt_of_cell? w _ hw1016_0)).trans hw1016_0), ((HB.out.cell (World.block_lt_of_cell? w _ hw1022_0)).trans hw1022_0), ((HB.out.cell (World.block_lt_of_cell? w _ hw1024_0)).trans hw1024_0)⟩ (fun hHeld => ?_)
              clear hK K; refine norm_ (a' := ?_) ?_ ?_
              rotate_left
              · show Act.put _ (some 61) _ = _
                simp only [Act.put, List.setIfInBounds_toArray, List.set_cons_zero, List.set_cons_succ, i64_w, i32_w]; rfl
              refine one_ (i := 9) (N := some 65) #[true,true,true,true,true,true,true,true,true,true,false,true,true,true,false,false,true,false,false,false,false,false,false] rfl rfl (one_of HT_.out (by kernel_rfl)) (by decide) (fun K hK => ?_)
              refine goes_ Try.func64 (by kernel_rfl) rfl #[.int .i64 (rd l1 4), .int .i64 8] (by rfl) rfl rfl (by (try simp only [List.map_toArray, List.map_cons, List.map_nil]); first | done | rfl | (simp only [List.length_drop, List.length_take]; rfl)) ?_
              with_reducible refine (gemotlaw17_pick.calls (rd l1 4) 8 t1023 _ A24.out).mono ?_
              rintro e w' ⟨rfl, ⟨nd, rfl⟩⟩; refine ⟨_, rfl, ?_⟩
              refine hK.out _ _ ⟨((HB.out.cell (World.block_lt_of_cell? w _ hw1016_0)).trans hw1016_0), ((HB.out.cell (World.block_lt_of_cell? w _ hw1022_0)).trans hw1022_0), ((HB.out.cell (World.block_lt_of_cell? w _ hw1024_0)).trans hw1024_0)⟩ (fun hHeld => ?_)
              clear hK K; refine norm_ (a' := ?_) ?_ ?_
              rotate_left
              · show Act.put _ (some 65) _ = _
                simp only [Act.put, List.setIfInBounds_toArray, List.set_cons_zero, List.set_cons_succ, i64_w, i32_w]; rfl
              refine pure_ (i := 10) (N := some 66) (v := ?_) (a' := ?_) #[true,true,true,true,true,true,true,true,true,true,true,true,true,true,false,false,true,false,false,false,false,false,false] rfl rfl (any_of HT_.out (by kernel_rfl)) (fun _ _ _ h => h) (Or.inl ⟨by rfl, ?_⟩) ?_ ?_
              rotate_left
              · intro w'; go_simp; with_reducible rfl
              rotate_left; · (simp only [Act.put, List.setIfInBounds_toArray, List.set_cons_zero, List.set_cons_succ, i64_w, i32_w]; rfl)
              refine one_ (i := 14) (N := some 70) #[true,true,true,true,true,true,true,true,true,true,true,true,true,true,true,false,true,false,false,false,false,false,false] rfl rfl (one_of HT_.out (by kernel_rfl)) (by decide) (fun K hK => ?_)
              refine goes_ Try.func64 (by kernel_rfl) rfl #[.int .i64 (rd l1 5), .int .i64 32] (by rfl) rfl rfl (by (try simp only [List.map_toArray, List.map_cons, List.map_nil]); first | done | rfl | (simp only [List.length_drop, List.length_take]; rfl)) ?_
              with_reducible refine (gemotlaw17_pick.calls (rd l1 5) 32 t1025 _ A26.out).mono ?_
              rintro e w' ⟨rfl, ⟨nd, rfl⟩⟩; refine ⟨_, rfl, ?_⟩
              obtain ⟨Ao82, co82, eo82⟩ := Kd.V_slice HO1021.out; (first | subst eo82 | (injection eo82 with f1_ f2_ f3_; have f4_ := f1_.symm; have f5_ := f3_.symm; clear f1_ f2_ f3_; subst f4_; subst f5_)); refine hK.out _ _ ⟨((HB.out.cell (World.block_lt_of_cell? w _ hw1016_0)).trans hw1016_0), ((HB.out.cell (World.block_lt_of_cell? w _ hw1022_0)).trans hw1022_0), ((HB.out.cell (World.block_lt_of_cell? w _ hw1024_0)).trans hw1024_0)⟩ (fun hHeld => ?_)
              clear hK K; refine norm_ (a' := ?_) ?_ ?_
              rotate_left
              · show Act.put _ (some 70) _ = _
                simp only [Act.put, List.setIfInBounds_toArray, List.set_cons_zero, List.set_cons_succ, i64_w, i32_w]; rfl
              refine pure_ (i := 15) (N := some 71) (v := ?_) (a' := ?_) #[true,true,true,true,true,true,true,true,true,true,true,true,true,true,true,true,true,false,false,false,false,false,false] rfl rfl (any_of HT_.out (by kernel_rfl)) (fun _ _ _ h => h) (Or.inl ⟨by rfl, ?_⟩) ?_ ?_
              rotate_left
              · intro w'; go_simp; with_reducible rfl
              rotate_left; · (simp only [Act.put, List.setIfInBounds_toArray, List.set_cons_zero, List.set_cons_succ, i64_w, i32_w]; rfl)
              refine one_ (i := 17) (N := some 73) #[true,true,true,true,true,true,true,true,true,true,true,true,true,true,true,true,true,true,false,false,false,false,false] rfl rfl (one_of HT_.out (by kernel_rfl)) (by decide) (fun K hK => ?_)
              refine goes_ Try.func59 (by kernel_rfl) rfl #[.string t1015, .agg #[.int .i64 t1017, .int .i64 t1018, .slice Ao82 t1019.length co82], .int .i64 (wrap64 (1 + t1023)), .int .i64 (wrap64 (1 + t1025)), .string a3] (by rfl) rfl rfl (by (try simp only [List.map_toArray, List.map_cons, List.map_nil]); first | done | rfl | (simp only [List.length_drop, List.length_take]; rfl)) ?_
              with_reducible refine (seal_Close.calls t1015 t1017 t1018 _ _ t1019 (wrap64 (1 + t1023)) (wrap64 (1 + t1025)) a3 t1026 t1027 _ ?side1 ?side2 A27.out).mono ?_
              (case side1 => repeat (first | exact (Kd.V_reads' HO1021.out).2.2 | (with_reducible refine Kd.C_alloc ?_ _) | (with_reducible refine Kd.C_drewN ?_ _) | (with_reducible refine Kd.C_drew ?_))); (case side2 => exact (Kd.V_reads' HO1021.out).2.1); rintro e w83 ⟨rfl, hb⟩; refine ⟨_, rfl, ?_⟩
              have n0_ := Aside0.mk (Kd.V_below (by (with_reducible repeat (first | apply Kd.V_alloc | apply Kd.V_drewN | apply Kd.V_drew)); exact HO1008.out) hb)
              have n1_ := Aside0.mk (Kd.V_below (by (with_reducible repeat (first | apply Kd.V_alloc | apply Kd.V_drewN | apply Kd.V_drew)); exact HO1021.out) hb)
              have n2_ := Aside0.mk (below_step (by repeat (first | (with_reducible first | exact HB.out | apply below_alloc | apply pw_below_drewN | apply below_drew1) | exact HB.out)) hb)
              clear HO1008; clear HO1021; clear HB; have HO1008 := n0_; have HO1021 := n1_; have HB := n2_; clear n0_ n1_ n2_; (try clear hb); (try clear hb2); (try clear hk); (try clear hi); refine hK.out _ _ ⟨((HB.out.cell (World.block_lt_of_cell? w _ hw1016_0)).trans hw1016_0), ((HB.out.cell (World.block_lt_of_cell? w _ hw1022_0)).trans hw1022_0), ((HB.out.cell (World.block_lt_of_cell? w _ hw1024_0)).trans hw1024_0)⟩ (fun hHeld => ?_)
              clear hK K; refine norm_ (a' := ?_) ?_ ?_
              rotate_left
              · show Act.put _ (some 73) _ = _
                simp only [Act.put, List.setIfInBounds_toArray, List.set_cons_zero, List.set_cons_succ, i64_w, i32_w]; rfl
              refine pure_ (i := 18) (N := some 55) (v := ?_) (a' := ?_) #[true,true,true,true,true,true,true,true,true,true,true,true,true,true,true,true,true,true,true,false,false,false,false] rfl rfl (any_of HT_.out (by kernel_rfl)) (fun _ _ _ h => h) (Or.inl ⟨by rfl, ?_⟩) ?_ ?_
              rotate_left
              · intro w'; go_simp; with_reducible rfl
              rotate_left; · (simp only [Act.put, List.setIfInBounds_toArray, List.set_cons_zero, List.set_cons_succ, i64_w, i32_w]; rfl)
              refine pure_ (i := 19) (N := some 74) (v := ?_) (a' := ?_) #[true,true,true,true,true,true,true,true,true,true,true,true,true,true,true,true,true,true,true,true,false,false,false] rfl rfl (any_of HT_.out (by kernel_rfl)) (fun _ _ _ h => h) (Or.inl ⟨by rfl, ?_⟩) ?_ ?_
              rotate_left
              · intro w'; go_simp; with_reducible rfl
              rotate_left; · (simp only [Act.put, List.setIfInBounds_toArray, List.set_cons_zero, List.set_cons_succ, i64_w, i32_w]; rfl)
              refine pure_ (i := 20) (N := some 75) (v := ?_) (a' := ?_) #[true,true,true,true,true,true,true,true,true,true,true,true,true,true,true,true,true,true,true,true,true,false,false] rfl rfl (any_of HT_.out (by kernel_rfl)) (fun _ _ _ h => h) (Or.inl ⟨by rfl, ?_⟩) ?_ ?_
              rotate_left
              · intro w'; go_simp; with_reducible rfl
              rotate_left; · (simp only [Act.put, List.setIfInBounds_toArray, List.set_cons_zero, List.set_cons_succ, i64_w, i32_w]; rfl)
              refine pure_ (i := 21) (N := some 12) (v := ?_) (a' := ?_) #[true,true,true,true,true,true,true,true,true,true,true,true,true,true,true,true,true,true,true,true,true,true,false] rfl rfl (any_of HT_.out (by kernel_rfl)) (fun _ _ _ h => h) (Or.inl ⟨by rfl, ?_⟩) ?_ ?_
              rotate_left
              · intro w'; go_simp; with_reducible rfl
              rotate_left; · (simp only [Act.put, List.setIfInBounds_toArray, List.set_cons_zero, List.set_cons_succ, i64_w, i32_w]; rfl)
              refine pure_ (i := 22) (N := some 13) (v := ?_) (a' := ?_) #[true,true,true,true,true,true,true,true,true,true,true,true,true,true,true,true,true,true,true,true,true,true,true] rfl rfl (any_of HT_.out (by kernel_rfl)) (fun _ _ _ h => h) (Or.inl ⟨by rfl, ?_⟩) ?_ ?_
              rotate_left
              · intro w'; go_simp; with_reducible rfl
              rotate_left; · (simp only [Act.put, List.setIfInBounds_toArray, List.set_cons_zero, List.set_cons_succ, i64_w, i32_w]; rfl)
              refine done_ (done_of HT_.out (by kernel_rfl)) ?_
              try go_wp2
              have n0_ := Aside0.mk (Kd.V_drew HO1008.out)
              have n1_ := Aside0.mk (Kd.V_drew HO1021.out)
              have n2_ := Aside0.mk (below_drew1 HB.out)
              clear HO1008; clear HO1021; clear HB; have HO1008 := n0_; have HO1021 := n1_; have HB := n2_; clear n0_ n1_ n2_; have p1028 : 0 ≤ (0 : Int) := (by omega)
              have q1028 : 0 < (l1.length : Int) := of_decide_eq_true (by first | (with_reducible assumption) | assumption)
              obtain ⟨ad1028, e1028, hx1028_0⟩ := Kd.at_int HR1.out 0 p1028 q1028
              have hw1028_0 := hx1028_0; (try rw [show ((0 : Int)).toNat = 0 from rfl] at hw1028_0); (try rw [show 0 * 1 = 0 from rfl] at hw1028_0); (try rw [Addr.add_zero'] at hw1028_0); obtain rfl : ad1003 = ad1028 := (by injection e1028)
              have qi1028 : (0 < l1.length) = True := eq_true (by omega)
              (try rw [show ((0 : Int)).toNat = 0 from rfl] at hx1028_0); (try rw [Addr.add_zero'] at hx1028_0); replace hx1028_0 := (HB.out.cell (World.block_lt_of_cell? w _ hx1028_0)).trans hx1028_0
              replace p1028 := eq_true p1028
              replace q1028 := eq_true q1028
              have p1030 : 0 ≤ (3 : Int) := (by omega)
              have q1030 : 3 < (l1.length : Int) := of_decide_eq_true (by first | (with_reducible assumption) | assumption)
              obtain ⟨ad1030, e1030, hx1030_0⟩ := Kd.at_int HR1.out 3 p1030 q1030
              have hw1030_0 := hx1030_0; (try rw [show ((3 : Int)).toNat = 3 from rfl] at hw1030_0); (try rw [show 3 * 1 = 3 from rfl] at hw1030_0); (try simp only [Nat.reduceMul, Nat.reduceEqDiff, Go.Addr.add, ↓reduceIte] at hw1030_0); obtain rfl : ad1003 = ad1030 := (by injection e1030)
              (try simp only [show (3 : Int).toNat = 3 from rfl, Nat.reduceMul, Nat.reduceEqDiff, Go.Addr.add, ↓reduceIte] at hx1030_0); have qi1030 : (3 < l1.length) = True := eq_true (by omega)
              (try rw [show ((3 : Int)).toNat = 3 from rfl] at hx1030_0); replace hx1030_0 := (HB.out.cell (World.block_lt_of_cell? w _ hx1030_0)).trans hx1030_0
              replace p1030 := eq_true p1030
              replace q1030 := eq_true q1030
              have p1032 : 0 ≤ (1 : Int) := (by omega)
              have q1032 : 1 < (l1.length : Int) := of_decide_eq_true (by first | (with_reducible assumption) | assumption)
              obtain ⟨ad1032, e1032, hx1032_0⟩ := Kd.at_int HR1.out 1 p1032 q1032
              have hw1032_0 := hx1032_0; (try rw [show ((1 : Int)).toNat = 1 from rfl] at hw1032_0); (try rw [show 1 * 1 = 1 from rfl] at hw1032_0); (try simp only [Nat.reduceMul, Nat.reduceEqDiff, Go.Addr.add, ↓reduceIte] at hw1032_0); obtain rfl : ad1003 = ad1032 := (by injection e1032)
              (try simp only [show (1 : Int).toNat = 1 from rfl, Nat.reduceMul, Nat.reduceEqDiff, Go.Addr.add, ↓reduceIte] at hx1032_0); have qi1032 : (1 < l1.length) = True := eq_true (by omega)
              (try rw [show ((1 : Int)).toNat = 1 from rfl] at hx1032_0); replace hx1032_0 := (HB.out.cell (World.block_lt_of_cell? w _ hx1032_0)).trans hx1032_0
              replace p1032 := eq_true p1032
              replace q1032 := eq_true q1032
              have p1034 : 0 ≤ (4 : Int) := (by omega)
              have q1034 : 4 < (l1.length : Int) := of_decide_eq_true (by first | (with_reducible assumption) | assumption)
              obtain ⟨ad1034, e1034, hx1034_0⟩ := Kd.at_int HR1.out 4 p1034 q1034
              have hw1034_0 := hx1034_0; (try rw [show ((4 : Int)).toNat = 4 from rfl] at hw1034_0); (try rw [show 4 * 1 = 4 from rfl] at hw1034_0); (try simp only [Nat.reduceMul, Nat.reduceEqDiff, Go.Addr.add, ↓reduceIte] at hw1034_0); obtain rfl : ad1003 = ad1034 := (by injection e1034)
              (try simp only [show (4 : Int).toNat = 4 from rfl, Nat.reduceMul, Nat.reduceEqDiff, Go.Addr.add, ↓reduceIte] at hx1034_0); have qi1034 : (4 < l1.length) = True := eq_true (by omega)
              (try rw [show ((4 : Int)).toNat = 4 from rfl] at hx1034_0); replace hx1034_0 := (HB.out.cell (World.block_lt_of_cell? w _ hx1034_0)).trans hx1034_0
              replace p1034 := eq_true p1034
              replace q1034 := eq_true q1034
              have p1036 : 0 ≤ (2 : Int) := (by omega)
              have q1036 : 2 < (l1.length : Int) := of_decide_eq_true (by first | (with_reducible assumption) | assumption)
              obtain ⟨ad1036, e1036, hx1036_0⟩ := Kd.at_int HR1.out 2 p1036 q1036
              have hw1036_0 := hx1036_0; (try rw [show ((2 : Int)).toNat = 2 from rfl] at hw1036_0); (try rw [show 2 * 1 = 2 from rfl] at hw1036_0); (try simp only [Nat.reduceMul, Nat.reduceEqDiff, Go.Addr.add, ↓reduceIte] at hw1036_0); obtain rfl : ad1003 = ad1036 := (by injection e1036)
              (try simp only [show (2 : Int).toNat = 2 from rfl, Nat.reduceMul, Nat.reduceEqDiff, Go.Addr.add, ↓reduceIte] at hx1036_0); have qi1036 : (2 < l1.length) = True := eq_true (by omega)
              (try rw [show ((2 : Int)).toNat = 2 from rfl] at hx1036_0); replace hx1036_0 := (HB.out.cell (World.block_lt_of_cell? w _ hx1036_0)).trans hx1036_0
              replace p1036 := eq_true p1036
              replace q1036 := eq_true q1036
              have p1038 : 0 ≤ (5 : Int) := (by omega)
              have q1038 : 5 < (l1.length : Int) := of_decide_eq_true (by first | (with_reducible assumption) | assumption)
              obtain ⟨ad1038, e1038, hx1038_0⟩ := Kd.at_int HR1.out 5 p1038 q1038
              have hw1038_0 := hx1038_0; (try rw [show ((5 : Int)).toNat = 5 from rfl] at hw1038_0); (try rw [show 5 * 1 = 5 from rfl] at hw1038_0); (try simp only [Nat.reduceMul, Nat.reduceEqDiff, Go.Addr.add, ↓reduceIte] at hw1038_0); obtain rfl : ad1003 = ad1038 := (by injection e1038)
              (try simp only [show (5 : Int).toNat = 5 from rfl, Nat.reduceMul, Nat.reduceEqDiff, Go.Addr.add, ↓reduceIte] at hx1038_0); have qi1038 : (5 < l1.length) = True := eq_true (by omega)
              (try rw [show ((5 : Int)).toNat = 5 from rfl] at hx1038_0); replace hx1038_0 := (HB.out.cell (World.block_lt_of_cell? w _ hx1038_0)).trans hx1038_0
              replace p1038 := eq_true p1038
              replace q1038 := eq_true q1038
              refine start_ (n := 37) (S := fun w' => w'.cell? ad1003 = some (.int .i64 (rd l1 0)) ∧ w'.cell? ⟨ad1003.block, ad1003.off + 3, none⟩ = some (.int .i64 (rd l1 3)) ∧ w'.cell? ⟨ad1003.block, ad1003.off + 1, none⟩ = some (.int .i64 (rd l1 1)) ∧ w'.cell? ⟨ad1003.block, ad1003.off + 4, none⟩ = some (.int .i64 (rd l1 4)) ∧ w'.cell? ⟨ad1003.block, ad1003.off + 2, none⟩ = some (.int .i64 (rd l1 2)) ∧ w'.cell? ⟨ad1003.block, ad1003.off + 5, none⟩ = some (.int .i64 (rd l1 5))) (ds := []) #[false,false,false,false,false,false,false,false,false,false,false,false,false,false,false,false,false,false,false,false,false,false,false,false,false,false,false,false,false,false,false,false,false,false,false,false,false] (by kernel_rfl) rfl rfl ⟨((HB.out.cell (World.block_lt_of_cell? w _ hw1028_0)).trans hw1028_0), ((HB.out.cell (World.block_lt_of_cell? w _ hw1030_0)).trans hw1030_0), ((HB.out.cell (World.block_lt_of_cell? w _ hw1032_0)).trans hw1032_0), ((HB.out.cell (World.block_lt_of_cell? w _ hw1034_0)).trans hw1034_0), ((HB.out.cell (World.block_lt_of_cell? w _ hw1036_0)).trans hw1036_0), ((HB.out.cell (World.block_lt_of_cell? w _ hw1038_0)).trans hw1038_0)⟩ (fun hHeld => ?_); refine with_tabW gemotlaw17_SealApart.tab6 gemotlaw17_SealApart.bits6 (fun HT_ HW_ => ?_)
              generalize w83.drew = w84 at HO1008 HO1021 HB hx1028_0 hx1030_0 hx1032_0 hx1034_0 hx1036_0 hx1038_0 hHeld ⊢
              refine pure_ (i := 0) (N := some 76) (v := ?_) (a' := ?_) #[true,false,false,false,false,false,false,false,false,false,false,false,false,false,false,false,false,false,false,false,false,false,false,false,false,false,false,false,false,false,false,false,false,false,false,false,false] rfl rfl (any_of HT_.out (by kernel_rfl)) (fun _ _ _ h => h) (Or.inl ⟨by rfl, ?_⟩) ?_ ?_
              rotate_left
              · intro w'; go_simp; with_reducible rfl
              rotate_left; · (simp only [Act.put, List.setIfInBounds_toArray, List.set_cons_zero, List.set_cons_succ, i64_w, i32_w]; rfl)
              refine pure_ (i := 1) (N := some 77) (v := ?_) (a' := ?_) #[true,true,false,false,false,false,false,false,false,false,false,false,false,false,false,false,false,false,false,false,false,false,false,false,false,false,false,false,false,false,false,false,false,false,false,false,false] rfl rfl (any_of HT_.out (by kernel_rfl)) (fun _ _ _ h => h) (Or.inl ⟨by rfl, ?_⟩) ?_ ?_
              rotate_left
              · intro w'; go_simp; with_reducible rfl
              rotate_left; · (simp only [Act.put, List.setIfInBounds_toArray, List.set_cons_zero, List.set_cons_succ, i64_w, i32_w]; rfl)
              refine pure_ (i := 4) (N := some 80) (v := ?_) (a' := ?_) #[true,true,false,false,true,false,false,false,false,false,false,false,false,false,false,false,false,false,false,false,false,false,false,false,false,false,false,false,false,false,false,false,false,false,false,false,false] rfl rfl (any_of HT_.out (by kernel_rfl)) (fun _ _ _ h => h) (Or.inl ⟨by rfl, ?_⟩) ?_ ?_
              rotate_left
              · intro w'; go_simp; with_reducible rfl
              rotate_left; · (simp only [Act.put, List.setIfInBounds_toArray, List.set_cons_zero, List.set_cons_succ, i64_w, i32_w]; rfl)
              refine pure_ (i := 5) (N := some 81) (v := ?_) (a' := ?_) #[true,true,false,false,true,true,false,false,false,false,false,false,false,false,false,false,false,false,false,false,false,false,false,false,false,false,false,false,false,false,false,false,false,false,false,false,false] rfl rfl (any_of HT_.out (by kernel_rfl)) (fun _ _ _ h => h) (Or.inl ⟨by rfl, ?_⟩) ?_ ?_
              rotate_left
              · intro w'; go_simp; with_reducible rfl
              rotate_left; · (simp only [Act.put, List.setIfInBounds_toArray, List.set_cons_zero, List.set_cons_succ, i64_w, i32_w]; rfl)
              refine take_ (i := 2) (N := some 78) (v := ?_) (a' := ?_) #[true,true,true,false,true,true,false,false,false,false,false,false,false,false,false,false,false,false,false,false,false,false,false,false,false,false,false,false,false,false,false,false,false,false,false,false,false] rfl rfl (take_ofW HT_.out HW_.out (by kernel_rfl)) (fun _ _ _ h => h) (Or.inl ⟨by rfl, ?_⟩) hHeld ?_ ?_
              rotate_left
              · rintro w' ⟨s0, s1, s2, s3, s4, s5⟩; go_simp; with_reducible rfl
              rotate_left; · (simp only [Act.put, List.setIfInBounds_toArray, List.set_cons_zero, List.set_cons_succ, i64_w, i32_w]; rfl)
              refine take_ (i := 6) (N := some 82) (v := ?_) (a' := ?_) #[true,true,true,false,true,true,true,false,false,false,false,false,false,false,false,false,false,false,false,false,false,false,false,false,false,false,false,false,false,false,false,false,false,false,false,false,false] rfl rfl (take_ofW HT_.out HW_.out (by kernel_rfl)) (fun _ _ _ h => h) (Or.inl ⟨by rfl, ?_⟩) hHeld ?_ ?_
              rotate_left
              · rintro w' ⟨s0, s1, s2, s3, s4, s5⟩; go_simp; with_reducible rfl
              rotate_left; · (simp only [Act.put, List.setIfInBounds_toArray, List.set_cons_zero, List.set_cons_succ, i64_w, i32_w]; rfl)
              refine one_ (i := 3) (N := some 79) #[true,true,true,true,true,true,true,false,false,false,false,false,false,false,false,false,false,false,false,false,false,false,false,false,false,false,false,false,false,false,false,false,false,false,false,false,false] rfl rfl (one_of HT_.out (by kernel_rfl)) (by decide) (fun K hK => ?_)
              refine goes_ Try.func64 (by kernel_rfl) rfl #[.int .i64 (rd l1 0), .int .i64 1000] (by rfl) rfl rfl (by (try simp only [List.map_toArray, List.map_cons, List.map_nil]); first | done | rfl | (simp only [List.length_drop, List.length_take]; rfl)) ?_
              with_reducible refine (gemotlaw17_pick.calls (rd l1 0) 1000 t1029 _ A28.out).mono ?_
              rintro e w' ⟨rfl, ⟨nd, rfl⟩⟩; refine ⟨_, rfl, ?_⟩
              refine hK.out _ _ ⟨((HB.out.cell (World.block_lt_of_cell? w _ hw1028_0)).trans hw1028_0), ((HB.out.cell (World.block_lt_of_cell? w _ hw1030_0)).trans hw1030_0), ((HB.out.cell (World.block_lt_of_cell? w _ hw1032_0)).trans hw1032_0), ((HB.out.cell (World.block_lt_of_cell? w _ hw1034_0)).trans hw1034_0), ((HB.out.cell (World.block_lt_of_cell? w _ hw1036_0)).trans hw1036_0), ((HB.out.cell (World.block_lt_of_cell? w _ hw1038_0)).trans hw1038_0)⟩ (fun hHeld => ?_)
              clear hK K; refine norm_ (a' := ?_) ?_ ?_
              rotate_left
              · show Act.put _ (some 79) _ = _
                simp only [Act.put, List.setIfInBounds_toArray, List.set_cons_zero, List.set_cons_succ, i64_w, i32_w]; rfl
              refine one_ (i := 7) (N := some 83) #[true,true,true,true,true,true,true,true,false,false,false,false,false,false,false,false,false,false,false,false,false,false,false,false,false,false,false,false,false,false,false,false,false,false,false,false,false] rfl rfl (one_of HT_.out (by kernel_rfl)) (by decide) (fun K hK => ?_)
              refine goes_ Try.func64 (by kernel_rfl) rfl #[.int .i64 (rd l1 3), .int .i64 1000] (by rfl) rfl rfl (by (try simp only [List.map_toArray, List.map_cons, List.map_nil]); first | done | rfl | (simp only [List.length_drop, List.length_take]; rfl)) ?_
              with_reducible refine (gemotlaw17_pick.calls (rd l1 3) 1000 t1031 _ A29.out).mono ?_
              rintro e w' ⟨rfl, ⟨nd, rfl⟩⟩; refine ⟨_, rfl, ?_⟩
              refine hK.out _ _ ⟨((HB.out.cell (World.block_lt_of_cell? w _ hw1028_0)).trans hw1028_0), ((HB.out.cell (World.block_lt_of_cell? w _ hw1030_0)).trans hw1030_0), ((HB.out.cell (World.block_lt_of_cell? w _ hw1032_0)).trans hw1032_0), ((HB.out.cell (World.block_lt_of_cell? w _ hw1034_0)).trans hw1034_0), ((HB.out.cell (World.block_lt_of_cell? w _ hw1036_0)).trans hw1036_0), ((HB.out.cell (World.block_lt_of_cell? w _ hw1038_0)).trans hw1038_0)⟩ (fun hHeld => ?_)
              clear hK K; refine norm_ (a' := ?_) ?_ ?_
              rotate_left
              · show Act.put _ (some 83) _ = _
                simp only [Act.put, List.setIfInBounds_toArray, List.set_cons_zero, List.set_cons_succ, i64_w, i32_w]; rfl
              refine pure_ (i := 8) (N := some 84) (v := ?_) (a' := ?_) #[true,true,true,true,true,true,true,true,true,false,false,false,false,false,false,false,false,false,false,false,false,false,false,false,false,false,false,false,false,false,false,false,false,false,false,false,false] rfl rfl (any_of HT_.out (by kernel_rfl)) (fun _ _ _ h => h) (Or.inl ⟨by rfl, ?_⟩) ?_ ?_
              rotate_left
              · intro w'; go_simp; with_reducible rfl
              rotate_left; · (simp only [Act.put, List.setIfInBounds_toArray, List.set_cons_zero, List.set_cons_succ, i64_w, i32_w]; rfl)
              refine pure_ (i := 9) (N := some 85) (v := ?_) (a' := ?_) #[true,true,true,true,true,true,true,true,true,true,false,false,false,false,false,false,false,false,false,false,false,false,false,false,false,false,false,false,false,false,false,false,false,false,false,false,false] rfl rfl (any_of HT_.out (by kernel_rfl)) (fun _ _ _ h => h) (Or.inl ⟨by rfl, ?_⟩) ?_ ?_
              rotate_left
              · intro w'; go_simp; with_reducible rfl
              rotate_left; · (simp only [Act.put, List.setIfInBounds_toArray, List.set_cons_zero, List.set_cons_succ, i64_w, i32_w]; rfl)
              refine pure_ (i := 10) (N := some 86) (v := ?_) (a' := ?_) #[true,true,true,true,true,true,true,true,true,true,true,false,false,false,false,false,false,false,false,false,false,false,false,false,false,false,false,false,false,false,false,false,false,false,false,false,false] rfl rfl (any_of HT_.out (by kernel_rfl)) (fun _ _ _ h => h) (Or.inl ⟨by rfl, ?_⟩) ?_ ?_
              rotate_left
              · intro w'; go_simp; with_reducible rfl
              rotate_left; · (simp only [Act.put, List.setIfInBounds_toArray, List.set_cons_zero, List.set_cons_succ, i64_w, i32_w]; rfl)
              refine pure_ (i := 11) (N := some 87) (v := ?_) (a' := ?_) #[true,true,true,true,true,true,true,true,true,true,true,true,false,false,false,false,false,false,false,false,false,false,false,false,false,false,false,false,false,false,false,false,false,false,false,false,false] rfl rfl (any_of HT_.out (by kernel_rfl)) (fun _ _ _ h => h) (Or.inl ⟨by rfl, ?_⟩) ?_ ?_
              rotate_left
              · intro w'; go_simp; with_reducible rfl
              rotate_left; · (simp only [Act.put, List.setIfInBounds_toArray, List.set_cons_zero, List.set_cons_succ, i64_w, i32_w]; rfl)
              refine pure_ (i := 14) (N := some 90) (v := ?_) (a' := ?_) #[true,true,true,true,true,true,true,true,true,true,true,true,false,false,true,false,false,false,false,false,false,false,false,false,false,false,false,false,false,false,false,false,false,false,false,false,false] rfl rfl (any_of HT_.out (by kernel_rfl)) (fun _ _ _ h => h) (Or.inl ⟨by rfl, ?_⟩) ?_ ?_
              rotate_left
              · intro w'; go_simp; with_reducible rfl
              rotate_left; · (simp only [Act.put, List.setIfInBounds_toArray, List.set_cons_zero, List.set_cons_succ, i64_w, i32_w]; rfl)
              refine pure_ (i := 15) (N := some 91) (v := ?_) (a' := ?_) #[true,true,true,true,true,true,true,true,true,true,true,true,false,false,true,true,false,false,false,false,false,false,false,false,false,false,false,false,false,false,false,false,false,false,false,false,false] rfl rfl (any_of HT_.out (by kernel_rfl)) (fun _ _ _ h => h) (Or.inl ⟨by rfl, ?_⟩) ?_ ?_
              rotate_left
              · intro w'; go_simp; with_reducible rfl
              rotate_left; · (simp only [Act.put, List.setIfInBounds_toArray, List.set_cons_zero, List.set_cons_succ, i64_w, i32_w]; rfl)
              refine take_ (i := 12) (N := some 88) (v := ?_) (a' := ?_) #[true,true,true,true,true,true,true,true,true,true,true,true,true,false,true,true,false,false,false,false,false,false,false,false,false,false,false,false,false,false,false,false,false,false,false,false,false] rfl rfl (take_ofW HT_.out HW_.out (by kernel_rfl)) (fun _ _ _ h => h) (Or.inl ⟨by rfl, ?_⟩) hHeld ?_ ?_
              rotate_left
              · rintro w' ⟨s0, s1, s2, s3, s4, s5⟩; go_simp; with_reducible rfl
              rotate_left; · (simp only [Act.put, List.setIfInBounds_toArray, List.set_cons_zero, List.set_cons_succ, i64_w, i32_w]; rfl)
              refine take_ (i := 16) (N := some 92) (v := ?_) (a' := ?_) #[true,true,true,true,true,true,true,true,true,true,true,true,true,false,true,true,true,false,false,false,false,false,false,false,false,false,false,false,false,false,false,false,false,false,false,false,false] rfl rfl (take_ofW HT_.out HW_.out (by kernel_rfl)) (fun _ _ _ h => h) (Or.inl ⟨by rfl, ?_⟩) hHeld ?_ ?_
              rotate_left
              · rintro w' ⟨s0, s1, s2, s3, s4, s5⟩; go_simp; with_reducible rfl
              rotate_left; · (simp only [Act.put, List.setIfInBounds_toArray, List.set_cons_zero, List.set_cons_succ, i64_w, i32_w]; rfl)
              refine one_ (i := 13) (N := some 89) #[true,true,true,true,true,true,true,true,true,true,true,true,true,true,true,true,true,false,false,false,false,false,false,false,false,false,false,false,false,false,false,false,false,false,false,false,false] rfl rfl (one_of HT_.out (by kernel_rfl)) (by decide) (fun K hK => ?_)
              refine goes_ Try.func64 (by kernel_rfl) rfl #[.int .i64 (rd l1 1), .int .i64 8] (by rfl) rfl rfl (by (try simp only [List.map_toArray, List.map_cons, List.map_nil]); first | done | rfl | (simp only [List.length_drop, List.length_take]; rfl)) ?_
              with_reducible refine (gemotlaw17_pick.calls (rd l1 1) 8 t1033 _ A31.out).mono ?_
              rintro e w' ⟨rfl, ⟨nd, rfl⟩⟩; refine ⟨_, rfl, ?_⟩
              refine hK.out _ _ ⟨((HB.out.cell (World.block_lt_of_cell? w _ hw1028_0)).trans hw1028_0), ((HB.out.cell (World.block_lt_of_cell? w _ hw1030_0)).trans hw1030_0), ((HB.out.cell (World.block_lt_of_cell? w _ hw1032_0)).trans hw1032_0), ((HB.out.cell (World.block_lt_of_cell? w _ hw1034_0)).trans hw1034_0), ((HB.out.cell (World.block_lt_of_cell? w _ hw1036_0)).trans hw1036_0), ((HB.out.cell (World.block_lt_of_cell? w _ hw1038_0)).trans hw1038_0)⟩ (fun hHeld => ?_)
              clear hK K; refine norm_ (a' := ?_) ?_ ?_
              rotate_left
              · show Act.put _ (some 89) _ = _
                simp only [Act.put, List.setIfInBounds_toArray, List.set_cons_zero, List.set_cons_succ, i64_w, i32_w]; rfl
              refine one_ (i := 17) (N := some 93) #[true,true,true,true,true,true,true,true,true,true,true,true,true,true,true,true,true,true,false,false,false,false,false,false,false,false,false,false,false,false,false,false,false,false,false,false,false] rfl rfl (one_of HT_.out (by kernel_rfl)) (by decide) (fun K hK => ?_)
              refine goes_ Try.func64 (by kernel_rfl) rfl #[.int .i64 (rd l1 4), .int .i64 8] (by rfl) rfl rfl (by (try simp only [List.map_toArray, List.map_cons, List.map_nil]); first | done | rfl | (simp only [List.length_drop, List.length_take]; rfl)) ?_
              with_reducible refine (gemotlaw17_pick.calls (rd l1 4) 8 t1035 _ A32.out).mono ?_
              rintro e w' ⟨rfl, ⟨nd, rfl⟩⟩; refine ⟨_, rfl, ?_⟩
              refine hK.out _ _ ⟨((HB.out.cell (World.block_lt_of_cell? w _ hw1028_0)).trans hw1028_0), ((HB.out.cell (World.block_lt_of_cell? w _ hw1030_0)).trans hw1030_0), ((HB.out.cell (World.block_lt_of_cell? w _ hw1032_0)).trans hw1032_0), ((HB.out.cell (World.block_lt_of_cell? w _ hw1034_0)).trans hw1034_0), ((HB.out.cell (World.block_lt_of_cell? w _ hw1036_0)).trans hw1036_0), ((HB.out.cell (World.block_lt_of_cell? w _ hw1038_0)).trans hw1038_0)⟩ (fun hHeld => ?_)
              clear hK K; refine norm_ (a' := ?_) ?_ ?_
              rotate_left
              · show Act.put _ (some 93) _ = _
                simp only [Act.put, List.setIfInBounds_toArray, List.set_cons_zero, List.set_cons_succ, i64_w, i32_w]; rfl
              refine pure_ (i := 18) (N := some 94) (v := ?_) (a' := ?_) #[true,true,true,true,true,true,true,true,true,true,true,true,true,true,true,true,true,true,true,false,false,false,false,false,false,false,false,false,false,false,false,false,false,false,false,false,false] rfl rfl (any_of HT_.out (by kernel_rfl)) (fun _ _ _ h => h) (Or.inl ⟨by rfl, ?_⟩) ?_ ?_
              rotate_left
              · intro w'; go_simp; with_reducible rfl
              rotate_left; · (simp only [Act.put, List.setIfInBounds_toArray, List.set_cons_zero, List.set_cons_succ, i64_w, i32_w]; rfl)
              refine pure_ (i := 19) (N := some 95) (v := ?_) (a' := ?_) #[true,true,true,true,true,true,true,true,true,true,true,true,true,true,true,true,true,true,true,true,false,false,false,false,false,false,false,false,false,false,false,false,false,false,false,false,false] rfl rfl (any_of HT_.out (by kernel_rfl)) (fun _ _ _ h => h) (Or.inl ⟨by rfl, ?_⟩) ?_ ?_
              rotate_left
              · intro w'; go_simp; with_reducible rfl
              rotate_left; · (simp only [Act.put, List.setIfInBounds_toArray, List.set_cons_zero, List.set_cons_succ, i64_w, i32_w]; rfl)
              refine pure_ (i := 20) (N := some 96) (v := ?_) (a' := ?_) #[true,true,true,true,true,true,true,true,true,true,true,true,true,true,true,true,true,true,true,true,true,false,false,false,false,false,false,false,false,false,false,false,false,false,false,false,false] rfl rfl (any_of HT_.out (by kernel_rfl)) (fun _ _ _ h => h) (Or.inl ⟨by rfl, ?_⟩) ?_ ?_
              rotate_left
              · intro w'; go_simp; with_reducible rfl
              rotate_left; · (simp only [Act.put, List.setIfInBounds_toArray, List.set_cons_zero, List.set_cons_succ, i64_w, i32_w]; rfl)
              refine pure_ (i := 21) (N := some 97) (v := ?_) (a' := ?_) #[true,true,true,true,true,true,true,true,true,true,true,true,true,true,true,true,true,true,true,true,true,true,false,false,false,false,false,false,false,false,false,false,false,false,false,false,false] rfl rfl (any_of HT_.out (by kernel_rfl)) (fun _ _ _ h => h) (Or.inl ⟨by rfl, ?_⟩) ?_ ?_
              rotate_left
              · intro w'; go_simp; with_reducible rfl
              rotate_left; · (simp only [Act.put, List.setIfInBounds_toArray, List.set_cons_zero, List.set_cons_succ, i64_w, i32_w]; rfl)
              refine pure_ (i := 22) (N := some 98) (v := ?_) (a' := ?_) #[true,true,true,true,true,true,true,true,true,true,true,true,true,true,true,true,true,true,true,true,true,true,true,false,false,false,false,false,false,false,false,false,false,false,false,false,false] rfl rfl (any_of HT_.out (by kernel_rfl)) (fun _ _ _ h => h) (Or.inl ⟨by rfl, ?_⟩) ?_ ?_
              rotate_left
              · intro w'; go_simp; with_reducible rfl
              rotate_left; · (simp only [Act.put, List.setIfInBounds_toArray, List.set_cons_zero, List.set_cons_succ, i64_w, i32_w]; rfl)
              refine pure_ (i := 25) (N := some 101) (v := ?_) (a' := ?_) #[true,true,true,true,true,true,true,true,true,true,true,true,true,true,true,true,true,true,true,true,true,true,true,false,false,true,false,false,false,false,false,false,false,false,false,false,false] rfl rfl (any_of HT_.out (by kernel_rfl)) (fun _ _ _ h => h) (Or.inl ⟨by rfl, ?_⟩) ?_ ?_
              rotate_left
              · intro w'; go_simp; with_reducible rfl
              rotate_left; · (simp only [Act.put, List.setIfInBounds_toArray, List.set_cons_zero, List.set_cons_succ, i64_w, i32_w]; rfl)
              refine pure_ (i := 26) (N := some 102) (v := ?_) (a' := ?_) #[true,true,true,true,true,true,true,true,true,true,true,true,true,true,true,true,true,true,true,true,true,true,true,false,false,true,true,false,false,false,false,false,false,false,false,false,false] rfl rfl (any_of HT_.out (by kernel_rfl)) (fun _ _ _ h => h) (Or.inl ⟨by rfl, ?_⟩) ?_ ?_
              rotate_left
              · intro w'; go_simp; with_reducible rfl
              rotate_left; · (simp only [Act.put, List.setIfInBounds_toArray, List.set_cons_zero, List.set_cons_succ, i64_w, i32_w]; rfl)
              refine take_ (i := 23) (N := some 99) (v := ?_) (a' := ?_) #[true,true,true,true,true,true,true,true,true,true,true,true,true,true,true,true,true,true,true,true,true,true,true,true,false,true,true,false,false,false,false,false,false,false,false,false,false] rfl rfl (take_ofW HT_.out HW_.out (by kernel_rfl)) (fun _ _ _ h => h) (Or.inl ⟨by rfl, ?_⟩) hHeld ?_ ?_
              rotate_left
              · rintro w' ⟨s0, s1, s2, s3, s4, s5⟩; go_simp; with_reducible rfl
              rotate_left; · (simp only [Act.put, List.setIfInBounds_toArray, List.set_cons_zero, List.set_cons_succ, i64_w, i32_w]; rfl)
              refine take_ (i := 27) (N := some 103) (v := ?_) (a' := ?_) #[true,true,true,true,true,true,true,true,true,true,true,true,true,true,true,true,true,true,true,true,true,true,true,true,false,true,true,true,false,false,false,false,false,false,false,false,false] rfl rfl (take_ofW HT_.out HW_.out (by kernel_rfl)) (fun _ _ _ h => h) (Or.inl ⟨by rfl, ?_⟩) hHeld ?_ ?_
              rotate_left
              · rintro w' ⟨s0, s1, s2, s3, s4, s5⟩; go_simp; with_reducible rfl
              rotate_left; · (simp only [Act.put, List.setIfInBounds_toArray, List.set_cons_zero, List.set_cons_succ, i64_w, i32_w]; rfl)
              refine one_ (i := 24) (N := some 100) #[true,true,true,true,true,true,true,true,true,true,true,true,true,true,true,true,true,true,true,true,true,true,true,true,true,true,true,true,false,false,false,false,false,false,false,false,false] rfl rfl (one_of HT_.out (by kernel_rfl)) (by decide) (fun K hK => ?_)
              refine goes_ Try.func64 (by kernel_rfl) rfl #[.int .i64 (rd l1 2), .int .i64 32] (by rfl) rfl rfl (by (try simp only [List.map_toArray, List.map_cons, List.map_nil]); first | done | rfl | (simp only [List.length_drop, List.length_take]; rfl)) ?_
              with_reducible refine (gemotlaw17_pick.calls (rd l1 2) 32 t1037 _ A34.out).mono ?_
              rintro e w' ⟨rfl, ⟨nd, rfl⟩⟩; refine ⟨_, rfl, ?_⟩
              refine hK.out _ _ ⟨((HB.out.cell (World.block_lt_of_cell? w _ hw1028_0)).trans hw1028_0), ((HB.out.cell (World.block_lt_of_cell? w _ hw1030_0)).trans hw1030_0), ((HB.out.cell (World.block_lt_of_cell? w _ hw1032_0)).trans hw1032_0), ((HB.out.cell (World.block_lt_of_cell? w _ hw1034_0)).trans hw1034_0), ((HB.out.cell (World.block_lt_of_cell? w _ hw1036_0)).trans hw1036_0), ((HB.out.cell (World.block_lt_of_cell? w _ hw1038_0)).trans hw1038_0)⟩ (fun hHeld => ?_)
              clear hK K; refine norm_ (a' := ?_) ?_ ?_
              rotate_left
              · show Act.put _ (some 100) _ = _
                simp only [Act.put, List.setIfInBounds_toArray, List.set_cons_zero, List.set_cons_succ, i64_w, i32_w]; rfl
              refine one_ (i := 28) (N := some 104) #[true,true,true,true,true,true,true,true,true,true,true,true,true,true,true,true,true,true,true,true,true,true,true,true,true,true,true,true,true,false,false,false,false,false,false,false,false] rfl rfl (one_of HT_.out (by kernel_rfl)) (by decide) (fun K hK => ?_)
              refine goes_ Try.func64 (by kernel_rfl) rfl #[.int .i64 (rd l1 5), .int .i64 32] (by rfl) rfl rfl (by (try simp only [List.map_toArray, List.map_cons, List.map_nil]); first | done | rfl | (simp only [List.length_drop, List.length_take]; rfl)) ?_
              with_reducible refine (gemotlaw17_pick.calls (rd l1 5) 32 t1039 _ A35.out).mono ?_
              rintro e w' ⟨rfl, ⟨nd, rfl⟩⟩; refine ⟨_, rfl, ?_⟩
              refine hK.out _ _ ⟨((HB.out.cell (World.block_lt_of_cell? w _ hw1028_0)).trans hw1028_0), ((HB.out.cell (World.block_lt_of_cell? w _ hw1030_0)).trans hw1030_0), ((HB.out.cell (World.block_lt_of_cell? w _ hw1032_0)).trans hw1032_0), ((HB.out.cell (World.block_lt_of_cell? w _ hw1034_0)).trans hw1034_0), ((HB.out.cell (World.block_lt_of_cell? w _ hw1036_0)).trans hw1036_0), ((HB.out.cell (World.block_lt_of_cell? w _ hw1038_0)).trans hw1038_0)⟩ (fun hHeld => ?_)
              clear hK K; refine norm_ (a' := ?_) ?_ ?_
              rotate_left
              · show Act.put _ (some 104) _ = _
                simp only [Act.put, List.setIfInBounds_toArray, List.set_cons_zero, List.set_cons_succ, i64_w, i32_w]; rfl
              refine pure_ (i := 29) (N := some 105) (v := ?_) (a' := ?_) #[true,true,true,true,true,true,true,true,true,true,true,true,true,true,true,true,true,true,true,true,true,true,true,true,true,true,true,true,true,true,false,false,false,false,false,false,false] rfl rfl (any_of HT_.out (by kernel_rfl)) (fun _ _ _ h => h) (Or.inl ⟨by rfl, ?_⟩) ?_ ?_
              rotate_left
              · intro w'; go_simp; with_reducible rfl
              rotate_left; · (simp only [Act.put, List.setIfInBounds_toArray, List.set_cons_zero, List.set_cons_succ, i64_w, i32_w]; rfl)
              refine pure_ (i := 30) (N := some 106) (v := ?_) (a' := ?_) #[true,true,true,true,true,true,true,true,true,true,true,true,true,true,true,true,true,true,true,true,true,true,true,true,true,true,true,true,true,true,true,false,false,false,false,false,false] rfl rfl (any_of HT_.out (by kernel_rfl)) (fun _ _ _ h => h) (Or.inl ⟨by rfl, ?_⟩) ?_ ?_
              rotate_left
              · intro w'; go_simp; with_reducible rfl
              rotate_left; · (simp only [Act.put, List.setIfInBounds_toArray, List.set_cons_zero, List.set_cons_succ, i64_w, i32_w]; rfl)
              refine pure_ (i := 31) (N := some 107) (v := ?_) (a' := ?_) #[true,true,true,true,true,true,true,true,true,true,true,true,true,true,true,true,true,true,true,true,true,true,true,true,true,true,true,true,true,true,true,true,false,false,false,false,false] rfl rfl (any_of HT_.out (by kernel_rfl)) (fun _ _ _ h => h) (Or.inl ⟨by rfl, ?_⟩) ?_ ?_
              rotate_left
              · intro w'; go_simp; with_reducible rfl
              rotate_left; · (simp only [Act.put, List.setIfInBounds_toArray, List.set_cons_zero, List.set_cons_succ, i64_w, i32_w]; rfl)
              refine pure_ (i := 32) (N := some 108) (v := undef) (a' := ?_) #[true,true,true,true,true,true,true,true,true,true,true,true,true,true,true,true,true,true,true,true,true,true,true,true,true,true,true,true,true,true,true,true,true,false,false,false,false] rfl rfl (any_of HT_.out (by kernel_rfl)) (fun _ _ _ h => h) (Or.inr ⟨by rfl, rfl⟩) ?_ ?_
              rotate_left; · (simp only [Act.put, List.setIfInBounds_toArray, List.set_cons_zero, List.set_cons_succ, i64_w, i32_w]; rfl)
              refine pure_ (i := 33) (N := some 109) (v := undef) (a' := ?_) #[true,true,true,true,true,true,true,true,true,true,true,true,true,true,true,true,true,true,true,true,true,true,true,true,true,true,true,true,true,true,true,true,true,true,false,false,false] rfl rfl (any_of HT_.out (by kernel_rfl)) (fun _ _ _ h => h) (Or.inr ⟨by rfl, rfl⟩) ?_ ?_
              rotate_left; · (simp only [Act.put, List.setIfInBounds_toArray, List.set_cons_zero, List.set_cons_succ, i64_w, i32_w]; rfl)
              refine pure_ (i := 34) (N := some 110) (v := undef) (a' := ?_) #[true,true,true,true,true,true,true,true,true,true,true,true,true,true,true,true,true,true,true,true,true,true,true,true,true,true,true,true,true,true,true,true,true,true,true,false,false] rfl rfl (any_of HT_.out (by kernel_rfl)) (fun _ _ _ h => h) (Or.inr ⟨by rfl, rfl⟩) ?_ ?_
              rotate_left; · (simp only [Act.put, List.setIfInBounds_toArray, List.set_cons_zero, List.set_cons_succ, i64_w, i32_w]; rfl)
              refine pure_ (i := 35) (N := some 111) (v := ?_) (a' := ?_) #[true,true,true,true,true,true,true,true,true,true,true,true,true,true,true,true,true,true,true,true,true,true,true,true,true,true,true,true,true,true,true,true,true,true,true,true,false] rfl rfl (any_of HT_.out (by kernel_rfl)) (fun _ _ _ h => h) (Or.inl ⟨by rfl, ?_⟩) ?_ ?_
              rotate_left
              · intro w'; go_simp; with_reducible rfl
              rotate_left; · (simp only [Act.put, List.setIfInBounds_toArray, List.set_cons_zero, List.set_cons_succ, i64_w, i32_w]; rfl)
              refine pure_ (i := 36) (N := some 14) (v := ?_) (a' := ?_) #[true,true,true,true,true,true,true,true,true,true,true,true,true,true,true,true,true,true,true,true,true,true,true,true,true,true,true,true,true,true,true,true,true,true,true,true,true] rfl rfl (any_of HT_.out (by kernel_rfl)) (fun _ _ _ h => h) (Or.inl ⟨by rfl, ?_⟩) ?_ ?_
              rotate_left
              · intro w'; go_simp; with_reducible rfl
              rotate_left; · (simp only [Act.put, List.setIfInBounds_toArray, List.set_cons_zero, List.set_cons_succ, i64_w, i32_w]; rfl)
              refine done_ (done_of HT_.out (by kernel_rfl)) ?_
              try go_wp2
              go_ret
              exact ⟨by first | rfl | (simp [errW_none, errW_some] <;> rfl) | (simp [*, errW_none, errW_some] <;> rfl), by repeat (first | (with_reducible first | exact HB.out | apply below_alloc | apply pw_below_drewN | apply below_drew1) | exact HB.out)⟩
          · exact absurd (Option.some.inj (A31.out.symm.trans (HQ.out.2.trans A32.out))) c33
        · exact absurd (Option.some.inj (A28.out.symm.trans (HQ.out.1.trans A29.out))) c30
end Go.Proofs.Ytpfpmjdifnoeoaa.F
