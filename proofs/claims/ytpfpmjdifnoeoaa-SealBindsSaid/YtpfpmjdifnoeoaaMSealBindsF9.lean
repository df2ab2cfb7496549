import Derived.Test.YtpfpmjdifnoeoaaMSealBindsF0
import Derived.Test.YtpfpmjdifnoeoaaMSealBindsF56
import Derived.Test.YtpfpmjdifnoeoaaMSealBindsF59
import Derived.Test.YtpfpmjdifnoeoaaMSealBindsF61
import Derived.Test.YtpfpmjdifnoeoaaMSealBindsF63
import Derived.Test.YtpfpmjdifnoeoaaMSealBindsF64
import Derived.Test.YtpfpmjdifnoeoaaMSealBindsB1
import Derived.Test.YtpfpmjdifnoeoaaMSealBindsFE0
namespace Go.Proofs.Ytpfpmjdifnoeoaa.F
open Go.RowKit Go.Proofs.YtpfpmjdifnoeoaaW.PrintWords Go.Proofs.YtpfpmjdifnoeoaaW.PrintLast Go.Proofs.YtpfpmjdifnoeoaaW.PrintMore
attribute [local go_sem] max2_int min2_int max_two min_two max_three min_three max_four min_four
set_option linter.unusedVariables false
set_option linter.unusedSimpArgs false
attribute [local go_sem high] eqA35
mutual
def gemotlaw17_SealBinds.j0 : Nat → Int → Int → Int → Int → Int → Int → Int → Int → ByteArray → Bool → Bool → Option (Bool)
  | 0, _, _, _, _, _, _, _, _, _, _, _ => none
  | k + 1, x0, x1, x2, x3, x4, x5, x6, x7, x8, x19, x33 => if x33 = true then (some x19) else ((gemotlaw17_of.f x2).bind fun bt1002 => ((gemotlaw17_of.f x3).bind fun bt1008 => ((gemotlaw17_pick.f x4 8).bind fun t1014 => ((gemotlaw17_pick.f x5 8).bind fun t1015 => ((gemotlaw17_pick.f x6 32).bind fun t1016 => ((gemotlaw17_pick.f x7 32).bind fun t1017 => ((term_Name.f x0).bind fun t1018 => ((seal_Close.f t1018 bt1002.1 bt1002.2.1 bt1002.2.2 (wrap64 (1 + t1014)) (wrap64 (1 + t1016)) x8).bind fun bt1019 => ((term_Name.f x1).bind fun t1021 => ((seal_Open.f t1021 bt1008.1 bt1008.2.1 bt1008.2.2 (wrap64 (1 + t1015)) (wrap64 (1 + t1017)) bt1019.1).bind fun bt1022 => (if bt1019.2 = 0 then ((term_Right.f bt1019.1).bind fun t1024 => (gemotlaw17_SealBinds.j1 k x0 x1 (wrap64 (1 + t1014)) (wrap64 (1 + t1015)) (wrap64 (1 + t1016)) (wrap64 (1 + t1017)) x8 bt1022.1 bt1022.2 (!t1024) bt1002.1 bt1002.2.1 bt1002.2.2 bt1008.1 bt1008.2.1 bt1008.2.2)) else (gemotlaw17_SealBinds.j1 k x0 x1 (wrap64 (1 + t1014)) (wrap64 (1 + t1015)) (wrap64 (1 + t1016)) (wrap64 (1 + t1017)) x8 bt1022.1 bt1022.2 true bt1002.1 bt1002.2.1 bt1002.2.2 bt1008.1 bt1008.2.1 bt1008.2.2))))))))))))
def gemotlaw17_SealBinds.j1 : Nat → Int → Int → Int → Int → Int → Int → ByteArray → ByteArray → Int → Bool → Int → Int → List Int → Int → Int → List Int → Option (Bool)
  | 0, _, _, _, _, _, _, _, _, _, _, _, _, _, _, _, _ => none
  | k + 1, x0, x1, x4, x5, x6, x7, x8, x24, x25, x77, x1008000, x1008001, x1008002, x1014000, x1014001, x1014002 => if x77 = true then (none) else (if x0 = x1 then (if (!(x1008000 == x1014000) || (!(x1008001 == x1014001))) = true then (if x25 = 7 then (some (x24.toList == ([] : List UInt8))) else (none)) else (if x4 = x5 then (if x6 = x7 then (if x25 = 0 then (some (x24.toList == x8.toList)) else (none)) else (if x25 = 7 then (some (x24.toList == ([] : List UInt8))) else (none))) else (if x25 = 7 then (some (x24.toList == ([] : List UInt8))) else (none)))) else (if x25 = 6 then (some (x24.toList == ([] : List UInt8))) else (none)))
end
def gemotlaw17_SealBinds.f (k : Nat) (a0 : Int) (a1 : Int) (a2 : Int) (a3 : Int) (a4 : Int) (a5 : Int) (a6 : Int) (a7 : Int) (a8 : ByteArray) : Option (Bool) := (gemotlaw17_shown.f).bind fun t1001 => (if t1001 = true then (gemotlaw17_SealBinds.j0 k a0 a1 a2 a3 a4 a5 a6 a7 a8 t1001 (decide ((a8.size : Int) > 100))) else (gemotlaw17_SealBinds.j0 k a0 a1 a2 a3 a4 a5 a6 a7 a8 t1001 true))
def gemotlaw17_SealBinds.T10 : Bool × List (List Nat × List Nat) := (true, [([], []), ([0], [0]), ([], []), ([], []), ([], []), ([], []), ([1, 2, 3, 4, 5, 1], [1, 2, 3, 4, 5]), ([6], [6]), ([7], [7]), ([7], [7]), ([8, 6, 0, 1, 2, 3, 4, 5, 6, 7, 8], [8]), ([9, 10, 0, 1, 2, 3, 4, 5, 6, 7, 8, 9, 10], [9])])
def gemotlaw17_SealBinds.B10 : List Nat := [0, 1, 0, 0, 0, 0, 63, 127, 255, 255, 511, 2047]
theorem gemotlaw17_SealBinds.tab10 : rtab .any (opsOf Try.f9 10) = gemotlaw17_SealBinds.T10 := by kernel_rfl
theorem gemotlaw17_SealBinds.bits10 : waitsOk gemotlaw17_SealBinds.T10.2 gemotlaw17_SealBinds.B10 = true := by kernel_rfl
def gemotlaw17_SealBinds.T11 : Bool × List (List Nat × List Nat) := (true, [([], []), ([0], [0]), ([], []), ([], []), ([], []), ([], []), ([1, 2, 3, 4, 5, 1], [1, 2, 3, 4, 5]), ([6], [6]), ([7], [7]), ([7], [7]), ([8, 6, 0, 1, 2, 3, 4, 5, 6, 7, 8], [8]), ([9, 10, 0, 1, 2, 3, 4, 5, 6, 7, 8, 9, 10], [9])])
def gemotlaw17_SealBinds.B11 : List Nat := [0, 1, 0, 0, 0, 0, 63, 127, 255, 255, 511, 2047]
theorem gemotlaw17_SealBinds.tab11 : rtab .any (opsOf Try.f9 11) = gemotlaw17_SealBinds.T11 := by kernel_rfl
theorem gemotlaw17_SealBinds.bits11 : waitsOk gemotlaw17_SealBinds.T11.2 gemotlaw17_SealBinds.B11 = true := by kernel_rfl
set_option maxHeartbeats 8000000 in
set_option maxRecDepth 100000 in
theorem gemotlaw17_SealBinds.calls (k : Nat) (a0 : Int) (a1 : Int) (a2 : Int) (a3 : Int) (a4 : Int) (a5 : Int) (a6 : Int) (a7 : Int) (a8 : ByteArray) (r : Bool) (w : World) (h : gemotlaw17_SealBinds.f k a0 a1 a2 a3 a4 a5 a6 a7 a8 = some r) :
    Calls Try.prog 9 #[.int .u64 a0, .int .u64 a1, .int .i64 a2, .int .i64 a3, .int .i64 a4, .int .i64 a5, .int .i64 a6, .int .i64 a7, .string a8] w fun e w' => e = .returned (.bool r) ∧ Below w.heap.size w w' := by
  have hu65 := Try.underlying65; have hu35 := Try.underlying35; have HB := Aside0.mk (Below.refl w.heap.size w)
  have H : ((gemotlaw17_shown.f).bind fun t1001 => (if t1001 = true then (gemotlaw17_SealBinds.j0 k a0 a1 a2 a3 a4 a5 a6 a7 a8 t1001 (decide ((a8.size : Int) > 100))) else (gemotlaw17_SealBinds.j0 k a0 a1 a2 a3 a4 a5 a6 a7 a8 t1001 true))) = some r := h
  clear h; replace H := Option.bind_eq_some_iff.mp H
  obtain ⟨t1001, A100, H⟩ := H; replace H : (if t1001 = true then (gemotlaw17_SealBinds.j0 k a0 a1 a2 a3 a4 a5 a6 a7 a8 t1001 (decide ((a8.size : Int) > 100))) else (gemotlaw17_SealBinds.j0 k a0 a1 a2 a3 a4 a5 a6 a7 a8 t1001 true)) = some r := H
  have A10 := Aside0.mk A100
  clear A100; have HC11 := Aside0.mk H
  clear H; go_enter Try.func9, Try.ntmps9
  go_upto_region 2 with (first | ((with_reducible refine gate_callee (f := 56) rfl ?_); refine goesL_ (some 26) rfl rfl Try.func56 (by kernel_rfl) rfl #[] rfl (by simp only [List.map_toArray, List.map_cons, List.map_nil] <;> rfl) ?_; (with_reducible refine (gemotlaw17_shown.calls  t1001 _ A10.out).mono ?_); rintro e w12 ⟨rfl, hb⟩; refine ⟨_, rfl, ?_⟩; have n0_ := Aside0.mk (below_step (by repeat with_reducible first | exact HB.out | apply below_alloc | apply pw_below_drewN | apply below_drew1) hb); clear HB; have HB := n0_; clear n0_; (try clear hb)))
  (try simp only [Act.put, List.setIfInBounds_toArray, List.set_cons_zero, List.set_cons_succ]); go_cut [33] (fun v33 wc => ∃ (kq : Nat) (x33_10 : Bool), v33 = .bool x33_10 ∧ Aside0 (gemotlaw17_SealBinds.j0 kq a0 a1 a2 a3 a4 a5 a6 a7 a8 t1001 x33_10 = some r) ∧ Aside0 (kq ≤ k) ∧ Aside0 (Below w.heap.size w wc))
  case first =>
    have H := HC11.out; clear HC11; by_cases c13 : t1001 = true
    · subst c13; have H1 : (gemotlaw17_SealBinds.j0 k a0 a1 a2 a3 a4 a5 a6 a7 a8 true (decide ((a8.size : Int) > 100))) = some r := by rw [if_pos rfl] at H; exact H
      clear H; have H := H1; clear H1; have H' := Aside0.mk H
      clear H; go_wp2; go_meet
      case rel => exact ⟨_, (decide ((a8.size : Int) > 100)), (by first | rfl | (simp; done) | (simp [*]; done)), H', ⟨by first | omega | exact Nat.le_refl _⟩, ⟨by repeat (first | (with_reducible first | exact HB.out | apply below_alloc | apply pw_below_drewN | apply below_drew1) | exact HB.out)⟩⟩
    · replace c13 := Bool.eq_false_iff.mpr c13
      subst c13; have H1 : (gemotlaw17_SealBinds.j0 k a0 a1 a2 a3 a4 a5 a6 a7 a8 false true) = some r := by rw [if_neg (show ¬ (false = true) by decide)] at H; exact H
      clear H; have H := H1; clear H1; have H' := Aside0.mk H
      clear H; go_wp2; go_meet
      case rel => exact ⟨_, (true), (by first | rfl | (simp; done) | (simp [*]; done)), H', ⟨by first | omega | exact Nat.le_refl _⟩, ⟨by repeat (first | (with_reducible first | exact HB.out | apply below_alloc | apply pw_below_drewN | apply below_drew1) | exact HB.out)⟩⟩
  case rest =>
    clear HC11; try clear c1
    try clear p2
    try clear c5
    try clear c9
    try clear c13
    obtain ⟨kq, x33_10, rfl, HA, HJ10, HB⟩ := hcut; cases kq with
    | zero => exact absurd HA.out (by simp [gemotlaw17_SealBinds.j0])
    | succ kj10 =>
      have H := HA.out; clear HA; simp only [gemotlaw17_SealBinds.j0] at H; by_cases c14 : x33_10 = true
      · subst c14; have H1 : (some t1001) = some r := by rw [if_pos rfl] at H; exact H
        clear H; have H := H1; clear H1; obtain rfl := Option.some.inj H
        go_wp2; go_ret
        exact ⟨by first | rfl | (simp [errW_none, errW_some] <;> rfl) | (simp [*, errW_none, errW_some] <;> rfl), by repeat (first | (with_reducible first | exact HB.out | apply below_alloc | apply pw_below_drewN | apply below_drew1) | exact HB.out)⟩
      · replace c14 := Bool.eq_false_iff.mpr c14
        subst c14; have H1 : ((gemotlaw17_of.f a2).bind fun bt1002 => ((gemotlaw17_of.f a3).bind fun bt1008 => ((gemotlaw17_pick.f a4 8).bind fun t1014 => ((gemotlaw17_pick.f a5 8).bind fun t1015 => ((gemotlaw17_pick.f a6 32).bind fun t1016 => ((gemotlaw17_pick.f a7 32).bind fun t1017 => ((term_Name.f a0).bind fun t1018 => ((seal_Close.f t1018 bt1002.1 bt1002.2.1 bt1002.2.2 (wrap64 (1 + t1014)) (wrap64 (1 + t1016)) a8).bind fun bt1019 => ((term_Name.f a1).bind fun t1021 => ((seal_Open.f t1021 bt1008.1 bt1008.2.1 bt1008.2.2 (wrap64 (1 + t1015)) (wrap64 (1 + t1017)) bt1019.1).bind fun bt1022 => (if bt1019.2 = 0 then ((term_Right.f bt1019.1).bind fun t1024 => (gemotlaw17_SealBinds.j1 kj10 a0 a1 (wrap64 (1 + t1014)) (wrap64 (1 + t1015)) (wrap64 (1 + t1016)) (wrap64 (1 + t1017)) a8 bt1022.1 bt1022.2 (!t1024) bt1002.1 bt1002.2.1 bt1002.2.2 bt1008.1 bt1008.2.1 bt1008.2.2)) else (gemotlaw17_SealBinds.j1 kj10 a0 a1 (wrap64 (1 + t1014)) (wrap64 (1 + t1015)) (wrap64 (1 + t1016)) (wrap64 (1 + t1017)) a8 bt1022.1 bt1022.2 true bt1002.1 bt1002.2.1 bt1002.2.2 bt1008.1 bt1008.2.1 bt1008.2.2)))))))))))) = some r := by rw [if_neg (show ¬ (false = true) by decide)] at H; exact H
        clear H; have H := H1; clear H1; replace H := Option.bind_eq_some_iff.mp H
        obtain ⟨⟨t1002, t1003, t1004⟩, A150, H⟩ := H
        replace H : ((gemotlaw17_of.f a3).bind fun bt1008 => ((gemotlaw17_pick.f a4 8).bind fun t1014 => ((gemotlaw17_pick.f a5 8).bind fun t1015 => ((gemotlaw17_pick.f a6 32).bind fun t1016 => ((gemotlaw17_pick.f a7 32).bind fun t1017 => ((term_Name.f a0).bind fun t1018 => ((seal_Close.f t1018 t1002 t1003 t1004 (wrap64 (1 + t1014)) (wrap64 (1 + t1016)) a8).bind fun bt1019 => ((term_Name.f a1).bind fun t1021 => ((seal_Open.f t1021 bt1008.1 bt1008.2.1 bt1008.2.2 (wrap64 (1 + t1015)) (wrap64 (1 + t1017)) bt1019.1).bind fun bt1022 => (if bt1019.2 = 0 then ((term_Right.f bt1019.1).bind fun t1024 => (gemotlaw17_SealBinds.j1 kj10 a0 a1 (wrap64 (1 + t1014)) (wrap64 (1 + t1015)) (wrap64 (1 + t1016)) (wrap64 (1 + t1017)) a8 bt1022.1 bt1022.2 (!t1024) t1002 t1003 t1004 bt1008.1 bt1008.2.1 bt1008.2.2)) else (gemotlaw17_SealBinds.j1 kj10 a0 a1 (wrap64 (1 + t1014)) (wrap64 (1 + t1015)) (wrap64 (1 + t1016)) (wrap64 (1 + t1017)) a8 bt1022.1 bt1022.2 true t1002 t1003 t1004 bt1008.1 bt1008.2.1 bt1008.2.2))))))))))) = some r := H
        have A15 := Aside0.mk A150
        clear A150; replace H := Option.bind_eq_some_iff.mp H
        obtain ⟨⟨t1008, t1009, t1010⟩, A160, H⟩ := H
        replace H : ((gemotlaw17_pick.f a4 8).bind fun t1014 => ((gemotlaw17_pick.f a5 8).bind fun t1015 => ((gemotlaw17_pick.f a6 32).bind fun t1016 => ((gemotlaw17_pick.f a7 32).bind fun t1017 => ((term_Name.f a0).bind fun t1018 => ((seal_Close.f t1018 t1002 t1003 t1004 (wrap64 (1 + t1014)) (wrap64 (1 + t1016)) a8).bind fun bt1019 => ((term_Name.f a1).bind fun t1021 => ((seal_Open.f t1021 t1008 t1009 t1010 (wrap64 (1 + t1015)) (wrap64 (1 + t1017)) bt1019.1).bind fun bt1022 => (if bt1019.2 = 0 then ((term_Right.f bt1019.1).bind fun t1024 => (gemotlaw17_SealBinds.j1 kj10 a0 a1 (wrap64 (1 + t1014)) (wrap64 (1 + t1015)) (wrap64 (1 + t1016)) (wrap64 (1 + t1017)) a8 bt1022.1 bt1022.2 (!t1024) t1002 t1003 t1004 t1008 t1009 t1010)) else (gemotlaw17_SealBinds.j1 kj10 a0 a1 (wrap64 (1 + t1014)) (wrap64 (1 + t1015)) (wrap64 (1 + t1016)) (wrap64 (1 + t1017)) a8 bt1022.1 bt1022.2 true t1002 t1003 t1004 t1008 t1009 t1010)))))))))) = some r := H
        have A16 := Aside0.mk A160
        clear A160; replace H := Option.bind_eq_some_iff.mp H
        obtain ⟨t1014, A170, H⟩ := H; replace H : ((gemotlaw17_pick.f a5 8).bind fun t1015 => ((gemotlaw17_pick.f a6 32).bind fun t1016 => ((gemotlaw17_pick.f a7 32).bind fun t1017 => ((term_Name.f a0).bind fun t1018 => ((seal_Close.f t1018 t1002 t1003 t1004 (wrap64 (1 + t1014)) (wrap64 (1 + t1016)) a8).bind fun bt1019 => ((term_Name.f a1).bind fun t1021 => ((seal_Open.f t1021 t1008 t1009 t1010 (wrap64 (1 + t1015)) (wrap64 (1 + t1017)) bt1019.1).bind fun bt1022 => (if bt1019.2 = 0 then ((term_Right.f bt1019.1).bind fun t1024 => (gemotlaw17_SealBinds.j1 kj10 a0 a1 (wrap64 (1 + t1014)) (wrap64 (1 + t1015)) (wrap64 (1 + t1016)) (wrap64 (1 + t1017)) a8 bt1022.1 bt1022.2 (!t1024) t1002 t1003 t1004 t1008 t1009 t1010)) else (gemotlaw17_SealBinds.j1 kj10 a0 a1 (wrap64 (1 + t1014)) (wrap64 (1 + t1015)) (wrap64 (1 + t1016)) (wrap64 (1 + t1017)) a8 bt1022.1 bt1022.2 true t1002 t1003 t1004 t1008 t1009 t1010))))))))) = some r := H
        have A17 := Aside0.mk A170
        clear A170; replace H := Option.bind_eq_some_iff.mp H
        obtain ⟨t1015, A180, H⟩ := H; replace H : ((gemotlaw17_pick.f a6 32).bind fun t1016 => ((gemotlaw17_pick.f a7 32).bind fun t1017 => ((term_Name.f a0).bind fun t1018 => ((seal_Close.f t1018 t1002 t1003 t1004 (wrap64 (1 + t1014)) (wrap64 (1 + t1016)) a8).bind fun bt1019 => ((term_Name.f a1).bind fun t1021 => ((seal_Open.f t1021 t1008 t1009 t1010 (wrap64 (1 + t1015)) (wrap64 (1 + t1017)) bt1019.1).bind fun bt1022 => (if bt1019.2 = 0 then ((term_Right.f bt1019.1).bind fun t1024 => (gemotlaw17_SealBinds.j1 kj10 a0 a1 (wrap64 (1 + t1014)) (wrap64 (1 + t1015)) (wrap64 (1 + t1016)) (wrap64 (1 + t1017)) a8 bt1022.1 bt1022.2 (!t1024) t1002 t1003 t1004 t1008 t1009 t1010)) else (gemotlaw17_SealBinds.j1 kj10 a0 a1 (wrap64 (1 + t1014)) (wrap64 (1 + t1015)) (wrap64 (1 + t1016)) (wrap64 (1 + t1017)) a8 bt1022.1 bt1022.2 true t1002 t1003 t1004 t1008 t1009 t1010)))))))) = some r := H
        have A18 := Aside0.mk A180
        clear A180; replace H := Option.bind_eq_some_iff.mp H
        obtain ⟨t1016, A190, H⟩ := H; replace H : ((gemotlaw17_pick.f a7 32).bind fun t1017 => ((term_Name.f a0).bind fun t1018 => ((seal_Close.f t1018 t1002 t1003 t1004 (wrap64 (1 + t1014)) (wrap64 (1 + t1016)) a8).bind fun bt1019 => ((term_Name.f a1).bind fun t1021 => ((seal_Open.f t1021 t1008 t1009 t1010 (wrap64 (1 + t1015)) (wrap64 (1 + t1017)) bt1019.1).bind fun bt1022 => (if bt1019.2 = 0 then ((term_Right.f bt1019.1).bind fun t1024 => (gemotlaw17_SealBinds.j1 kj10 a0 a1 (wrap64 (1 + t1014)) (wrap64 (1 + t1015)) (wrap64 (1 + t1016)) (wrap64 (1 + t1017)) a8 bt1022.1 bt1022.2 (!t1024) t1002 t1003 t1004 t1008 t1009 t1010)) else (gemotlaw17_SealBinds.j1 kj10 a0 a1 (wrap64 (1 + t1014)) (wrap64 (1 + t1015)) (wrap64 (1 + t1016)) (wrap64 (1 + t1017)) a8 bt1022.1 bt1022.2 true t1002 t1003 t1004 t1008 t1009 t1010))))))) = some r := H
        have A19 := Aside0.mk A190
        clear A190; replace H := Option.bind_eq_some_iff.mp H
        obtain ⟨t1017, A200, H⟩ := H; replace H : ((term_Name.f a0).bind fun t1018 => ((seal_Close.f t1018 t1002 t1003 t1004 (wrap64 (1 + t1014)) (wrap64 (1 + t1016)) a8).bind fun bt1019 => ((term_Name.f a1).bind fun t1021 => ((seal_Open.f t1021 t1008 t1009 t1010 (wrap64 (1 + t1015)) (wrap64 (1 + t1017)) bt1019.1).bind fun bt1022 => (if bt1019.2 = 0 then ((term_Right.f bt1019.1).bind fun t1024 => (gemotlaw17_SealBinds.j1 kj10 a0 a1 (wrap64 (1 + t1014)) (wrap64 (1 + t1015)) (wrap64 (1 + t1016)) (wrap64 (1 + t1017)) a8 bt1022.1 bt1022.2 (!t1024) t1002 t1003 t1004 t1008 t1009 t1010)) else (gemotlaw17_SealBinds.j1 kj10 a0 a1 (wrap64 (1 + t1014)) (wrap64 (1 + t1015)) (wrap64 (1 + t1016)) (wrap64 (1 + t1017)) a8 bt1022.1 bt1022.2 true t1002 t1003 t1004 t1008 t1009 t1010)))))) = some r := H
        have A20 := Aside0.mk A200
        clear A200; replace H := Option.bind_eq_some_iff.mp H
        obtain ⟨t1018, A210, H⟩ := H; replace H : ((seal_Close.f t1018 t1002 t1003 t1004 (wrap64 (1 + t1014)) (wrap64 (1 + t1016)) a8).bind fun bt1019 => ((term_Name.f a1).bind fun t1021 => ((seal_Open.f t1021 t1008 t1009 t1010 (wrap64 (1 + t1015)) (wrap64 (1 + t1017)) bt1019.1).bind fun bt1022 => (if bt1019.2 = 0 then ((term_Right.f bt1019.1).bind fun t1024 => (gemotlaw17_SealBinds.j1 kj10 a0 a1 (wrap64 (1 + t1014)) (wrap64 (1 + t1015)) (wrap64 (1 + t1016)) (wrap64 (1 + t1017)) a8 bt1022.1 bt1022.2 (!t1024) t1002 t1003 t1004 t1008 t1009 t1010)) else (gemotlaw17_SealBinds.j1 kj10 a0 a1 (wrap64 (1 + t1014)) (wrap64 (1 + t1015)) (wrap64 (1 + t1016)) (wrap64 (1 + t1017)) a8 bt1022.1 bt1022.2 true t1002 t1003 t1004 t1008 t1009 t1010))))) = some r := H
        have A21 := Aside0.mk A210
        clear A210; replace H := Option.bind_eq_some_iff.mp H
        obtain ⟨⟨t1019, t1020⟩, A220, H⟩ := H
        replace H : ((term_Name.f a1).bind fun t1021 => ((seal_Open.f t1021 t1008 t1009 t1010 (wrap64 (1 + t1015)) (wrap64 (1 + t1017)) t1019).bind fun bt1022 => (if t1020 = 0 then ((term_Right.f t1019).bind fun t1024 => (gemotlaw17_SealBinds.j1 kj10 a0 a1 (wrap64 (1 + t1014)) (wrap64 (1 + t1015)) (wrap64 (1 + t1016)) (wrap64 (1 + t1017)) a8 bt1022.1 bt1022.2 (!t1024) t1002 t1003 t1004 t1008 t1009 t1010)) else (gemotlaw17_SealBinds.j1 kj10 a0 a1 (wrap64 (1 + t1014)) (wrap64 (1 + t1015)) (wrap64 (1 + t1016)) (wrap64 (1 + t1017)) a8 bt1022.1 bt1022.2 true t1002 t1003 t1004 t1008 t1009 t1010)))) = some r := H
        have A22 := Aside0.mk A220
        clear A220; replace H := Option.bind_eq_some_iff.mp H
        obtain ⟨t1021, A230, H⟩ := H; replace H : ((seal_Open.f t1021 t1008 t1009 t1010 (wrap64 (1 + t1015)) (wrap64 (1 + t1017)) t1019).bind fun bt1022 => (if t1020 = 0 then ((term_Right.f t1019).bind fun t1024 => (gemotlaw17_SealBinds.j1 kj10 a0 a1 (wrap64 (1 + t1014)) (wrap64 (1 + t1015)) (wrap64 (1 + t1016)) (wrap64 (1 + t1017)) a8 bt1022.1 bt1022.2 (!t1024) t1002 t1003 t1004 t1008 t1009 t1010)) else (gemotlaw17_SealBinds.j1 kj10 a0 a1 (wrap64 (1 + t1014)) (wrap64 (1 + t1015)) (wrap64 (1 + t1016)) (wrap64 (1 + t1017)) a8 bt1022.1 bt1022.2 true t1002 t1003 t1004 t1008 t1009 t1010))) = some r := H
        have A23 := Aside0.mk A230
        clear A230; replace H := Option.bind_eq_some_iff.mp H
        obtain ⟨⟨t1022, t1023⟩, A240, H⟩ := H
        replace H : (if t1020 = 0 then ((term_Right.f t1019).bind fun t1024 => (gemotlaw17_SealBinds.j1 kj10 a0 a1 (wrap64 (1 + t1014)) (wrap64 (1 + t1015)) (wrap64 (1 + t1016)) (wrap64 (1 + t1017)) a8 t1022 t1023 (!t1024) t1002 t1003 t1004 t1008 t1009 t1010)) else (gemotlaw17_SealBinds.j1 kj10 a0 a1 (wrap64 (1 + t1014)) (wrap64 (1 + t1015)) (wrap64 (1 + t1016)) (wrap64 (1 + t1017)) a8 t1022 t1023 true t1002 t1003 t1004 t1008 t1009 t1010)) = some r := H
        have A24 := Aside0.mk A240
        clear A240; have HC25 := Aside0.mk H
        clear H; try go_wp2_with (first | ((with_reducible refine gate_callee (f := 63) rfl ?_); refine goesL_ (some 36) rfl rfl Try.func63 (by kernel_rfl) rfl #[.int .i64 a2] rfl (by simp only [List.map_toArray, List.map_cons, List.map_nil] <;> rfl) ?_; (with_reducible refine (gemotlaw17_of.calls a2 t1002 t1003 t1004 _ A15.out).mono ?_); rintro e w26 ⟨v1005, rfl, ho0, hb⟩; refine ⟨_, rfl, ?_⟩; have n0_ := Aside0.mk (Kd.V_lower (Kd.V_mono (ok' := fun k_ => True) ho0 (fun k_ hk_ => trivial)) (below_size (by repeat with_reducible first | exact HB.out | apply below_alloc | apply pw_below_drewN | apply below_drew1))); have n1_ := Aside0.mk (below_step (by repeat with_reducible first | exact HB.out | apply below_alloc | apply pw_below_drewN | apply below_drew1) hb); clear HB; have HO1006 := n0_; have HB := n1_; clear n0_ n1_; (try clear hb); (try clear ho0)) | ((with_reducible refine gate_dst (N := 20) rfl ?_); refine box_event ?hg (N := 20) ?hd (cs := #[.int .i64 0, .int .i64 0, .slice none 0 0]) (t := 65) ?hr ?_; (case hd => rfl); (case hg => rfl); (case hr => first | (go_simp; done) | (go_simp; rfl)); intro gb1007 hg w27 hbox hb; have n0_ := Aside0.mk (Kd.V_below (Kd.V_elderB (by (with_reducible repeat (first | apply Kd.V_alloc | apply Kd.V_drewN | apply Kd.V_drew)); exact HO1006.out) gb1007 (Nat.le_of_eq hg.symm)) hb); have n1_ := Aside0.mk (below_step (by repeat with_reducible first | exact HB.out | apply below_alloc | apply pw_below_drewN | apply below_drew1) hb); have n2_ := Aside0.mk (hbox); have n3_ := Aside0.mk ((by rw [hg]; exact (below_size (by repeat with_reducible first | exact HB.out | apply below_alloc | apply pw_below_drewN | apply below_drew1)) : w.heap.size ≤ gb1007)); have n4_ := Aside0.mk ((by rw [hg]; exact (below_size (by repeat with_reducible first | exact HB.out | apply below_alloc | apply pw_below_drewN | apply below_drew1)) : w.heap.size ≤ gb1007)); clear HO1006; clear HB; have HO1006 := n0_; have HB := n1_; have BK1007 := n2_; have GW1007 := n3_; have GE1007 := n4_; clear n0_ n1_ n2_ n3_ n4_; clear hb hbox hg; have hcz28_0 : w27.cell? ⟨gb1007, 0, none⟩ = some (.int .i64 0) := (blk_cell BK1007.out 0).trans rfl; have hcz28_1 : w27.cell? ⟨gb1007, 1, none⟩ = some (.int .i64 0) := (blk_cell BK1007.out 1).trans rfl; have hcz28_2 : w27.cell? ⟨gb1007, 2, none⟩ = some (.slice none 0 0) := (blk_cell BK1007.out 2).trans rfl; have hfz28_0 := blk_frozen BK1007.out 0; have hfz28_1 := blk_frozen BK1007.out 1; have hfz28_2 := blk_frozen BK1007.out 2; obtain ⟨Ao29, co29, eo29⟩ := Kd.V_slice HO1006.out; subst eo29) | ((with_reducible refine gate_callee (f := 63) rfl ?_); refine goesL_ (some 38) rfl rfl Try.func63 (by kernel_rfl) rfl #[.int .i64 a3] rfl (by simp only [List.map_toArray, List.map_cons, List.map_nil] <;> rfl) ?_; (with_reducible refine (gemotlaw17_of.calls a3 t1008 t1009 t1010 _ A16.out).mono ?_); rintro e w30 ⟨v1011, rfl, ho0, hb⟩; refine ⟨_, rfl, ?_⟩; have n0_ := Aside0.mk (Kd.V_below (by (with_reducible repeat (first | apply Kd.V_alloc | apply Kd.V_drewN | apply Kd.V_drew)); exact (Kd.V_mono (Kd.V_far (p := ⟨gb1007, 2, none⟩) (Kd.V_far (p := ⟨gb1007, 1, none⟩) (Kd.V_far (p := ⟨gb1007, 0, none⟩) (Kd.V_mono HO1006.out (fun k_ hk => (⟨hk, hk.2⟩ : _ ∧ k_ ≠ gb1007))) (fun _ hk => hk.2) (.int .i64 t1002)) (fun _ hk => hk.2) (.int .i64 t1003)) (fun _ hk => hk.2) (.slice Ao29 t1004.length co29)) (fun _ h_ => h_.1))) hb); have n1_ := Aside0.mk (Kd.V_lower (Kd.V_mono (ok' := fun k_ => k_ ≠ gb1007) ho0 (fun k_ hk_ => (Kd.freshB (g := gb1007) (o := .cells #[.int .i64 t1002, .int .i64 t1003, .slice Ao29 t1004.length co29] 65 (0, 0)) (by (with_reducible repeat (first | refine blk_drewN ?_ _ | refine blk_drew ?_ | refine blk_alloc ?_ _)); refine blk_put (cs := #[.int .i64 t1002, .int .i64 t1003, .slice none 0 0]) ?_ 2 _ rfl; (with_reducible repeat (first | refine blk_drewN ?_ _ | refine blk_drew ?_ | refine blk_alloc ?_ _)); refine blk_put (cs := #[.int .i64 t1002, .int .i64 0, .slice none 0 0]) ?_ 1 _ rfl; (with_reducible repeat (first | refine blk_drewN ?_ _ | refine blk_drew ?_ | refine blk_alloc ?_ _)); refine blk_put (cs := #[.int .i64 0, .int .i64 0, .slice none 0 0]) ?_ 0 _ rfl; (with_reducible repeat (first | refine blk_drewN ?_ _ | refine blk_drew ?_ | refine blk_alloc ?_ _)); exact BK1007.out) k_ hk_))) (below_size (by repeat (with_reducible first | exact HB.out | apply below_alloc | apply pw_below_drewN | apply below_drew1 | refine below_set ?_ GE1007.out)))); have n2_ := Aside0.mk (blk_below (g := gb1007) (o := .cells #[.int .i64 t1002, .int .i64 t1003, .slice Ao29 t1004.length co29] 65 (0, 0)) (by (with_reducible repeat (first | refine blk_drewN ?_ _ | refine blk_drew ?_ | refine blk_alloc ?_ _)); refine blk_put (cs := #[.int .i64 t1002, .int .i64 t1003, .slice none 0 0]) ?_ 2 _ rfl; (with_reducible repeat (first | refine blk_drewN ?_ _ | refine blk_drew ?_ | refine blk_alloc ?_ _)); refine blk_put (cs := #[.int .i64 t1002, .int .i64 0, .slice none 0 0]) ?_ 1 _ rfl; (with_reducible repeat (first | refine blk_drewN ?_ _ | refine blk_drew ?_ | refine blk_alloc ?_ _)); refine blk_put (cs := #[.int .i64 0, .int .i64 0, .slice none 0 0]) ?_ 0 _ rfl; (with_reducible repeat (first | refine blk_drewN ?_ _ | refine blk_drew ?_ | refine blk_alloc ?_ _)); exact BK1007.out) hb); have n3_ := Aside0.mk (below_step (by repeat (with_reducible first | exact HB.out | apply below_alloc | apply pw_below_drewN | apply below_drew1 | refine below_set ?_ GE1007.out)) hb); clear HO1006; clear BK1007; clear HB; have HO1006 := n0_; have HO1012 := n1_; have BK1007 := n2_; have HB := n3_; clear n0_ n1_ n2_ n3_; (try clear hb); (try clear ho0)) | ((with_reducible refine gate_dst (N := 21) rfl ?_); refine box_event ?hg (N := 21) ?hd (cs := #[.int .i64 0, .int .i64 0, .slice none 0 0]) (t := 65) ?hr ?_; (case hd => rfl); (case hg => rfl); (case hr => first | (go_simp; done) | (go_simp; rfl)); intro gb1013 hg w31 hbox hb; have n0_ := Aside0.mk (Kd.V_below (Kd.V_elderB (by (with_reducible repeat (first | apply Kd.V_alloc | apply Kd.V_drewN | apply Kd.V_drew)); exact HO1006.out) gb1013 (Nat.le_of_eq hg.symm)) hb); have n1_ := Aside0.mk (Kd.V_below (Kd.V_elderB (by (with_reducible repeat (first | apply Kd.V_alloc | apply Kd.V_drewN | apply Kd.V_drew)); exact HO1012.out) gb1013 (Nat.le_of_eq hg.symm)) hb); have n2_ := Aside0.mk (blk_below (g := gb1007) (o := .cells #[.int .i64 t1002, .int .i64 t1003, .slice Ao29 t1004.length co29] 65 (0, 0)) (by (with_reducible repeat (first | refine blk_drewN ?_ _ | refine blk_drew ?_ | refine blk_alloc ?_ _)); exact BK1007.out) hb); have n3_ := Aside0.mk (below_step (by repeat (with_reducible first | exact HB.out | apply below_alloc | apply pw_below_drewN | apply below_drew1 | refine below_set ?_ GE1007.out)) hb); have n4_ := Aside0.mk (hbox); have n5_ := Aside0.mk ((by rw [hg]; exact (below_size (by repeat (with_reducible first | exact HB.out | apply below_alloc | apply pw_below_drewN | apply below_drew1 | refine below_set ?_ GE1007.out))) : w.heap.size ≤ gb1013)); have n6_ := Aside0.mk ((by rw [hg]; exact (below_size (by repeat (with_reducible first | exact HB.out | apply below_alloc | apply pw_below_drewN | apply below_drew1 | refine below_set ?_ GE1007.out))) : w.heap.size ≤ gb1013)); have n7_ := Aside0.mk ((by rw [hg]; exact Nat.ne_of_lt (blk_lt (g := gb1007) (o := .cells #[.int .i64 t1002, .int .i64 t1003, .slice Ao29 t1004.length co29] 65 (0, 0)) (by (with_reducible repeat (first | refine blk_drewN ?_ _ | refine blk_drew ?_ | refine blk_alloc ?_ _)); exact BK1007.out)) : gb1007 ≠ gb1013)); have n8_ := Aside0.mk ((by rw [hg]; exact Nat.ne_of_gt (blk_lt (g := gb1007) (o := .cells #[.int .i64 t1002, .int .i64 t1003, .slice Ao29 t1004.length co29] 65 (0, 0)) (by (with_reducible repeat (first | refine blk_drewN ?_ _ | refine blk_drew ?_ | refine blk_alloc ?_ _)); exact BK1007.out)) : gb1013 ≠ gb1007)); clear HO1006; clear HO1012; clear BK1007; clear HB; have HO1006 := n0_; have HO1012 := n1_; have BK1007 := n2_; have HB := n3_; have BK1013 := n4_; have GW1013 := n5_; have GE1013 := n6_; have NB1007_1013 := n7_; have NB1013_1007 := n8_; clear n0_ n1_ n2_ n3_ n4_ n5_ n6_ n7_ n8_; clear hb hbox hg; have hnb32 := NB1013_1007.out; have hnc32 := NB1007_1013.out; have hcz33_0 : w31.cell? ⟨gb1013, 0, none⟩ = some (.int .i64 0) := (blk_cell BK1013.out 0).trans rfl; have hcz33_1 : w31.cell? ⟨gb1013, 1, none⟩ = some (.int .i64 0) := (blk_cell BK1013.out 1).trans rfl; have hcz33_2 : w31.cell? ⟨gb1013, 2, none⟩ = some (.slice none 0 0) := (blk_cell BK1013.out 2).trans rfl; have hfz33_0 := blk_frozen BK1013.out 0; have hfz33_1 := blk_frozen BK1013.out 1; have hfz33_2 := blk_frozen BK1013.out 2; obtain ⟨Ao34, co34, eo34⟩ := Kd.V_slice HO1012.out; subst eo34) | ((with_reducible refine gate_callee (f := 64) rfl ?_); refine goesL_ (some 40) rfl rfl Try.func64 (by kernel_rfl) rfl #[.int .i64 a4, .int .i64 8] rfl (by simp only [List.map_toArray, List.map_cons, List.map_nil] <;> rfl) ?_; (with_reducible refine (gemotlaw17_pick.calls a4 8 t1014 _ A17.out).mono ?_); rintro e w' ⟨rfl, ⟨nd, rfl⟩⟩; refine ⟨_, rfl, ?_⟩) | ((with_reducible refine gate_callee (f := 64) rfl ?_); refine goesL_ (some 43) rfl rfl Try.func64 (by kernel_rfl) rfl #[.int .i64 a5, .int .i64 8] rfl (by simp only [List.map_toArray, List.map_cons, List.map_nil] <;> rfl) ?_; (with_reducible refine (gemotlaw17_pick.calls a5 8 t1015 _ A18.out).mono ?_); rintro e w' ⟨rfl, ⟨nd, rfl⟩⟩; refine ⟨_, rfl, ?_⟩) | ((with_reducible refine gate_callee (f := 64) rfl ?_); refine goesL_ (some 46) rfl rfl Try.func64 (by kernel_rfl) rfl #[.int .i64 a6, .int .i64 32] rfl (by simp only [List.map_toArray, List.map_cons, List.map_nil] <;> rfl) ?_; (with_reducible refine (gemotlaw17_pick.calls a6 32 t1016 _ A19.out).mono ?_); rintro e w' ⟨rfl, ⟨nd, rfl⟩⟩; refine ⟨_, rfl, ?_⟩) | ((with_reducible refine gate_callee (f := 64) rfl ?_); refine goesL_ (some 49) rfl rfl Try.func64 (by kernel_rfl) rfl #[.int .i64 a7, .int .i64 32] rfl (by simp only [List.map_toArray, List.map_cons, List.map_nil] <;> rfl) ?_; (with_reducible refine (gemotlaw17_pick.calls a7 32 t1017 _ A20.out).mono ?_); rintro e w' ⟨rfl, ⟨nd, rfl⟩⟩; refine ⟨_, rfl, ?_⟩))
        have n0_ : Aside0 (Kd.V (Kd.int .i64) 3 (((w31.setCell ⟨gb1013, 0, none⟩ (.int .i64 t1008)).setCell ⟨gb1013, 1, none⟩ (.int .i64 t1009)).setCell ⟨gb1013, 2, none⟩ (.slice Ao34 t1010.length co34)) w.heap.size (fun k_ => k_ ≠ gb1007 ∧ k_ ≠ gb1013) (.slice Ao29 t1004.length co29) t1004) := ⟨by (with_reducible repeat (first | apply Kd.V_alloc | apply Kd.V_drewN | apply Kd.V_drew)); exact Kd.V_mono (Kd.V_far (p := ⟨gb1013, 2, none⟩) (Kd.V_far (p := ⟨gb1013, 1, none⟩) (Kd.V_far (p := ⟨gb1013, 0, none⟩) (Kd.V_mono HO1006.out (fun k_ hk => (⟨hk, hk.2⟩ : _ ∧ k_ ≠ gb1013))) (fun _ hk => hk.2) (.int .i64 t1008)) (fun _ hk => hk.2) (.int .i64 t1009)) (fun _ hk => hk.2) (.slice Ao34 t1010.length co34)) (fun _ hk => ⟨hk.1.1.2, hk.1.2⟩)⟩
        have n1_ : Aside0 (Kd.V (Kd.int .i64) 3 (((w31.setCell ⟨gb1013, 0, none⟩ (.int .i64 t1008)).setCell ⟨gb1013, 1, none⟩ (.int .i64 t1009)).setCell ⟨gb1013, 2, none⟩ (.slice Ao34 t1010.length co34)) w.heap.size (fun k_ => k_ ≠ gb1007 ∧ k_ ≠ gb1013) (.slice Ao34 t1010.length co34) t1010) := ⟨by (with_reducible repeat (first | apply Kd.V_alloc | apply Kd.V_drewN | apply Kd.V_drew)); exact Kd.V_mono (Kd.V_far (p := ⟨gb1013, 2, none⟩) (Kd.V_far (p := ⟨gb1013, 1, none⟩) (Kd.V_far (p := ⟨gb1013, 0, none⟩) (Kd.V_mono HO1012.out (fun k_ hk => (⟨hk, hk.2⟩ : _ ∧ k_ ≠ gb1013))) (fun _ hk => hk.2) (.int .i64 t1008)) (fun _ hk => hk.2) (.int .i64 t1009)) (fun _ hk => hk.2) (.slice Ao34 t1010.length co34)) (fun _ hk => ⟨hk.1.1, hk.1.2⟩)⟩
        have n2_ : Aside0 ((((w31.setCell ⟨gb1013, 0, none⟩ (.int .i64 t1008)).setCell ⟨gb1013, 1, none⟩ (.int .i64 t1009)).setCell ⟨gb1013, 2, none⟩ (.slice Ao34 t1010.length co34)).heap[gb1007]? = some (.cells #[.int .i64 t1002, .int .i64 t1003, .slice Ao29 t1004.length co29] 65 (0, 0))) := ⟨by (with_reducible repeat (first | refine blk_drewN ?_ _ | refine blk_drew ?_ | refine blk_alloc ?_ _)); refine blk_far ?_ NB1007_1013.out _; (with_reducible repeat (first | refine blk_drewN ?_ _ | refine blk_drew ?_ | refine blk_alloc ?_ _)); refine blk_far ?_ NB1007_1013.out _; (with_reducible repeat (first | refine blk_drewN ?_ _ | refine blk_drew ?_ | refine blk_alloc ?_ _)); refine blk_far ?_ NB1007_1013.out _; (with_reducible repeat (first | refine blk_drewN ?_ _ | refine blk_drew ?_ | refine blk_alloc ?_ _)); exact BK1007.out⟩
        have n3_ : Aside0 ((((w31.setCell ⟨gb1013, 0, none⟩ (.int .i64 t1008)).setCell ⟨gb1013, 1, none⟩ (.int .i64 t1009)).setCell ⟨gb1013, 2, none⟩ (.slice Ao34 t1010.length co34)).heap[gb1013]? = some (.cells #[.int .i64 t1008, .int .i64 t1009, .slice Ao34 t1010.length co34] 65 (0, 0))) := ⟨by (with_reducible repeat (first | refine blk_drewN ?_ _ | refine blk_drew ?_ | refine blk_alloc ?_ _)); refine blk_put (cs := #[.int .i64 t1008, .int .i64 t1009, .slice none 0 0]) ?_ 2 _ rfl; (with_reducible repeat (first | refine blk_drewN ?_ _ | refine blk_drew ?_ | refine blk_alloc ?_ _)); refine blk_put (cs := #[.int .i64 t1008, .int .i64 0, .slice none 0 0]) ?_ 1 _ rfl; (with_reducible repeat (first | refine blk_drewN ?_ _ | refine blk_drew ?_ | refine blk_alloc ?_ _)); refine blk_put (cs := #[.int .i64 0, .int .i64 0, .slice none 0 0]) ?_ 0 _ rfl; (with_reducible repeat (first | refine blk_drewN ?_ _ | refine blk_drew ?_ | refine blk_alloc ?_ _)); exact BK1013.out⟩
        have n4_ : Aside0 (Below w.heap.size w (((w31.setCell ⟨gb1013, 0, none⟩ (.int .i64 t1008)).setCell ⟨gb1013, 1, none⟩ (.int .i64 t1009)).setCell ⟨gb1013, 2, none⟩ (.slice Ao34 t1010.length co34))) := ⟨by repeat (first | (with_reducible first | exact HB.out | apply below_alloc | apply pw_below_drewN | apply below_drew1 | refine below_set ?_ GE1007.out | refine below_set ?_ GE1013.out) | exact HB.out)⟩
        (try clear HO1006); (try clear HO1012); (try clear BK1007); (try clear BK1013); (try clear HB); generalize (((w31.setCell ⟨gb1013, 0, none⟩ (.int .i64 t1008)).setCell ⟨gb1013, 1, none⟩ (.int .i64 t1009)).setCell ⟨gb1013, 2, none⟩ (.slice Ao34 t1010.length co34)) = w35 at n0_ n1_ n2_ n3_ n4_ ⊢
        have HO1006 := n0_; have HO1012 := n1_; have BK1007 := n2_; have BK1013 := n3_; have HB := n4_; clear n0_ n1_ n2_ n3_ n4_; (try (rw [drewN_self w35]; generalize hq_ : World.drewN w35 _ = w35; have n0_ : Aside0 (Kd.V (Kd.int .i64) 3 w35 w.heap.size (fun k_ => k_ ≠ gb1007 ∧ k_ ≠ gb1013) (.slice Ao29 t1004.length co29) t1004) := ⟨by rw [← hq_]; exact (by (with_reducible repeat (first | apply Kd.V_alloc | apply Kd.V_drewN | apply Kd.V_drew)); exact HO1006.out)⟩; have n1_ : Aside0 (Kd.V (Kd.int .i64) 3 w35 w.heap.size (fun k_ => k_ ≠ gb1007 ∧ k_ ≠ gb1013) (.slice Ao34 t1010.length co34) t1010) := ⟨by rw [← hq_]; exact (by (with_reducible repeat (first | apply Kd.V_alloc | apply Kd.V_drewN | apply Kd.V_drew)); exact HO1012.out)⟩; have n2_ : Aside0 (w35.heap[gb1007]? = some (.cells #[.int .i64 t1002, .int .i64 t1003, .slice Ao29 t1004.length co29] 65 (0, 0))) := ⟨by rw [← hq_]; exact (by (with_reducible repeat (first | refine blk_drewN ?_ _ | refine blk_drew ?_ | refine blk_alloc ?_ _)); exact BK1007.out)⟩; have n3_ : Aside0 (w35.heap[gb1013]? = some (.cells #[.int .i64 t1008, .int .i64 t1009, .slice Ao34 t1010.length co34] 65 (0, 0))) := ⟨by rw [← hq_]; exact (by (with_reducible repeat (first | refine blk_drewN ?_ _ | refine blk_drew ?_ | refine blk_alloc ?_ _)); exact BK1013.out)⟩; have n4_ : Aside0 (Below w.heap.size w w35) := ⟨by rw [← hq_]; exact (by repeat (with_reducible first | exact HB.out | apply below_alloc | apply pw_below_drewN | apply below_drew1 | refine below_set ?_ GE1007.out | refine below_set ?_ GE1013.out))⟩; clear HO1006 HO1012 BK1007 BK1013 HB hq_; have HO1006 := n0_; have HO1012 := n1_; have BK1007 := n2_; have BK1013 := n3_; have HB := n4_; clear n0_ n1_ n2_ n3_ n4_)); have n0_ := Aside0.mk (Kd.V_drew HO1006.out)
        have n1_ := Aside0.mk (Kd.V_drew HO1012.out)
        have n2_ := Aside0.mk (blk_drew BK1007.out)
        have n3_ := Aside0.mk (blk_drew BK1013.out)
        have n4_ := Aside0.mk (below_drew1 HB.out)
        clear HO1006; clear HO1012; clear BK1007; clear BK1013; clear HB; have HO1006 := n0_; have HO1012 := n1_; have BK1007 := n2_; have BK1013 := n3_; have HB := n4_; clear n0_ n1_ n2_ n3_ n4_; refine start_ (n := 12) (S := fun w' => w'.cell? ⟨gb1007, 0, none⟩ = some (.int .i64 t1002) ∧ w'.cell? ⟨gb1007, 1, none⟩ = some (.int .i64 t1003) ∧ w'.cell? ⟨gb1007, 2, none⟩ = some (.slice Ao29 t1004.length co29)) (ds := []) #[false, false, false, false, false, false, false, false, false, false, false, false] (by kernel_rfl) rfl rfl ⟨(blk_cell BK1007.out 0).trans rfl, (blk_cell BK1007.out 1).trans rfl, (blk_cell BK1007.out 2).trans rfl⟩ (fun hHeld => ?_); refine with_tabW gemotlaw17_SealBinds.tab10 gemotlaw17_SealBinds.bits10 (fun HT_ HW_ => ?_)
        generalize w35.drew = w36 at HO1006 HO1012 BK1007 BK1013 HB hHeld ⊢
        refine pure_ (i := 0) (N := some 52) (v := ?_) (a' := ?_) #[true, false, false, false, false, false, false, false, false, false, false, false] rfl rfl (any_of HT_.out (by kernel_rfl)) (fun _ _ _ h => h) (Or.inl ⟨by rfl, ?_⟩) ?_ ?_
        rotate_left
        · intro w'; go_simp; with_reducible rfl
        rotate_left; · (simp only [Act.put, List.setIfInBounds_toArray, List.set_cons_zero, List.set_cons_succ, i64_w, i32_w]; rfl)
        refine pure_ (i := 3) (N := some 55) (v := ?_) (a' := ?_) #[true, false, false, true, false, false, false, false, false, false, false, false] rfl rfl (any_of HT_.out (by kernel_rfl)) (fun _ _ _ h => h) (Or.inl ⟨by rfl, ?_⟩) ?_ ?_
        rotate_left
        · intro w'; go_simp; with_reducible rfl
        rotate_left; · (simp only [Act.put, List.setIfInBounds_toArray, List.set_cons_zero, List.set_cons_succ, i64_w, i32_w]; rfl)
        refine pure_ (i := 4) (N := some 56) (v := ?_) (a' := ?_) #[true, false, false, true, true, false, false, false, false, false, false, false] rfl rfl (any_of HT_.out (by kernel_rfl)) (fun _ _ _ h => h) (Or.inl ⟨by rfl, ?_⟩) ?_ ?_
        rotate_left
        · intro w'; go_simp; with_reducible rfl
        rotate_left; · (simp only [Act.put, List.setIfInBounds_toArray, List.set_cons_zero, List.set_cons_succ, i64_w, i32_w]; rfl)
        refine pure_ (i := 5) (N := some 57) (v := ?_) (a' := ?_) #[true, false, false, true, true, true, false, false, false, false, false, false] rfl rfl (any_of HT_.out (by kernel_rfl)) (fun _ _ _ h => h) (Or.inl ⟨by rfl, ?_⟩) ?_ ?_
        rotate_left
        · intro w'; go_simp; with_reducible rfl
        rotate_left; · (simp only [Act.put, List.setIfInBounds_toArray, List.set_cons_zero, List.set_cons_succ, i64_w, i32_w]; rfl)
        refine take_ (i := 2) (N := some 54) (v := ?_) (a' := ?_) #[true, false, true, true, true, true, false, false, false, false, false, false] rfl rfl (take_ofW HT_.out HW_.out (by kernel_rfl)) (fun _ _ _ h => h) (Or.inl ⟨by rfl, ?_⟩) hHeld ?_ ?_
        rotate_left
        · rintro w' ⟨s0, s1, s2⟩; go_simp; with_reducible rfl
        rotate_left; · (simp only [Act.put, List.setIfInBounds_toArray, List.set_cons_zero, List.set_cons_succ, i64_w, i32_w]; rfl)
        refine one_ (i := 1) (N := some 53) #[true, true, true, true, true, true, false, false, false, false, false, false] rfl rfl (one_of HT_.out (by kernel_rfl)) (by decide) (fun K hK => ?_)
        refine goes_ Try.func65 (by kernel_rfl) rfl #[.int .u64 a0] (by rfl) rfl rfl (by (try simp only [List.map_toArray, List.map_cons, List.map_nil]); first | done | rfl | (simp only [List.length_drop, List.length_take]; rfl)) ?_
        with_reducible refine (term_Name.calls a0 t1018 _ A21.out).mono ?_
        rintro e w37 ⟨rfl, hb⟩; refine ⟨_, rfl, ?_⟩
        have n0_ := Aside0.mk (Kd.V_below (by (with_reducible repeat (first | apply Kd.V_alloc | apply Kd.V_drewN | apply Kd.V_drew)); exact HO1006.out) hb)
        have n1_ := Aside0.mk (Kd.V_below (by (with_reducible repeat (first | apply Kd.V_alloc | apply Kd.V_drewN | apply Kd.V_drew)); exact HO1012.out) hb)
        have n2_ := Aside0.mk (blk_below (g := gb1007) (o := .cells #[.int .i64 t1002, .int .i64 t1003, .slice Ao29 t1004.length co29] 65 (0, 0)) (by (with_reducible repeat (first | refine blk_drewN ?_ _ | refine blk_drew ?_ | refine blk_alloc ?_ _)); exact BK1007.out) hb)
        have n3_ := Aside0.mk (blk_below (g := gb1013) (o := .cells #[.int .i64 t1008, .int .i64 t1009, .slice Ao34 t1010.length co34] 65 (0, 0)) (by (with_reducible repeat (first | refine blk_drewN ?_ _ | refine blk_drew ?_ | refine blk_alloc ?_ _)); exact BK1013.out) hb)
        have n4_ := Aside0.mk (below_step (by repeat (first | (with_reducible first | exact HB.out | apply below_alloc | apply pw_below_drewN | apply below_drew1 | refine below_set ?_ GE1007.out | refine below_set ?_ GE1013.out) | exact HB.out)) hb)
        clear HO1006; clear HO1012; clear BK1007; clear BK1013; clear HB; have HO1006 := n0_; have HO1012 := n1_; have BK1007 := n2_; have BK1013 := n3_; have HB := n4_; clear n0_ n1_ n2_ n3_ n4_; (try clear hb); (try clear hb2); (try clear hk); (try clear hi); refine hK.out _ _ ⟨(blk_cell BK1007.out 0).trans rfl, (blk_cell BK1007.out 1).trans rfl, (blk_cell BK1007.out 2).trans rfl⟩ (fun hHeld => ?_)
        clear hK K; refine norm_ (a' := ?_) ?_ ?_
        rotate_left
        · show Act.put _ (some 53) _ = _
          simp only [Act.put, List.setIfInBounds_toArray, List.set_cons_zero, List.set_cons_succ, i64_w, i32_w]; rfl
        refine one_ (i := 6) (N := some 58) #[true, true, true, true, true, true, true, false, false, false, false, false] rfl rfl (one_of HT_.out (by kernel_rfl)) (by decide) (fun K hK => ?_)
        refine goes_ Try.func59 (by kernel_rfl) rfl #[.string t1018, .agg #[.int .i64 t1002, .int .i64 t1003, .slice Ao29 t1004.length co29], .int .i64 (wrap64 (1 + t1014)), .int .i64 (wrap64 (1 + t1016)), .string a8] (by rfl) rfl rfl (by (try simp only [List.map_toArray, List.map_cons, List.map_nil]); first | done | rfl | (simp only [List.length_drop, List.length_take]; rfl)) ?_
        with_reducible refine (seal_Close.calls t1018 t1002 t1003 _ _ t1004 (wrap64 (1 + t1014)) (wrap64 (1 + t1016)) a8 t1019 t1020 _ ?side1 ?side2 A22.out).mono ?_
        (case side1 => repeat (first | exact (Kd.V_reads' HO1006.out).2.2 | (with_reducible refine Kd.C_alloc ?_ _) | (with_reducible refine Kd.C_drewN ?_ _) | (with_reducible refine Kd.C_drew ?_))); (case side2 => exact (Kd.V_reads' HO1006.out).2.1); rintro e w38 ⟨rfl, hb⟩; refine ⟨_, rfl, ?_⟩
        have n0_ := Aside0.mk (Kd.V_below (by (with_reducible repeat (first | apply Kd.V_alloc | apply Kd.V_drewN | apply Kd.V_drew)); exact HO1006.out) hb)
        have n1_ := Aside0.mk (Kd.V_below (by (with_reducible repeat (first | apply Kd.V_alloc | apply Kd.V_drewN | apply Kd.V_drew)); exact HO1012.out) hb)
        have n2_ := Aside0.mk (blk_below (g := gb1007) (o := .cells #[.int .i64 t1002, .int .i64 t1003, .slice Ao29 t1004.length co29] 65 (0, 0)) (by (with_reducible repeat (first | refine blk_drewN ?_ _ | refine blk_drew ?_ | refine blk_alloc ?_ _)); exact BK1007.out) hb)
        have n3_ := Aside0.mk (blk_below (g := gb1013) (o := .cells #[.int .i64 t1008, .int .i64 t1009, .slice Ao34 t1010.length co34] 65 (0, 0)) (by (with_reducible repeat (first | refine blk_drewN ?_ _ | refine blk_drew ?_ | refine blk_alloc ?_ _)); exact BK1013.out) hb)
        have n4_ := Aside0.mk (below_step (by repeat (first | (with_reducible first | exact HB.out | apply below_alloc | apply pw_below_drewN | apply below_drew1 | refine below_set ?_ GE1007.out | refine below_set ?_ GE1013.out) | exact HB.out)) hb)
        clear HO1006; clear HO1012; clear BK1007; clear BK1013; clear HB; have HO1006 := n0_; have HO1012 := n1_; have BK1007 := n2_; have BK1013 := n3_; have HB := n4_; clear n0_ n1_ n2_ n3_ n4_; (try clear hb); (try clear hb2); (try clear hk); (try clear hi); refine hK.out _ _ ⟨(blk_cell BK1007.out 0).trans rfl, (blk_cell BK1007.out 1).trans rfl, (blk_cell BK1007.out 2).trans rfl⟩ (fun hHeld => ?_)
        clear hK K; refine norm_ (a' := ?_) ?_ ?_
        rotate_left
        · show Act.put _ (some 58) _ = _
          simp only [Act.put, List.setIfInBounds_toArray, List.set_cons_zero, List.set_cons_succ, i64_w, i32_w]; rfl
        refine pure_ (i := 7) (N := some 51) (v := ?_) (a' := ?_) #[true, true, true, true, true, true, true, true, false, false, false, false] rfl rfl (any_of HT_.out (by kernel_rfl)) (fun _ _ _ h => h) (Or.inl ⟨by rfl, ?_⟩) ?_ ?_
        rotate_left
        · intro w'; go_simp; with_reducible rfl
        rotate_left; · (simp only [Act.put, List.setIfInBounds_toArray, List.set_cons_zero, List.set_cons_succ, i64_w, i32_w]; rfl)
        refine pure_ (i := 8) (N := some 59) (v := ?_) (a' := ?_) #[true, true, true, true, true, true, true, true, true, false, false, false] rfl rfl (any_of HT_.out (by kernel_rfl)) (fun _ _ _ h => h) (Or.inl ⟨by rfl, ?_⟩) ?_ ?_
        rotate_left
        · intro w'; go_simp; with_reducible rfl
        rotate_left; · (simp only [Act.put, List.setIfInBounds_toArray, List.set_cons_zero, List.set_cons_succ, i64_w, i32_w]; rfl)
        refine pure_ (i := 9) (N := some 60) (v := ?_) (a' := ?_) #[true, true, true, true, true, true, true, true, true, true, false, false] rfl rfl (any_of HT_.out (by kernel_rfl)) (fun _ _ _ h => h) (Or.inl ⟨by rfl, ?_⟩) ?_ ?_
        rotate_left
        · intro w'; go_simp; with_reducible rfl
        rotate_left; · (simp only [Act.put, List.setIfInBounds_toArray, List.set_cons_zero, List.set_cons_succ, i64_w, i32_w]; rfl)
        refine pure_ (i := 10) (N := some 22) (v := ?_) (a' := ?_) #[true, true, true, true, true, true, true, true, true, true, true, false] rfl rfl (any_of HT_.out (by kernel_rfl)) (fun _ _ _ h => h) (Or.inl ⟨by rfl, ?_⟩) ?_ ?_
        rotate_left
        · intro w'; go_simp; with_reducible rfl
        rotate_left; · (simp only [Act.put, List.setIfInBounds_toArray, List.set_cons_zero, List.set_cons_succ, i64_w, i32_w]; rfl)
        refine pure_ (i := 11) (N := some 23) (v := ?_) (a' := ?_) #[true, true, true, true, true, true, true, true, true, true, true, true] rfl rfl (any_of HT_.out (by kernel_rfl)) (fun _ _ _ h => h) (Or.inl ⟨by rfl, ?_⟩) ?_ ?_
        rotate_left
        · intro w'; go_simp; with_reducible rfl
        rotate_left; · (simp only [Act.put, List.setIfInBounds_toArray, List.set_cons_zero, List.set_cons_succ, i64_w, i32_w]; rfl)
        refine done_ (done_of HT_.out (by kernel_rfl)) ?_
        try go_wp2
        have n0_ := Aside0.mk (Kd.V_drew HO1006.out)
        have n1_ := Aside0.mk (Kd.V_drew HO1012.out)
        have n2_ := Aside0.mk (blk_drew BK1007.out)
        have n3_ := Aside0.mk (blk_drew BK1013.out)
        have n4_ := Aside0.mk (below_drew1 HB.out)
        clear HO1006; clear HO1012; clear BK1007; clear BK1013; clear HB; have HO1006 := n0_; have HO1012 := n1_; have BK1007 := n2_; have BK1013 := n3_; have HB := n4_; clear n0_ n1_ n2_ n3_ n4_; refine start_ (n := 12) (S := fun w' => w'.cell? ⟨gb1013, 0, none⟩ = some (.int .i64 t1008) ∧ w'.cell? ⟨gb1013, 1, none⟩ = some (.int .i64 t1009) ∧ w'.cell? ⟨gb1013, 2, none⟩ = some (.slice Ao34 t1010.length co34)) (ds := []) #[false, false, false, false, false, false, false, false, false, false, false, false] (by kernel_rfl) rfl rfl ⟨(blk_cell BK1013.out 0).trans rfl, (blk_cell BK1013.out 1).trans rfl, (blk_cell BK1013.out 2).trans rfl⟩ (fun hHeld => ?_); refine with_tabW gemotlaw17_SealBinds.tab11 gemotlaw17_SealBinds.bits11 (fun HT_ HW_ => ?_)
        generalize w38.drew = w39 at HO1006 HO1012 BK1007 BK1013 HB hHeld ⊢
        refine pure_ (i := 0) (N := some 62) (v := ?_) (a' := ?_) #[true, false, false, false, false, false, false, false, false, false, false, false] rfl rfl (any_of HT_.out (by kernel_rfl)) (fun _ _ _ h => h) (Or.inl ⟨by rfl, ?_⟩) ?_ ?_
        rotate_left
        · intro w'; go_simp; with_reducible rfl
        rotate_left; · (simp only [Act.put, List.setIfInBounds_toArray, List.set_cons_zero, List.set_cons_succ, i64_w, i32_w]; rfl)
        refine pure_ (i := 3) (N := some 65) (v := ?_) (a' := ?_) #[true, false, false, true, false, false, false, false, false, false, false, false] rfl rfl (any_of HT_.out (by kernel_rfl)) (fun _ _ _ h => h) (Or.inl ⟨by rfl, ?_⟩) ?_ ?_
        rotate_left
        · intro w'; go_simp; with_reducible rfl
        rotate_left; · (simp only [Act.put, List.setIfInBounds_toArray, List.set_cons_zero, List.set_cons_succ, i64_w, i32_w]; rfl)
        refine pure_ (i := 4) (N := some 66) (v := ?_) (a' := ?_) #[true, false, false, true, true, false, false, false, false, false, false, false] rfl rfl (any_of HT_.out (by kernel_rfl)) (fun _ _ _ h => h) (Or.inl ⟨by rfl, ?_⟩) ?_ ?_
        rotate_left
        · intro w'; go_simp; with_reducible rfl
        rotate_left; · (simp only [Act.put, List.setIfInBounds_toArray, List.set_cons_zero, List.set_cons_succ, i64_w, i32_w]; rfl)
        refine pure_ (i := 5) (N := some 67) (v := ?_) (a' := ?_) #[true, false, false, true, true, true, false, false, false, false, false, false] rfl rfl (any_of HT_.out (by kernel_rfl)) (fun _ _ _ h => h) (Or.inl ⟨by rfl, ?_⟩) ?_ ?_
        rotate_left
        · intro w'; go_simp; with_reducible rfl
        rotate_left; · (simp only [Act.put, List.setIfInBounds_toArray, List.set_cons_zero, List.set_cons_succ, i64_w, i32_w]; rfl)
        refine take_ (i := 2) (N := some 64) (v := ?_) (a' := ?_) #[true, false, true, true, true, true, false, false, false, false, false, false] rfl rfl (take_ofW HT_.out HW_.out (by kernel_rfl)) (fun _ _ _ h => h) (Or.inl ⟨by rfl, ?_⟩) hHeld ?_ ?_
        rotate_left
        · rintro w' ⟨s0, s1, s2⟩; go_simp; with_reducible rfl
        rotate_left; · (simp only [Act.put, List.setIfInBounds_toArray, List.set_cons_zero, List.set_cons_succ, i64_w, i32_w]; rfl)
        refine one_ (i := 1) (N := some 63) #[true, true, true, true, true, true, false, false, false, false, false, false] rfl rfl (one_of HT_.out (by kernel_rfl)) (by decide) (fun K hK => ?_)
        refine goes_ Try.func65 (by kernel_rfl) rfl #[.int .u64 a1] (by rfl) rfl rfl (by (try simp only [List.map_toArray, List.map_cons, List.map_nil]); first | done | rfl | (simp only [List.length_drop, List.length_take]; rfl)) ?_
        with_reducible refine (term_Name.calls a1 t1021 _ A23.out).mono ?_
        rintro e w40 ⟨rfl, hb⟩; refine ⟨_, rfl, ?_⟩
        have n0_ := Aside0.mk (Kd.V_below (by (with_reducible repeat (first | apply Kd.V_alloc | apply Kd.V_drewN | apply Kd.V_drew)); exact HO1006.out) hb)
        have n1_ := Aside0.mk (Kd.V_below (by (with_reducible repeat (first | apply Kd.V_alloc | apply Kd.V_drewN | apply Kd.V_drew)); exact HO1012.out) hb)
        have n2_ := Aside0.mk (blk_below (g := gb1007) (o := .cells #[.int .i64 t1002, .int .i64 t1003, .slice Ao29 t1004.length co29] 65 (0, 0)) (by (with_reducible repeat (first | refine blk_drewN ?_ _ | refine blk_drew ?_ | refine blk_alloc ?_ _)); exact BK1007.out) hb)
        have n3_ := Aside0.mk (blk_below (g := gb1013) (o := .cells #[.int .i64 t1008, .int .i64 t1009, .slice Ao34 t1010.length co34] 65 (0, 0)) (by (with_reducible repeat (first | refine blk_drewN ?_ _ | refine blk_drew ?_ | refine blk_alloc ?_ _)); exact BK1013.out) hb)
        have n4_ := Aside0.mk (below_step (by repeat (first | (with_reducible first | exact HB.out | apply below_alloc | apply pw_below_drewN | apply below_drew1 | refine below_set ?_ GE1007.out | refine below_set ?_ GE1013.out) | exact HB.out)) hb)
        clear HO1006; clear HO1012; clear BK1007; clear BK1013; clear HB; have HO1006 := n0_; have HO1012 := n1_; have BK1007 := n2_; have BK1013 := n3_; have HB := n4_; clear n0_ n1_ n2_ n3_ n4_; (try clear hb); (try clear hb2); (try clear hk); (try clear hi); refine hK.out _ _ ⟨(blk_cell BK1013.out 0).trans rfl, (blk_cell BK1013.out 1).trans rfl, (blk_cell BK1013.out 2).trans rfl⟩ (fun hHeld => ?_)
        clear hK K; refine norm_ (a' := ?_) ?_ ?_
        rotate_left
        · show Act.put _ (some 63) _ = _
          simp only [Act.put, List.setIfInBounds_toArray, List.set_cons_zero, List.set_cons_succ, i64_w, i32_w]; rfl
        refine one_ (i := 6) (N := some 68) #[true, true, true, true, true, true, true, false, false, false, false, false] rfl rfl (one_of HT_.out (by kernel_rfl)) (by decide) (fun K hK => ?_)
        refine goes_ Try.func61 (by kernel_rfl) rfl #[.string t1021, .agg #[.int .i64 t1008, .int .i64 t1009, .slice Ao34 t1010.length co34], .int .i64 (wrap64 (1 + t1015)), .int .i64 (wrap64 (1 + t1017)), .string t1019] (by rfl) rfl rfl (by (try simp only [List.map_toArray, List.map_cons, List.map_nil]); first | done | rfl | (simp only [List.length_drop, List.length_take]; rfl)) ?_
        with_reducible refine (seal_Open.calls t1021 t1008 t1009 _ _ t1010 (wrap64 (1 + t1015)) (wrap64 (1 + t1017)) t1019 t1022 t1023 _ ?side1 ?side2 A24.out).mono ?_
        (case side1 => repeat (first | exact (Kd.V_reads' HO1012.out).2.2 | (with_reducible refine Kd.C_alloc ?_ _) | (with_reducible refine Kd.C_drewN ?_ _) | (with_reducible refine Kd.C_drew ?_))); (case side2 => exact (Kd.V_reads' HO1012.out).2.1); rintro e w41 ⟨rfl, hb⟩; refine ⟨_, rfl, ?_⟩
        have n0_ := Aside0.mk (Kd.V_below (by (with_reducible repeat (first | apply Kd.V_alloc | apply Kd.V_drewN | apply Kd.V_drew)); exact HO1006.out) hb)
        have n1_ := Aside0.mk (Kd.V_below (by (with_reducible repeat (first | apply Kd.V_alloc | apply Kd.V_drewN | apply Kd.V_drew)); exact HO1012.out) hb)
        have n2_ := Aside0.mk (blk_below (g := gb1007) (o := .cells #[.int .i64 t1002, .int .i64 t1003, .slice Ao29 t1004.length co29] 65 (0, 0)) (by (with_reducible repeat (first | refine blk_drewN ?_ _ | refine blk_drew ?_ | refine blk_alloc ?_ _)); exact BK1007.out) hb)
        have n3_ := Aside0.mk (blk_below (g := gb1013) (o := .cells #[.int .i64 t1008, .int .i64 t1009, .slice Ao34 t1010.length co34] 65 (0, 0)) (by (with_reducible repeat (first | refine blk_drewN ?_ _ | refine blk_drew ?_ | refine blk_alloc ?_ _)); exact BK1013.out) hb)
        have n4_ := Aside0.mk (below_step (by repeat (first | (with_reducible first | exact HB.out | apply below_alloc | apply pw_below_drewN | apply below_drew1 | refine below_set ?_ GE1007.out | refine below_set ?_ GE1013.out) | exact HB.out)) hb)
        clear HO1006; clear HO1012; clear BK1007; clear BK1013; clear HB; have HO1006 := n0_; have HO1012 := n1_; have BK1007 := n2_; have BK1013 := n3_; have HB := n4_; clear n0_ n1_ n2_ n3_ n4_; (try clear hb); (try clear hb2); (try clear hk); (try clear hi); refine hK.out _ _ ⟨(blk_cell BK1013.out 0).trans rfl, (blk_cell BK1013.out 1).trans rfl, (blk_cell BK1013.out 2).trans rfl⟩ (fun hHeld => ?_)
        clear hK K; refine norm_ (a' := ?_) ?_ ?_
        rotate_left
        · show Act.put _ (some 68) _ = _
          simp only [Act.put, List.setIfInBounds_toArray, List.set_cons_zero, List.set_cons_succ, i64_w, i32_w]; rfl
        refine pure_ (i := 7) (N := some 61) (v := ?_) (a' := ?_) #[true, true, true, true, true, true, true, true, false, false, false, false] rfl rfl (any_of HT_.out (by kernel_rfl)) (fun _ _ _ h => h) (Or.inl ⟨by rfl, ?_⟩) ?_ ?_
        rotate_left
        · intro w'; go_simp; with_reducible rfl
        rotate_left; · (simp only [Act.put, List.setIfInBounds_toArray, List.set_cons_zero, List.set_cons_succ, i64_w, i32_w]; rfl)
        refine pure_ (i := 8) (N := some 69) (v := ?_) (a' := ?_) #[true, true, true, true, true, true, true, true, true, false, false, false] rfl rfl (any_of HT_.out (by kernel_rfl)) (fun _ _ _ h => h) (Or.inl ⟨by rfl, ?_⟩) ?_ ?_
        rotate_left
        · intro w'; go_simp; with_reducible rfl
        rotate_left; · (simp only [Act.put, List.setIfInBounds_toArray, List.set_cons_zero, List.set_cons_succ, i64_w, i32_w]; rfl)
        refine pure_ (i := 9) (N := some 70) (v := ?_) (a' := ?_) #[true, true, true, true, true, true, true, true, true, true, false, false] rfl rfl (any_of HT_.out (by kernel_rfl)) (fun _ _ _ h => h) (Or.inl ⟨by rfl, ?_⟩) ?_ ?_
        rotate_left
        · intro w'; go_simp; with_reducible rfl
        rotate_left; · (simp only [Act.put, List.setIfInBounds_toArray, List.set_cons_zero, List.set_cons_succ, i64_w, i32_w]; rfl)
        refine pure_ (i := 10) (N := some 24) (v := ?_) (a' := ?_) #[true, true, true, true, true, true, true, true, true, true, true, false] rfl rfl (any_of HT_.out (by kernel_rfl)) (fun _ _ _ h => h) (Or.inl ⟨by rfl, ?_⟩) ?_ ?_
        rotate_left
        · intro w'; go_simp; with_reducible rfl
        rotate_left; · (simp only [Act.put, List.setIfInBounds_toArray, List.set_cons_zero, List.set_cons_succ, i64_w, i32_w]; rfl)
        refine pure_ (i := 11) (N := some 25) (v := ?_) (a' := ?_) #[true, true, true, true, true, true, true, true, true, true, true, true] rfl rfl (any_of HT_.out (by kernel_rfl)) (fun _ _ _ h => h) (Or.inl ⟨by rfl, ?_⟩) ?_ ?_
        rotate_left
        · intro w'; go_simp; with_reducible rfl
        rotate_left; · (simp only [Act.put, List.setIfInBounds_toArray, List.set_cons_zero, List.set_cons_succ, i64_w, i32_w]; rfl)
        refine done_ (done_of HT_.out (by kernel_rfl)) ?_
        go_upto_region 12 with (fail)
        go_cut [77] (fun v77 wc => ∃ (kq : Nat) (x77_24 : Bool), v77 = .bool x77_24 ∧ Aside0 (gemotlaw17_SealBinds.j1 kq a0 a1 (wrap64 (1 + t1014)) (wrap64 (1 + t1015)) (wrap64 (1 + t1016)) (wrap64 (1 + t1017)) a8 t1022 t1023 x77_24 t1002 t1003 t1004 t1008 t1009 t1010 = some r) ∧ Aside0 (kq ≤ kj10) ∧ Aside0 (Kd.V (Kd.int .i64) 3 wc w.heap.size (fun k_ => k_ ≠ gb1007 ∧ k_ ≠ gb1013) (.slice Ao29 t1004.length co29) t1004) ∧ Aside0 (Kd.V (Kd.int .i64) 3 wc w.heap.size (fun k_ => k_ ≠ gb1007 ∧ k_ ≠ gb1013) (.slice Ao34 t1010.length co34) t1010) ∧ Aside0 (wc.heap[gb1007]? = some (.cells #[.int .i64 t1002, .int .i64 t1003, (.slice Ao29 t1004.length co29)] 65 (0, 0))) ∧ Aside0 (wc.heap[gb1013]? = some (.cells #[.int .i64 t1008, .int .i64 t1009, (.slice Ao34 t1010.length co34)] 65 (0, 0))) ∧ Aside0 (Below w.heap.size w wc))
        case first =>
          have H := HC25.out; clear HC25; by_cases c42 : t1020 = 0
          · rw [if_pos c42] at H
            have c42b0 : (t1020 == 0) = true := beq_iff_eq.mpr c42
            have c42b1 : (t1020 != 0) = false := bne_eq_false_iff_eq.mpr c42
            clear c42; (first | rw [c42b0] | (simp only [i64_w, i32_w]; rw [c42b0]) | skip); replace H := Option.bind_eq_some_iff.mp H
            obtain ⟨t1024, A430, H⟩ := H; replace H : (gemotlaw17_SealBinds.j1 kj10 a0 a1 (wrap64 (1 + t1014)) (wrap64 (1 + t1015)) (wrap64 (1 + t1016)) (wrap64 (1 + t1017)) a8 t1022 t1023 (!t1024) t1002 t1003 t1004 t1008 t1009 t1010) = some r := H
            have A43 := Aside0.mk A430
            clear A430; have H' := Aside0.mk H
            clear H; go_wp2_with (first | (go_at_call 66; (with_reducible refine (term_Right.calls t1019 t1024 _ A43.out).mono ?_); rintro e w44 ⟨rfl, hb⟩; have n0_ := Aside0.mk (Kd.V_below (by (with_reducible repeat (first | apply Kd.V_alloc | apply Kd.V_drewN | apply Kd.V_drew)); exact HO1006.out) hb); have n1_ := Aside0.mk (Kd.V_below (by (with_reducible repeat (first | apply Kd.V_alloc | apply Kd.V_drewN | apply Kd.V_drew)); exact HO1012.out) hb); have n2_ := Aside0.mk (blk_below (g := gb1007) (o := .cells #[.int .i64 t1002, .int .i64 t1003, .slice Ao29 t1004.length co29] 65 (0, 0)) (by (with_reducible repeat (first | refine blk_drewN ?_ _ | refine blk_drew ?_ | refine blk_alloc ?_ _)); exact BK1007.out) hb); have n3_ := Aside0.mk (blk_below (g := gb1013) (o := .cells #[.int .i64 t1008, .int .i64 t1009, .slice Ao34 t1010.length co34] 65 (0, 0)) (by (with_reducible repeat (first | refine blk_drewN ?_ _ | refine blk_drew ?_ | refine blk_alloc ?_ _)); exact BK1013.out) hb); have n4_ := Aside0.mk (below_step (by repeat (with_reducible first | exact HB.out | apply below_alloc | apply pw_below_drewN | apply below_drew1 | refine below_set ?_ GE1007.out | refine below_set ?_ GE1013.out)) hb); clear HO1006; clear HO1012; clear BK1007; clear BK1013; clear HB; have HO1006 := n0_; have HO1012 := n1_; have BK1007 := n2_; have BK1013 := n3_; have HB := n4_; clear n0_ n1_ n2_ n3_ n4_; (try clear hb)))
            go_meet
            case rel => exact ⟨_, (!t1024), (by first | rfl | (simp; done) | (simp [*]; done)), H', ⟨by have := HJ10.out; first | omega | exact Nat.le_refl _⟩, ⟨by (with_reducible repeat (first | apply Kd.V_alloc | apply Kd.V_drewN | apply Kd.V_drew)); exact HO1006.out⟩, ⟨by (with_reducible repeat (first | apply Kd.V_alloc | apply Kd.V_drewN | apply Kd.V_drew)); exact HO1012.out⟩, ⟨by (with_reducible repeat (first | refine blk_drewN ?_ _ | refine blk_drew ?_ | refine blk_alloc ?_ _)); exact BK1007.out⟩, ⟨by (with_reducible repeat (first | refine blk_drewN ?_ _ | refine blk_drew ?_ | refine blk_alloc ?_ _)); exact BK1013.out⟩, ⟨by repeat (first | (with_reducible first | exact HB.out | apply below_alloc | apply pw_below_drewN | apply below_drew1 | refine below_set ?_ GE1007.out | refine below_set ?_ GE1013.out) | exact HB.out)⟩⟩
          · rw [if_neg c42] at H
            have c42b0 : (t1020 == 0) = false := beq_eq_false_iff_ne.mpr c42
            have c42b1 : (t1020 != 0) = true := bne_iff_ne.mpr c42
            (first | rw [c42b0] | (simp only [i64_w, i32_w]; rw [c42b0]) | skip); have H' := Aside0.mk H
            clear H; go_wp2; go_meet
            case rel => exact ⟨_, (true), (by first | rfl | (simp; done) | (simp [*]; done)), H', ⟨by have := HJ10.out; first | omega | exact Nat.le_refl _⟩, ⟨by (with_reducible repeat (first | apply Kd.V_alloc | apply Kd.V_drewN | apply Kd.V_drew)); exact HO1006.out⟩, ⟨by (with_reducible repeat (first | apply Kd.V_alloc | apply Kd.V_drewN | apply Kd.V_drew)); exact HO1012.out⟩, ⟨by (with_reducible repeat (first | refine blk_drewN ?_ _ | refine blk_drew ?_ | refine blk_alloc ?_ _)); exact BK1007.out⟩, ⟨by (with_reducible repeat (first | refine blk_drewN ?_ _ | refine blk_drew ?_ | refine blk_alloc ?_ _)); exact BK1013.out⟩, ⟨by repeat (first | (with_reducible first | exact HB.out | apply below_alloc | apply pw_below_drewN | apply below_drew1 | refine below_set ?_ GE1007.out | refine below_set ?_ GE1013.out) | exact HB.out)⟩⟩
        case rest =>
          clear HC25; try clear c1
          try clear p2
          try clear c3
          try clear c4
          try clear c5
          try clear c6
          try clear p6
          try clear c9
          try clear c13
          try clear c14
          try clear c32
          try clear c42
          try clear c42b0
          try clear c42b1
          try clear hcz28_0
          try clear hcz28_1
          try clear hcz28_2
          try clear hcz33_0
          try clear hcz33_1
          try clear hcz33_2
          try clear hfz28_0
          try clear hfz28_1
          try clear hfz28_2
          try clear hfz33_0
          try clear hfz33_1
          try clear hfz33_2
          try clear p2
          obtain ⟨kq, x77_24, rfl, HA, HJ24, HO_1008002, HO_1014002, BK1007, BK1013, HB⟩ := hcut; cases kq with
          | zero => exact absurd HA.out (by simp [gemotlaw17_SealBinds.j1])
          | succ kj24 =>
            have H := HA.out; clear HA; simp only [gemotlaw17_SealBinds.j1] at H; by_cases c45 : x77_24 = true
            · subst c45; have H1 : (none) = some r := by rw [if_pos rfl] at H; exact H
              exact absurd H1 (by simp)
            · replace c45 := Bool.eq_false_iff.mpr c45
              subst c45; have H1 : (if a0 = a1 then (if (!(t1002 == t1008) || (!(t1003 == t1009))) = true then (if t1023 = 7 then (some (t1022.toList == ([] : List UInt8))) else (none)) else (if (wrap64 (1 + t1014)) = (wrap64 (1 + t1015)) then (if (wrap64 (1 + t1016)) = (wrap64 (1 + t1017)) then (if t1023 = 0 then (some (t1022.toList == a8.toList)) else (none)) else (if t1023 = 7 then (some (t1022.toList == ([] : List UInt8))) else (none))) else (if t1023 = 7 then (some (t1022.toList == ([] : List UInt8))) else (none)))) else (if t1023 = 6 then (some (t1022.toList == ([] : List UInt8))) else (none))) = some r := by rw [if_neg (show ¬ (false = true) by decide)] at H; exact H
              clear H; have H := H1; clear H1; by_cases c46 : a0 = a1
              · rw [if_pos c46] at H
                have c46b0 : (a0 == a1) = true := beq_iff_eq.mpr c46
                have c46b1 : (a0 != a1) = false := bne_eq_false_iff_eq.mpr c46
                clear c46; by_cases c47 : (!(t1002 == t1008) || (!(t1003 == t1009))) = true
                · rw [if_pos c47] at H
                  have c47b0 : (!(t1002 == t1008) || (!(t1003 == t1009))) = true := c47
                  clear c47; by_cases c48 : t1023 = 7
                  · rw [if_pos c48] at H
                    have c48b0 : (t1023 == 7) = true := beq_iff_eq.mpr c48
                    have c48b1 : (t1023 != 7) = false := bne_eq_false_iff_eq.mpr c48
                    clear c48; obtain rfl := Option.some.inj H
                    have hnb49 := NB1007_1013.out; have hnc49 := NB1013_1007.out; have hcz50_0 : wc.cell? ⟨gb1007, 0, none⟩ = some (.int .i64 t1002) := (blk_cell BK1007.out 0).trans rfl
                    have hcz50_1 : wc.cell? ⟨gb1007, 1, none⟩ = some (.int .i64 t1003) := (blk_cell BK1007.out 1).trans rfl
                    have hcz50_2 : wc.cell? ⟨gb1007, 2, none⟩ = some (.slice Ao29 t1004.length co29) := (blk_cell BK1007.out 2).trans rfl
                    have hfz50_0 := blk_frozen BK1007.out 0; have hfz50_1 := blk_frozen BK1007.out 1; have hfz50_2 := blk_frozen BK1007.out 2; have hcz51_0 : wc.cell? ⟨gb1013, 0, none⟩ = some (.int .i64 t1008) := (blk_cell BK1013.out 0).trans rfl
                    have hcz51_1 : wc.cell? ⟨gb1013, 1, none⟩ = some (.int .i64 t1009) := (blk_cell BK1013.out 1).trans rfl
                    have hcz51_2 : wc.cell? ⟨gb1013, 2, none⟩ = some (.slice Ao34 t1010.length co34) := (blk_cell BK1013.out 2).trans rfl
                    have hfz51_0 := blk_frozen BK1013.out 0; have hfz51_1 := blk_frozen BK1013.out 1; have hfz51_2 := blk_frozen BK1013.out 2; go_wp2; go_ret
                    exact ⟨by first | rfl | (simp [errW_none, errW_some] <;> rfl) | (simp [*, errW_none, errW_some] <;> rfl), by repeat (first | (with_reducible first | exact HB.out | apply below_alloc | apply pw_below_drewN | apply below_drew1 | refine below_set ?_ GE1007.out | refine below_set ?_ GE1013.out) | exact HB.out)⟩
                  · rw [if_neg c48] at H
                    exact absurd H (by simp)
                · rw [if_neg c47] at H
                  have c47b0 : (!(t1002 == t1008) || (!(t1003 == t1009))) = false := by simpa using c47
                  clear c47; by_cases c55 : (wrap64 (1 + t1014)) = (wrap64 (1 + t1015))
                  · rw [if_pos c55] at H
                    have c55b0 : ((wrap64 (1 + t1014)) == (wrap64 (1 + t1015))) = true := beq_iff_eq.mpr c55
                    have c55b1 : ((wrap64 (1 + t1014)) != (wrap64 (1 + t1015))) = false := bne_eq_false_iff_eq.mpr c55
                    clear c55; by_cases c56 : (wrap64 (1 + t1016)) = (wrap64 (1 + t1017))
                    · rw [if_pos c56] at H
                      have c56b0 : ((wrap64 (1 + t1016)) == (wrap64 (1 + t1017))) = true := beq_iff_eq.mpr c56
                      have c56b1 : ((wrap64 (1 + t1016)) != (wrap64 (1 + t1017))) = false := bne_eq_false_iff_eq.mpr c56
                      clear c56; by_cases c57 : t1023 = 0
                      · rw [if_pos c57] at H
                        have c57b0 : (t1023 == 0) = true := beq_iff_eq.mpr c57
                        have c57b1 : (t1023 != 0) = false := bne_eq_false_iff_eq.mpr c57
                        clear c57; obtain rfl := Option.some.inj H
                        have hnb58 := NB1007_1013.out; have hnc58 := NB1013_1007.out; have hcz59_0 : wc.cell? ⟨gb1007, 0, none⟩ = some (.int .i64 t1002) := (blk_cell BK1007.out 0).trans rfl
                        have hcz59_1 : wc.cell? ⟨gb1007, 1, none⟩ = some (.int .i64 t1003) := (blk_cell BK1007.out 1).trans rfl
                        have hcz59_2 : wc.cell? ⟨gb1007, 2, none⟩ = some (.slice Ao29 t1004.length co29) := (blk_cell BK1007.out 2).trans rfl
                        have hfz59_0 := blk_frozen BK1007.out 0; have hfz59_1 := blk_frozen BK1007.out 1; have hfz59_2 := blk_frozen BK1007.out 2; have hcz60_0 : wc.cell? ⟨gb1013, 0, none⟩ = some (.int .i64 t1008) := (blk_cell BK1013.out 0).trans rfl
                        have hcz60_1 : wc.cell? ⟨gb1013, 1, none⟩ = some (.int .i64 t1009) := (blk_cell BK1013.out 1).trans rfl
                        have hcz60_2 : wc.cell? ⟨gb1013, 2, none⟩ = some (.slice Ao34 t1010.length co34) := (blk_cell BK1013.out 2).trans rfl
                        have hfz60_0 := blk_frozen BK1013.out 0; have hfz60_1 := blk_frozen BK1013.out 1; have hfz60_2 := blk_frozen BK1013.out 2; go_wp2; go_ret
                        exact ⟨by first | rfl | (simp [errW_none, errW_some] <;> rfl) | (simp [*, errW_none, errW_some] <;> rfl), by repeat (first | (with_reducible first | exact HB.out | apply below_alloc | apply pw_below_drewN | apply below_drew1 | refine below_set ?_ GE1007.out | refine below_set ?_ GE1013.out) | exact HB.out)⟩
                      · rw [if_neg c57] at H
                        exact absurd H (by simp)
                    · rw [if_neg c56] at H
                      have c56b0 : ((wrap64 (1 + t1016)) == (wrap64 (1 + t1017))) = false := beq_eq_false_iff_ne.mpr c56
                      have c56b1 : ((wrap64 (1 + t1016)) != (wrap64 (1 + t1017))) = true := bne_iff_ne.mpr c56
                      by_cases c64 : t1023 = 7
                      · rw [if_pos c64] at H
                        have c64b0 : (t1023 == 7) = true := beq_iff_eq.mpr c64
                        have c64b1 : (t1023 != 7) = false := bne_eq_false_iff_eq.mpr c64
                        clear c64; obtain rfl := Option.some.inj H
                        have hnb65 := NB1007_1013.out; have hnc65 := NB1013_1007.out; have hcz66_0 : wc.cell? ⟨gb1007, 0, none⟩ = some (.int .i64 t1002) := (blk_cell BK1007.out 0).trans rfl
                        have hcz66_1 : wc.cell? ⟨gb1007, 1, none⟩ = some (.int .i64 t1003) := (blk_cell BK1007.out 1).trans rfl
                        have hcz66_2 : wc.cell? ⟨gb1007, 2, none⟩ = some (.slice Ao29 t1004.length co29) := (blk_cell BK1007.out 2).trans rfl
                        have hfz66_0 := blk_frozen BK1007.out 0; have hfz66_1 := blk_frozen BK1007.out 1; have hfz66_2 := blk_frozen BK1007.out 2; have hcz67_0 : wc.cell? ⟨gb1013, 0, none⟩ = some (.int .i64 t1008) := (blk_cell BK1013.out 0).trans rfl
                        have hcz67_1 : wc.cell? ⟨gb1013, 1, none⟩ = some (.int .i64 t1009) := (blk_cell BK1013.out 1).trans rfl
                        have hcz67_2 : wc.cell? ⟨gb1013, 2, none⟩ = some (.slice Ao34 t1010.length co34) := (blk_cell BK1013.out 2).trans rfl
                        have hfz67_0 := blk_frozen BK1013.out 0; have hfz67_1 := blk_frozen BK1013.out 1; have hfz67_2 := blk_frozen BK1013.out 2; go_wp2; go_ret
                        exact ⟨by first | rfl | (simp [errW_none, errW_some] <;> rfl) | (simp [*, errW_none, errW_some] <;> rfl), by repeat (first | (with_reducible first | exact HB.out | apply below_alloc | apply pw_below_drewN | apply below_drew1 | refine below_set ?_ GE1007.out | refine below_set ?_ GE1013.out) | exact HB.out)⟩
                      · rw [if_neg c64] at H
                        exact absurd H (by simp)
                  · rw [if_neg c55] at H
                    have c55b0 : ((wrap64 (1 + t1014)) == (wrap64 (1 + t1015))) = false := beq_eq_false_iff_ne.mpr c55
                    have c55b1 : ((wrap64 (1 + t1014)) != (wrap64 (1 + t1015))) = true := bne_iff_ne.mpr c55
                    by_cases c71 : t1023 = 7
                    · rw [if_pos c71] at H
                      have c71b0 : (t1023 == 7) = true := beq_iff_eq.mpr c71
                      have c71b1 : (t1023 != 7) = false := bne_eq_false_iff_eq.mpr c71
                      clear c71; obtain rfl := Option.some.inj H
                      have hnb72 := NB1007_1013.out; have hnc72 := NB1013_1007.out; have hcz73_0 : wc.cell? ⟨gb1007, 0, none⟩ = some (.int .i64 t1002) := (blk_cell BK1007.out 0).trans rfl
                      have hcz73_1 : wc.cell? ⟨gb1007, 1, none⟩ = some (.int .i64 t1003) := (blk_cell BK1007.out 1).trans rfl
                      have hcz73_2 : wc.cell? ⟨gb1007, 2, none⟩ = some (.slice Ao29 t1004.length co29) := (blk_cell BK1007.out 2).trans rfl
                      have hfz73_0 := blk_frozen BK1007.out 0; have hfz73_1 := blk_frozen BK1007.out 1; have hfz73_2 := blk_frozen BK1007.out 2; have hcz74_0 : wc.cell? ⟨gb1013, 0, none⟩ = some (.int .i64 t1008) := (blk_cell BK1013.out 0).trans rfl
                      have hcz74_1 : wc.cell? ⟨gb1013, 1, none⟩ = some (.int .i64 t1009) := (blk_cell BK1013.out 1).trans rfl
                      have hcz74_2 : wc.cell? ⟨gb1013, 2, none⟩ = some (.slice Ao34 t1010.length co34) := (blk_cell BK1013.out 2).trans rfl
                      have hfz74_0 := blk_frozen BK1013.out 0; have hfz74_1 := blk_frozen BK1013.out 1; have hfz74_2 := blk_frozen BK1013.out 2; go_wp2; go_ret
                      exact ⟨by first | rfl | (simp [errW_none, errW_some] <;> rfl) | (simp [*, errW_none, errW_some] <;> rfl), by repeat (first | (with_reducible first | exact HB.out | apply below_alloc | apply pw_below_drewN | apply below_drew1 | refine below_set ?_ GE1007.out | refine below_set ?_ GE1013.out) | exact HB.out)⟩
                    · rw [if_neg c71] at H
                      exact absurd H (by simp)
              · rw [if_neg c46] at H
                have c46b0 : (a0 == a1) = false := beq_eq_false_iff_ne.mpr c46
                have c46b1 : (a0 != a1) = true := bne_iff_ne.mpr c46
                by_cases c78 : t1023 = 6
                · rw [if_pos c78] at H
                  have c78b0 : (t1023 == 6) = true := beq_iff_eq.mpr c78
                  have c78b1 : (t1023 != 6) = false := bne_eq_false_iff_eq.mpr c78
                  clear c78; obtain rfl := Option.some.inj H
                  go_wp2; go_ret
                  exact ⟨by first | rfl | (simp [errW_none, errW_some] <;> rfl) | (simp [*, errW_none, errW_some] <;> rfl), by repeat (first | (with_reducible first | exact HB.out | apply below_alloc | apply pw_below_drewN | apply below_drew1 | refine below_set ?_ GE1007.out | refine below_set ?_ GE1013.out) | exact HB.out)⟩
                · rw [if_neg c78] at H
                  exact absurd H (by simp)
end Go.Proofs.Ytpfpmjdifnoeoaa.F
