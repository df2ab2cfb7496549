-- Laid by mk.py (a program of this session) over the seat's translation.
import Derived.Test.YtpfpmjdifnoeoaaF0
import Derived.Test.YtpfpmjdifnoeoaaB1
import Derived.Test.YtpfpmjdifnoeoaaF78
import Derived.Test.YtpfpmjdifnoeoaaB2
import Derived.Test.YtpfpmjdifnoeoaaF97
import Derived.Test.YtpfpmjdifnoeoaaF98
namespace Go.Proofs.Ytpfpmjdifnoeoaa.F
open Go.RowKit Go.Proofs.YtpfpmjdifnoeoaaW.PrintWords Go.Proofs.YtpfpmjdifnoeoaaW.PrintLast Go.Proofs.YtpfpmjdifnoeoaaW.PrintMore
attribute [local go_sem] max2_int min2_int max_two min_two max_three min_three max_four min_four
set_option linter.unusedVariables false
set_option linter.unusedSimpArgs false

/-! ### gemotlaw1_TermParts: function 22 -/
mutual
def gemotlaw1_TermParts.j0 : Nat → List (S169) → Int → Int → ByteArray → Bool → Bool → Option (Bool)
  | 0, _, _, _, _, _, _ => none
  | k + 1, x0, x1, x2, x3, x9, x31 => if x31 = true then (some x9) else ((gemotlaw1_made.f x0).bind fun t1002 => ((gemotlaw1_pick.f x1 (t1002.length : Int)).bind fun t1005 => (if 0 ≤ t1005 then (if t1005 < (t1002.length : Int) then ((gemotlaw1_pick.f x2 (t1002.length : Int)).bind fun t1007 => (if 0 ≤ t1007 then (if t1007 < (t1002.length : Int) then ((term_Pair.f (rdOf ByteArray.empty t1002 t1005) (rdOf ByteArray.empty t1002 t1007)).bind fun bt1009 => ((term_Hash.f (rdOf ByteArray.empty t1002 t1005)).bind fun bt1011 => ((term_Sign.f (rdOf ByteArray.empty t1002 t1005) (rdOf ByteArray.empty t1002 t1007)).bind fun bt1013 => (if bt1009.2 = 0 then (if bt1011.2 = 0 then (if bt1013.2 = 0 then (if 1 + (rdOf ByteArray.empty t1002 t1005).size ≤ 9223372036854775807 then (if ((⟨#[112]⟩ : ByteArray) ++ (rdOf ByteArray.empty t1002 t1005)).size + (rdOf ByteArray.empty t1002 t1007).size ≤ 9223372036854775807 then (if bt1009.1.toList = (((⟨#[112]⟩ : ByteArray) ++ (rdOf ByteArray.empty t1002 t1005)) ++ (rdOf ByteArray.empty t1002 t1007)).toList then (if bt1011.1.toList = ((⟨#[104]⟩ : ByteArray) ++ (rdOf ByteArray.empty t1002 t1005)).toList then (if ((⟨#[120]⟩ : ByteArray) ++ (rdOf ByteArray.empty t1002 t1005)).size + (rdOf ByteArray.empty t1002 t1007).size ≤ 9223372036854775807 then (if bt1013.1.toList = (((⟨#[120]⟩ : ByteArray) ++ (rdOf ByteArray.empty t1002 t1005)) ++ (rdOf ByteArray.empty t1002 t1007)).toList then ((term_Depth.f bt1009.1).bind fun t1015 => ((term_Depth.f (rdOf ByteArray.empty t1002 t1005)).bind fun t1016 => ((term_Depth.f (rdOf ByteArray.empty t1002 t1007)).bind fun t1017 => (if t1015 = (wrap64 (1 + (mx t1016 t1017))) then ((term_Depth.f bt1011.1).bind fun t1018 => ((term_Depth.f (rdOf ByteArray.empty t1002 t1005)).bind fun t1019 => (gemotlaw1_TermParts.j1 k x3 (rdOf ByteArray.empty t1002 t1005) (t1018 != (wrap64 (1 + t1019)))))) else (gemotlaw1_TermParts.j1 k x3 (rdOf ByteArray.empty t1002 t1005) true))))) else (gemotlaw1_TermParts.j1 k x3 (rdOf ByteArray.empty t1002 t1005) true)) else (none)) else (gemotlaw1_TermParts.j1 k x3 (rdOf ByteArray.empty t1002 t1005) true)) else (gemotlaw1_TermParts.j1 k x3 (rdOf ByteArray.empty t1002 t1005) true)) else (none)) else (none)) else (gemotlaw1_TermParts.j1 k x3 (rdOf ByteArray.empty t1002 t1005) true)) else (gemotlaw1_TermParts.j1 k x3 (rdOf ByteArray.empty t1002 t1005) true)) else (gemotlaw1_TermParts.j1 k x3 (rdOf ByteArray.empty t1002 t1005) true))))) else (none)) else (none))) else (none)) else (none))))
def gemotlaw1_TermParts.j1 : Nat → ByteArray → ByteArray → Bool → Option (Bool)
  | 0, _, _, _ => none
  | k + 1, x3, x11, x116 => if x116 = true then (none) else ((term_Right.f x3).bind fun t1020 => (if t1020 = true then ((term_Depth.f x3).bind fun t1021 => (some (decide (t1021 > 0)))) else ((term_Pair.f x11 x3).bind fun bt1022 => ((term_Hash.f x3).bind fun bt1024 => (if bt1022.2 = 1 then (if bt1022.1.toList = ([] : List UInt8) then (if bt1024.2 = 1 then (if bt1024.1.toList = ([] : List UInt8) then ((term_Depth.f x3).bind fun t1026 => (some (t1026 == 0))) else (none)) else (none)) else (none)) else (none))))))
end
def gemotlaw1_TermParts.f (k : Nat) (l0 : List (S169)) (a1 : Int) (a2 : Int) (a3 : ByteArray) : Option (Bool) := (gemotlaw1_shown.f).bind fun t1001 => (if t1001 = true then (gemotlaw1_TermParts.j0 k l0 a1 a2 a3 t1001 (decide ((a3.size : Int) > 1000))) else (gemotlaw1_TermParts.j0 k l0 a1 a2 a3 t1001 true))
theorem gemotlaw1_TermParts.mono_l : ∀ k, (∀ y0 y1 y2 y3 y4 y5, LeO (gemotlaw1_TermParts.j0 k y0 y1 y2 y3 y4 y5) (gemotlaw1_TermParts.j0 (k + 1) y0 y1 y2 y3 y4 y5)) ∧ (∀ y0 y1 y2, LeO (gemotlaw1_TermParts.j1 k y0 y1 y2) (gemotlaw1_TermParts.j1 (k + 1) y0 y1 y2))
  | 0 => ⟨fun _ _ _ _ _ _ r h => by simp [gemotlaw1_TermParts.j0] at h, fun _ _ _ r h => by simp [gemotlaw1_TermParts.j1] at h⟩
  | k + 1 => by
    obtain ⟨ih0, ih1⟩ := gemotlaw1_TermParts.mono_l k
    refine ⟨?_, ?_⟩
    · intro y0 y1 y2 y3 y4 y5
      unfold gemotlaw1_TermParts.j0
      repeat' first
      | (with_reducible exact ih0 _ _ _ _ _ _)
      | (with_reducible exact ih1 _ _ _)
      | (with_reducible exact LeO.refl _)
      | (with_reducible exact LeO.none _)
      | (with_reducible refine LeO.ite ?_ ?_)
      | (with_reducible refine LeO.bind ?_ (fun _ => ?_))
      | exact ih0 _ _ _ _ _ _
      | exact ih1 _ _ _
      | exact LeO.none _
      | refine LeO.ite ?_ ?_
      | refine LeO.bind ?_ (fun _ => ?_)
    · intro y0 y1 y2
      unfold gemotlaw1_TermParts.j1
      repeat' first
      | (with_reducible exact ih0 _ _ _ _ _ _)
      | (with_reducible exact ih1 _ _ _)
      | (with_reducible exact LeO.refl _)
      | (with_reducible exact LeO.none _)
      | (with_reducible refine LeO.ite ?_ ?_)
      | (with_reducible refine LeO.bind ?_ (fun _ => ?_))
      | exact ih0 _ _ _ _ _ _
      | exact ih1 _ _ _
      | exact LeO.none _
      | refine LeO.ite ?_ ?_
      | refine LeO.bind ?_ (fun _ => ?_)
theorem gemotlaw1_TermParts.mono : ∀ a0 a1 a2 a3 k, LeO (gemotlaw1_TermParts.f k a0 a1 a2 a3) (gemotlaw1_TermParts.f (k + 1) a0 a1 a2 a3) := by
  intro a0 a1 a2 a3 k
  obtain ⟨ih0, ih1⟩ := gemotlaw1_TermParts.mono_l k
  unfold gemotlaw1_TermParts.f
  repeat' first
      | (with_reducible exact ih0 _ _ _ _ _ _)
      | (with_reducible exact ih1 _ _ _)
      | (with_reducible exact LeO.refl _)
      | (with_reducible exact LeO.none _)
      | (with_reducible refine LeO.ite ?_ ?_)
      | (with_reducible refine LeO.bind ?_ (fun _ => ?_))
      | exact ih0 _ _ _ _ _ _
      | exact ih1 _ _ _
      | exact LeO.none _
      | refine LeO.ite ?_ ?_
      | refine LeO.bind ?_ (fun _ => ?_)
set_option maxHeartbeats 8000000 in
set_option maxRecDepth 100000 in
theorem gemotlaw1_TermParts.calls (k : Nat) (A0 : Option Addr) (c0 : Nat) (l0 : List (S169)) (a1 : Int) (a2 : Int) (a3 : ByteArray) (r : Bool) (w : World) (hr0 : Kd.C k169 w A0 l0.length l0) (hc0 : l0.length ≤ c0) (h : gemotlaw1_TermParts.f k l0 a1 a2 a3 = some r) :
    Calls Try.prog 22 #[.slice A0 l0.length c0, .int .i64 a1, .int .i64 a2, .string a3] w fun e w' => e = .returned (.bool r) ∧ Below w.heap.size w w' := by
  have HR0 := Aside0.mk hr0
  have HC0 := Aside0.mk hc0
  clear hr0 hc0
  have HB := Aside0.mk (Below.refl w.heap.size w)
  have H : ((gemotlaw1_shown.f).bind fun t1001 => (if t1001 = true then (gemotlaw1_TermParts.j0 k l0 a1 a2 a3 t1001 (decide ((a3.size : Int) > 1000))) else (gemotlaw1_TermParts.j0 k l0 a1 a2 a3 t1001 true))) = some r := h
  clear h
  replace H := Option.bind_eq_some_iff.mp H
  obtain ⟨t1001, A50, H⟩ := H
  replace H : (if t1001 = true then (gemotlaw1_TermParts.j0 k l0 a1 a2 a3 t1001 (decide ((a3.size : Int) > 1000))) else (gemotlaw1_TermParts.j0 k l0 a1 a2 a3 t1001 true)) = some r := H
  have A5 := Aside0.mk A50
  clear A50
  have HC6 := Aside0.mk H
  clear H
  go_enter Try.func22, Try.ntmps22
  go_upto_region 2 with (first | ((with_reducible refine gate_callee (f := 78) rfl ?_); refine goesL_ (some 24) rfl rfl Try.func78 (by kernel_rfl) rfl #[] rfl (by (try simp only [List.map_toArray, List.map_cons, List.map_nil]); first | done | rfl | (simp only [List.length_drop, List.length_take]; rfl)) ?_; (with_reducible refine (gemotlaw1_shown.calls  t1001 _ A5.out).mono ?_); rintro e w7 ⟨rfl, hb⟩; refine ⟨_, rfl, ?_⟩; have n0_ := Aside0.mk (below_step (by repeat (first | (with_reducible first | exact HB.out | apply below_alloc | apply pw_below_drewN | apply below_drew1) | exact HB.out)) hb); clear HB; have HB := n0_; clear n0_; (try clear hb); (try clear hb2); (try clear hk); (try clear hi)))
  (try simp only [Act.put, List.setIfInBounds_toArray, List.set_cons_zero, List.set_cons_succ])
  go_cut [31] (fun v31 wc => ∃ (kq : Nat) (x31_5 : Bool), v31 = .bool x31_5 ∧ Aside0 (gemotlaw1_TermParts.j0 kq l0 a1 a2 a3 t1001 x31_5 = some r) ∧ Aside0 (kq ≤ k) ∧ Aside0 (Below w.heap.size w wc))
  case first =>
    have H := HC6.out
    clear HC6
    by_cases c8 : t1001 = true
    · subst c8
      have H1 : (gemotlaw1_TermParts.j0 k l0 a1 a2 a3 true (decide ((a3.size : Int) > 1000))) = some r := by rw [if_pos rfl] at H; exact H
      clear H
      have H := H1
      clear H1
      have H' := Aside0.mk H
      clear H
      go_wp2
      go_meet
      case rel => exact ⟨_, (decide ((a3.size : Int) > 1000)), (by first | rfl | (simp; done) | (simp [*]; done)), H', ⟨by first | omega | exact Nat.le_refl _⟩, ⟨by repeat (first | (with_reducible first | exact HB.out | apply below_alloc | apply pw_below_drewN | apply below_drew1) | exact HB.out)⟩⟩
    · replace c8 := Bool.eq_false_iff.mpr c8
      subst c8
      have H1 : (gemotlaw1_TermParts.j0 k l0 a1 a2 a3 false true) = some r := by rw [if_neg (show ¬ (false = true) by decide)] at H; exact H
      clear H
      have H := H1
      clear H1
      have H' := Aside0.mk H
      clear H
      go_wp2
      go_meet
      case rel => exact ⟨_, (true), (by first | rfl | (simp; done) | (simp [*]; done)), H', ⟨by first | omega | exact Nat.le_refl _⟩, ⟨by repeat (first | (with_reducible first | exact HB.out | apply below_alloc | apply pw_below_drewN | apply below_drew1) | exact HB.out)⟩⟩
  case rest =>
    clear HC6
    try clear c2
    try clear p2
    try clear c7
    try clear c8
    obtain ⟨kq, x31_5, rfl, HA, HJ5, HB⟩ := hcut
    cases kq with
    | zero => exact absurd HA.out (by simp [gemotlaw1_TermParts.j0])
    | succ kj5 =>
      have H := HA.out
      clear HA
      simp only [gemotlaw1_TermParts.j0] at H
      by_cases c9 : x31_5 = true
      · subst c9
        have H1 : (some t1001) = some r := by rw [if_pos rfl] at H; exact H
        clear H
        have H := H1
        clear H1
        obtain rfl := Option.some.inj H
        go_wp2
        go_ret
        exact ⟨by first | rfl | (simp [errW_none, errW_some] <;> rfl) | (simp [*, errW_none, errW_some] <;> rfl), by repeat (first | (with_reducible first | exact HB.out | apply below_alloc | apply pw_below_drewN | apply below_drew1) | exact HB.out)⟩
      · replace c9 := Bool.eq_false_iff.mpr c9
        subst c9
        have H1 : ((gemotlaw1_made.f l0).bind fun t1002 => ((gemotlaw1_pick.f a1 (t1002.length : Int)).bind fun t1005 => (if 0 ≤ t1005 then (if t1005 < (t1002.length : Int) then ((gemotlaw1_pick.f a2 (t1002.length : Int)).bind fun t1007 => (if 0 ≤ t1007 then (if t1007 < (t1002.length : Int) then ((term_Pair.f (rdOf ByteArray.empty t1002 t1005) (rdOf ByteArray.empty t1002 t1007)).bind fun bt1009 => ((term_Hash.f (rdOf ByteArray.empty t1002 t1005)).bind fun bt1011 => ((term_Sign.f (rdOf ByteArray.empty t1002 t1005) (rdOf ByteArray.empty t1002 t1007)).bind fun bt1013 => (if bt1009.2 = 0 then (if bt1011.2 = 0 then (if bt1013.2 = 0 then (if 1 + (rdOf ByteArray.empty t1002 t1005).size ≤ 9223372036854775807 then (if ((⟨#[112]⟩ : ByteArray) ++ (rdOf ByteArray.empty t1002 t1005)).size + (rdOf ByteArray.empty t1002 t1007).size ≤ 9223372036854775807 then (if bt1009.1.toList = (((⟨#[112]⟩ : ByteArray) ++ (rdOf ByteArray.empty t1002 t1005)) ++ (rdOf ByteArray.empty t1002 t1007)).toList then (if bt1011.1.toList = ((⟨#[104]⟩ : ByteArray) ++ (rdOf ByteArray.empty t1002 t1005)).toList then (if ((⟨#[120]⟩ : ByteArray) ++ (rdOf ByteArray.empty t1002 t1005)).size + (rdOf ByteArray.empty t1002 t1007).size ≤ 9223372036854775807 then (if bt1013.1.toList = (((⟨#[120]⟩ : ByteArray) ++ (rdOf ByteArray.empty t1002 t1005)) ++ (rdOf ByteArray.empty t1002 t1007)).toList then ((term_Depth.f bt1009.1).bind fun t1015 => ((term_Depth.f (rdOf ByteArray.empty t1002 t1005)).bind fun t1016 => ((term_Depth.f (rdOf ByteArray.empty t1002 t1007)).bind fun t1017 => (if t1015 = (wrap64 (1 + (mx t1016 t1017))) then ((term_Depth.f bt1011.1).bind fun t1018 => ((term_Depth.f (rdOf ByteArray.empty t1002 t1005)).bind fun t1019 => (gemotlaw1_TermParts.j1 kj5 a3 (rdOf ByteArray.empty t1002 t1005) (t1018 != (wrap64 (1 + t1019)))))) else (gemotlaw1_TermParts.j1 kj5 a3 (rdOf ByteArray.empty t1002 t1005) true))))) else (gemotlaw1_TermParts.j1 kj5 a3 (rdOf ByteArray.empty t1002 t1005) true)) else (none)) else (gemotlaw1_TermParts.j1 kj5 a3 (rdOf ByteArray.empty t1002 t1005) true)) else (gemotlaw1_TermParts.j1 kj5 a3 (rdOf ByteArray.empty t1002 t1005) true)) else (none)) else (none)) else (gemotlaw1_TermParts.j1 kj5 a3 (rdOf ByteArray.empty t1002 t1005) true)) else (gemotlaw1_TermParts.j1 kj5 a3 (rdOf ByteArray.empty t1002 t1005) true)) else (gemotlaw1_TermParts.j1 kj5 a3 (rdOf ByteArray.empty t1002 t1005) true))))) else (none)) else (none))) else (none)) else (none)))) = some r := by rw [if_neg (show ¬ (false = true) by decide)] at H; exact H
        clear H
        have H := H1
        clear H1
        replace H := Option.bind_eq_some_iff.mp H
        obtain ⟨t1002, A100, H⟩ := H
        replace H : ((gemotlaw1_pick.f a1 (t1002.length : Int)).bind fun t1005 => (if 0 ≤ t1005 then (if t1005 < (t1002.length : Int) then ((gemotlaw1_pick.f a2 (t1002.length : Int)).bind fun t1007 => (if 0 ≤ t1007 then (if t1007 < (t1002.length : Int) then ((term_Pair.f (rdOf ByteArray.empty t1002 t1005) (rdOf ByteArray.empty t1002 t1007)).bind fun bt1009 => ((term_Hash.f (rdOf ByteArray.empty t1002 t1005)).bind fun bt1011 => ((term_Sign.f (rdOf ByteArray.empty t1002 t1005) (rdOf ByteArray.empty t1002 t1007)).bind fun bt1013 => (if bt1009.2 = 0 then (if bt1011.2 = 0 then (if bt1013.2 = 0 then (if 1 + (rdOf ByteArray.empty t1002 t1005).size ≤ 9223372036854775807 then (if ((⟨#[112]⟩ : ByteArray) ++ (rdOf ByteArray.empty t1002 t1005)).size + (rdOf ByteArray.empty t1002 t1007).size ≤ 9223372036854775807 then (if bt1009.1.toList = (((⟨#[112]⟩ : ByteArray) ++ (rdOf ByteArray.empty t1002 t1005)) ++ (rdOf ByteArray.empty t1002 t1007)).toList then (if bt1011.1.toList = ((⟨#[104]⟩ : ByteArray) ++ (rdOf ByteArray.empty t1002 t1005)).toList then (if ((⟨#[120]⟩ : ByteArray) ++ (rdOf ByteArray.empty t1002 t1005)).size + (rdOf ByteArray.empty t1002 t1007).size ≤ 9223372036854775807 then (if bt1013.1.toList = (((⟨#[120]⟩ : ByteArray) ++ (rdOf ByteArray.empty t1002 t1005)) ++ (rdOf ByteArray.empty t1002 t1007)).toList then ((term_Depth.f bt1009.1).bind fun t1015 => ((term_Depth.f (rdOf ByteArray.empty t1002 t1005)).bind fun t1016 => ((term_Depth.f (rdOf ByteArray.empty t1002 t1007)).bind fun t1017 => (if t1015 = (wrap64 (1 + (mx t1016 t1017))) then ((term_Depth.f bt1011.1).bind fun t1018 => ((term_Depth.f (rdOf ByteArray.empty t1002 t1005)).bind fun t1019 => (gemotlaw1_TermParts.j1 kj5 a3 (rdOf ByteArray.empty t1002 t1005) (t1018 != (wrap64 (1 + t1019)))))) else (gemotlaw1_TermParts.j1 kj5 a3 (rdOf ByteArray.empty t1002 t1005) true))))) else (gemotlaw1_TermParts.j1 kj5 a3 (rdOf ByteArray.empty t1002 t1005) true)) else (none)) else (gemotlaw1_TermParts.j1 kj5 a3 (rdOf ByteArray.empty t1002 t1005) true)) else (gemotlaw1_TermParts.j1 kj5 a3 (rdOf ByteArray.empty t1002 t1005) true)) else (none)) else (none)) else (gemotlaw1_TermParts.j1 kj5 a3 (rdOf ByteArray.empty t1002 t1005) true)) else (gemotlaw1_TermParts.j1 kj5 a3 (rdOf ByteArray.empty t1002 t1005) true)) else (gemotlaw1_TermParts.j1 kj5 a3 (rdOf ByteArray.empty t1002 t1005) true))))) else (none)) else (none))) else (none)) else (none))) = some r := H
        have A10 := Aside0.mk A100
        clear A100
        replace H := Option.bind_eq_some_iff.mp H
        obtain ⟨t1005, A110, H⟩ := H
        replace H : (if 0 ≤ t1005 then (if t1005 < (t1002.length : Int) then ((gemotlaw1_pick.f a2 (t1002.length : Int)).bind fun t1007 => (if 0 ≤ t1007 then (if t1007 < (t1002.length : Int) then ((term_Pair.f (rdOf ByteArray.empty t1002 t1005) (rdOf ByteArray.empty t1002 t1007)).bind fun bt1009 => ((term_Hash.f (rdOf ByteArray.empty t1002 t1005)).bind fun bt1011 => ((term_Sign.f (rdOf ByteArray.empty t1002 t1005) (rdOf ByteArray.empty t1002 t1007)).bind fun bt1013 => (if bt1009.2 = 0 then (if bt1011.2 = 0 then (if bt1013.2 = 0 then (if 1 + (rdOf ByteArray.empty t1002 t1005).size ≤ 9223372036854775807 then (if ((⟨#[112]⟩ : ByteArray) ++ (rdOf ByteArray.empty t1002 t1005)).size + (rdOf ByteArray.empty t1002 t1007).size ≤ 9223372036854775807 then (if bt1009.1.toList = (((⟨#[112]⟩ : ByteArray) ++ (rdOf ByteArray.empty t1002 t1005)) ++ (rdOf ByteArray.empty t1002 t1007)).toList then (if bt1011.1.toList = ((⟨#[104]⟩ : ByteArray) ++ (rdOf ByteArray.empty t1002 t1005)).toList then (if ((⟨#[120]⟩ : ByteArray) ++ (rdOf ByteArray.empty t1002 t1005)).size + (rdOf ByteArray.empty t1002 t1007).size ≤ 9223372036854775807 then (if bt1013.1.toList = (((⟨#[120]⟩ : ByteArray) ++ (rdOf ByteArray.empty t1002 t1005)) ++ (rdOf ByteArray.empty t1002 t1007)).toList then ((term_Depth.f bt1009.1).bind fun t1015 => ((term_Depth.f (rdOf ByteArray.empty t1002 t1005)).bind fun t1016 => ((term_Depth.f (rdOf ByteArray.empty t1002 t1007)).bind fun t1017 => (if t1015 = (wrap64 (1 + (mx t1016 t1017))) then ((term_Depth.f bt1011.1).bind fun t1018 => ((term_Depth.f (rdOf ByteArray.empty t1002 t1005)).bind fun t1019 => (gemotlaw1_TermParts.j1 kj5 a3 (rdOf ByteArray.empty t1002 t1005) (t1018 != (wrap64 (1 + t1019)))))) else (gemotlaw1_TermParts.j1 kj5 a3 (rdOf ByteArray.empty t1002 t1005) true))))) else (gemotlaw1_TermParts.j1 kj5 a3 (rdOf ByteArray.empty t1002 t1005) true)) else (none)) else (gemotlaw1_TermParts.j1 kj5 a3 (rdOf ByteArray.empty t1002 t1005) true)) else (gemotlaw1_TermParts.j1 kj5 a3 (rdOf ByteArray.empty t1002 t1005) true)) else (none)) else (none)) else (gemotlaw1_TermParts.j1 kj5 a3 (rdOf ByteArray.empty t1002 t1005) true)) else (gemotlaw1_TermParts.j1 kj5 a3 (rdOf ByteArray.empty t1002 t1005) true)) else (gemotlaw1_TermParts.j1 kj5 a3 (rdOf ByteArray.empty t1002 t1005) true))))) else (none)) else (none))) else (none)) else (none)) = some r := H
        have A11 := Aside0.mk A110
        clear A110
        by_cases c12 : 0 ≤ t1005
        · rw [if_pos c12] at H
          have c12b0 : decide (0 ≤ t1005) = true := decide_eq_true c12
          clear c12
          by_cases c13 : t1005 < (t1002.length : Int)
          · rw [if_pos c13] at H
            have c13b0 : decide (t1005 < (t1002.length : Int)) = true := decide_eq_true c13
            clear c13
            replace H := Option.bind_eq_some_iff.mp H
            obtain ⟨t1007, A140, H⟩ := H
            replace H : (if 0 ≤ t1007 then (if t1007 < (t1002.length : Int) then ((term_Pair.f (rdOf ByteArray.empty t1002 t1005) (rdOf ByteArray.empty t1002 t1007)).bind fun bt1009 => ((term_Hash.f (rdOf ByteArray.empty t1002 t1005)).bind fun bt1011 => ((term_Sign.f (rdOf ByteArray.empty t1002 t1005) (rdOf ByteArray.empty t1002 t1007)).bind fun bt1013 => (if bt1009.2 = 0 then (if bt1011.2 = 0 then (if bt1013.2 = 0 then (if 1 + (rdOf ByteArray.empty t1002 t1005).size ≤ 9223372036854775807 then (if ((⟨#[112]⟩ : ByteArray) ++ (rdOf ByteArray.empty t1002 t1005)).size + (rdOf ByteArray.empty t1002 t1007).size ≤ 9223372036854775807 then (if bt1009.1.toList = (((⟨#[112]⟩ : ByteArray) ++ (rdOf ByteArray.empty t1002 t1005)) ++ (rdOf ByteArray.empty t1002 t1007)).toList then (if bt1011.1.toList = ((⟨#[104]⟩ : ByteArray) ++ (rdOf ByteArray.empty t1002 t1005)).toList then (if ((⟨#[120]⟩ : ByteArray) ++ (rdOf ByteArray.empty t1002 t1005)).size + (rdOf ByteArray.empty t1002 t1007).size ≤ 9223372036854775807 then (if bt1013.1.toList = (((⟨#[120]⟩ : ByteArray) ++ (rdOf ByteArray.empty t1002 t1005)) ++ (rdOf ByteArray.empty t1002 t1007)).toList then ((term_Depth.f bt1009.1).bind fun t1015 => ((term_Depth.f (rdOf ByteArray.empty t1002 t1005)).bind fun t1016 => ((term_Depth.f (rdOf ByteArray.empty t1002 t1007)).bind fun t1017 => (if t1015 = (wrap64 (1 + (mx t1016 t1017))) then ((term_Depth.f bt1011.1).bind fun t1018 => ((term_Depth.f (rdOf ByteArray.empty t1002 t1005)).bind fun t1019 => (gemotlaw1_TermParts.j1 kj5 a3 (rdOf ByteArray.empty t1002 t1005) (t1018 != (wrap64 (1 + t1019)))))) else (gemotlaw1_TermParts.j1 kj5 a3 (rdOf ByteArray.empty t1002 t1005) true))))) else (gemotlaw1_TermParts.j1 kj5 a3 (rdOf ByteArray.empty t1002 t1005) true)) else (none)) else (gemotlaw1_TermParts.j1 kj5 a3 (rdOf ByteArray.empty t1002 t1005) true)) else (gemotlaw1_TermParts.j1 kj5 a3 (rdOf ByteArray.empty t1002 t1005) true)) else (none)) else (none)) else (gemotlaw1_TermParts.j1 kj5 a3 (rdOf ByteArray.empty t1002 t1005) true)) else (gemotlaw1_TermParts.j1 kj5 a3 (rdOf ByteArray.empty t1002 t1005) true)) else (gemotlaw1_TermParts.j1 kj5 a3 (rdOf ByteArray.empty t1002 t1005) true))))) else (none)) else (none)) = some r := H
            have A14 := Aside0.mk A140
            clear A140
            by_cases c15 : 0 ≤ t1007
            · rw [if_pos c15] at H
              have c15b0 : decide (0 ≤ t1007) = true := decide_eq_true c15
              clear c15
              by_cases c16 : t1007 < (t1002.length : Int)
              · rw [if_pos c16] at H
                have c16b0 : decide (t1007 < (t1002.length : Int)) = true := decide_eq_true c16
                clear c16
                replace H := Option.bind_eq_some_iff.mp H
                obtain ⟨⟨t1009, t1010⟩, A170, H⟩ := H
                replace H : ((term_Hash.f (rdOf ByteArray.empty t1002 t1005)).bind fun bt1011 => ((term_Sign.f (rdOf ByteArray.empty t1002 t1005) (rdOf ByteArray.empty t1002 t1007)).bind fun bt1013 => (if t1010 = 0 then (if bt1011.2 = 0 then (if bt1013.2 = 0 then (if 1 + (rdOf ByteArray.empty t1002 t1005).size ≤ 9223372036854775807 then (if ((⟨#[112]⟩ : ByteArray) ++ (rdOf ByteArray.empty t1002 t1005)).size + (rdOf ByteArray.empty t1002 t1007).size ≤ 9223372036854775807 then (if t1009.toList = (((⟨#[112]⟩ : ByteArray) ++ (rdOf ByteArray.empty t1002 t1005)) ++ (rdOf ByteArray.empty t1002 t1007)).toList then (if bt1011.1.toList = ((⟨#[104]⟩ : ByteArray) ++ (rdOf ByteArray.empty t1002 t1005)).toList then (if ((⟨#[120]⟩ : ByteArray) ++ (rdOf ByteArray.empty t1002 t1005)).size + (rdOf ByteArray.empty t1002 t1007).size ≤ 9223372036854775807 then (if bt1013.1.toList = (((⟨#[120]⟩ : ByteArray) ++ (rdOf ByteArray.empty t1002 t1005)) ++ (rdOf ByteArray.empty t1002 t1007)).toList then ((term_Depth.f t1009).bind fun t1015 => ((term_Depth.f (rdOf ByteArray.empty t1002 t1005)).bind fun t1016 => ((term_Depth.f (rdOf ByteArray.empty t1002 t1007)).bind fun t1017 => (if t1015 = (wrap64 (1 + (mx t1016 t1017))) then ((term_Depth.f bt1011.1).bind fun t1018 => ((term_Depth.f (rdOf ByteArray.empty t1002 t1005)).bind fun t1019 => (gemotlaw1_TermParts.j1 kj5 a3 (rdOf ByteArray.empty t1002 t1005) (t1018 != (wrap64 (1 + t1019)))))) else (gemotlaw1_TermParts.j1 kj5 a3 (rdOf ByteArray.empty t1002 t1005) true))))) else (gemotlaw1_TermParts.j1 kj5 a3 (rdOf ByteArray.empty t1002 t1005) true)) else (none)) else (gemotlaw1_TermParts.j1 kj5 a3 (rdOf ByteArray.empty t1002 t1005) true)) else (gemotlaw1_TermParts.j1 kj5 a3 (rdOf ByteArray.empty t1002 t1005) true)) else (none)) else (none)) else (gemotlaw1_TermParts.j1 kj5 a3 (rdOf ByteArray.empty t1002 t1005) true)) else (gemotlaw1_TermParts.j1 kj5 a3 (rdOf ByteArray.empty t1002 t1005) true)) else (gemotlaw1_TermParts.j1 kj5 a3 (rdOf ByteArray.empty t1002 t1005) true)))) = some r := H
                have A17 := Aside0.mk A170
                clear A170
                replace H := Option.bind_eq_some_iff.mp H
                obtain ⟨⟨t1011, t1012⟩, A180, H⟩ := H
                replace H : ((term_Sign.f (rdOf ByteArray.empty t1002 t1005) (rdOf ByteArray.empty t1002 t1007)).bind fun bt1013 => (if t1010 = 0 then (if t1012 = 0 then (if bt1013.2 = 0 then (if 1 + (rdOf ByteArray.empty t1002 t1005).size ≤ 9223372036854775807 then (if ((⟨#[112]⟩ : ByteArray) ++ (rdOf ByteArray.empty t1002 t1005)).size + (rdOf ByteArray.empty t1002 t1007).size ≤ 9223372036854775807 then (if t1009.toList = (((⟨#[112]⟩ : ByteArray) ++ (rdOf ByteArray.empty t1002 t1005)) ++ (rdOf ByteArray.empty t1002 t1007)).toList then (if t1011.toList = ((⟨#[104]⟩ : ByteArray) ++ (rdOf ByteArray.empty t1002 t1005)).toList then (if ((⟨#[120]⟩ : ByteArray) ++ (rdOf ByteArray.empty t1002 t1005)).size + (rdOf ByteArray.empty t1002 t1007).size ≤ 9223372036854775807 then (if bt1013.1.toList = (((⟨#[120]⟩ : ByteArray) ++ (rdOf ByteArray.empty t1002 t1005)) ++ (rdOf ByteArray.empty t1002 t1007)).toList then ((term_Depth.f t1009).bind fun t1015 => ((term_Depth.f (rdOf ByteArray.empty t1002 t1005)).bind fun t1016 => ((term_Depth.f (rdOf ByteArray.empty t1002 t1007)).bind fun t1017 => (if t1015 = (wrap64 (1 + (mx t1016 t1017))) then ((term_Depth.f t1011).bind fun t1018 => ((term_Depth.f (rdOf ByteArray.empty t1002 t1005)).bind fun t1019 => (gemotlaw1_TermParts.j1 kj5 a3 (rdOf ByteArray.empty t1002 t1005) (t1018 != (wrap64 (1 + t1019)))))) else (gemotlaw1_TermParts.j1 kj5 a3 (rdOf ByteArray.empty t1002 t1005) true))))) else (gemotlaw1_TermParts.j1 kj5 a3 (rdOf ByteArray.empty t1002 t1005) true)) else (none)) else (gemotlaw1_TermParts.j1 kj5 a3 (rdOf ByteArray.empty t1002 t1005) true)) else (gemotlaw1_TermParts.j1 kj5 a3 (rdOf ByteArray.empty t1002 t1005) true)) else (none)) else (none)) else (gemotlaw1_TermParts.j1 kj5 a3 (rdOf ByteArray.empty t1002 t1005) true)) else (gemotlaw1_TermParts.j1 kj5 a3 (rdOf ByteArray.empty t1002 t1005) true)) else (gemotlaw1_TermParts.j1 kj5 a3 (rdOf ByteArray.empty t1002 t1005) true))) = some r := H
                have A18 := Aside0.mk A180
                clear A180
                replace H := Option.bind_eq_some_iff.mp H
                obtain ⟨⟨t1013, t1014⟩, A190, H⟩ := H
                replace H : (if t1010 = 0 then (if t1012 = 0 then (if t1014 = 0 then (if 1 + (rdOf ByteArray.empty t1002 t1005).size ≤ 9223372036854775807 then (if ((⟨#[112]⟩ : ByteArray) ++ (rdOf ByteArray.empty t1002 t1005)).size + (rdOf ByteArray.empty t1002 t1007).size ≤ 9223372036854775807 then (if t1009.toList = (((⟨#[112]⟩ : ByteArray) ++ (rdOf ByteArray.empty t1002 t1005)) ++ (rdOf ByteArray.empty t1002 t1007)).toList then (if t1011.toList = ((⟨#[104]⟩ : ByteArray) ++ (rdOf ByteArray.empty t1002 t1005)).toList then (if ((⟨#[120]⟩ : ByteArray) ++ (rdOf ByteArray.empty t1002 t1005)).size + (rdOf ByteArray.empty t1002 t1007).size ≤ 9223372036854775807 then (if t1013.toList = (((⟨#[120]⟩ : ByteArray) ++ (rdOf ByteArray.empty t1002 t1005)) ++ (rdOf ByteArray.empty t1002 t1007)).toList then ((term_Depth.f t1009).bind fun t1015 => ((term_Depth.f (rdOf ByteArray.empty t1002 t1005)).bind fun t1016 => ((term_Depth.f (rdOf ByteArray.empty t1002 t1007)).bind fun t1017 => (if t1015 = (wrap64 (1 + (mx t1016 t1017))) then ((term_Depth.f t1011).bind fun t1018 => ((term_Depth.f (rdOf ByteArray.empty t1002 t1005)).bind fun t1019 => (gemotlaw1_TermParts.j1 kj5 a3 (rdOf ByteArray.empty t1002 t1005) (t1018 != (wrap64 (1 + t1019)))))) else (gemotlaw1_TermParts.j1 kj5 a3 (rdOf ByteArray.empty t1002 t1005) true))))) else (gemotlaw1_TermParts.j1 kj5 a3 (rdOf ByteArray.empty t1002 t1005) true)) else (none)) else (gemotlaw1_TermParts.j1 kj5 a3 (rdOf ByteArray.empty t1002 t1005) true)) else (gemotlaw1_TermParts.j1 kj5 a3 (rdOf ByteArray.empty t1002 t1005) true)) else (none)) else (none)) else (gemotlaw1_TermParts.j1 kj5 a3 (rdOf ByteArray.empty t1002 t1005) true)) else (gemotlaw1_TermParts.j1 kj5 a3 (rdOf ByteArray.empty t1002 t1005) true)) else (gemotlaw1_TermParts.j1 kj5 a3 (rdOf ByteArray.empty t1002 t1005) true)) = some r := H
                have A19 := Aside0.mk A190
                clear A190
                have HC20 := Aside0.mk H
                clear H
                go_upto_region 10 with (first | ((with_reducible refine gate_callee (f := 97) rfl ?_); refine goesL_ (some 34) rfl rfl Try.func97 (by kernel_rfl) rfl #[.slice A0 l0.length c0] rfl (by (try simp only [List.map_toArray, List.map_cons, List.map_nil]); first | done | rfl | (simp only [List.length_drop, List.length_take]; rfl)) ?_; (with_reducible refine (gemotlaw1_made.calls _ _ l0 t1002 _ ?side1 ?side2 A10.out).mono ?_); (case side1 => repeat (first | exact (Kd.C_below HR0.out HB.out) | (with_reducible refine Kd.C_alloc ?_ _) | (with_reducible refine Kd.C_drewN ?_ _) | (with_reducible refine Kd.C_drew ?_))); (case side2 => exact HC0.out); rintro e w21 ⟨v1003, rfl, ho0, hb⟩; refine ⟨_, rfl, ?_⟩; have n0_ := Aside0.mk (Kd.R_lower ho0 (below_size (by repeat (first | (with_reducible first | exact HB.out | apply below_alloc | apply pw_below_drewN | apply below_drew1) | exact HB.out)))); have n1_ := Aside0.mk (below_step (by repeat (first | (with_reducible first | exact HB.out | apply below_alloc | apply pw_below_drewN | apply below_drew1) | exact HB.out)) hb); clear HB; have HO1004 := n0_; have HB := n1_; clear n0_ n1_; (try clear hb); (try clear hb2); (try clear hk); (try clear hi); (try clear ho0); obtain ⟨Ao22, co22, eo22⟩ := Kd.R_slice HO1004.out; subst eo22) | ((with_reducible refine gate_callee (f := 98) rfl ?_); refine goesL_ (some 39) rfl rfl Try.func98 (by kernel_rfl) rfl #[.int .i64 a1, .int .i64 (t1002.length : Int)] rfl (by (try simp only [List.map_toArray, List.map_cons, List.map_nil]); first | done | rfl | (simp only [List.length_drop, List.length_take]; rfl)) ?_; (with_reducible refine (gemotlaw1_pick.calls a1 (t1002.length : Int) t1005 _ A11.out).mono ?_); rintro e w' ⟨rfl, ⟨nd, rfl⟩⟩; refine ⟨_, rfl, ?_⟩; have p1006 : 0 ≤ (t1005 : Int) := of_decide_eq_true (by first | (with_reducible assumption) | assumption); have q1006 : t1005 < (t1002.length : Int) := of_decide_eq_true (by first | (with_reducible assumption) | assumption); obtain ⟨ad1006, e1006, hx1006_0⟩ := Kd.at_string (Kd.R_reads' HO1004.out).2.2 t1005 p1006 q1006; cases e1006; replace p1006 := eq_true p1006; replace q1006 := eq_true q1006) | ((with_reducible refine gate_callee (f := 98) rfl ?_); refine goesL_ (some 46) rfl rfl Try.func98 (by kernel_rfl) rfl #[.int .i64 a2, .int .i64 (t1002.length : Int)] rfl (by (try simp only [List.map_toArray, List.map_cons, List.map_nil]); first | done | rfl | (simp only [List.length_drop, List.length_take]; rfl)) ?_; (with_reducible refine (gemotlaw1_pick.calls a2 (t1002.length : Int) t1007 _ A14.out).mono ?_); rintro e w' ⟨rfl, ⟨nd, rfl⟩⟩; refine ⟨_, rfl, ?_⟩; have p1008 : 0 ≤ (t1007 : Int) := of_decide_eq_true (by first | (with_reducible assumption) | assumption); have q1008 : t1007 < (t1002.length : Int) := of_decide_eq_true (by first | (with_reducible assumption) | assumption); obtain ⟨ad1008, e1008, hx1008_0⟩ := Kd.at_string (Kd.R_reads' HO1004.out).2.2 t1007 p1008 q1008; obtain rfl : ad1006 = ad1008 := (by injection e1008); replace p1008 := eq_true p1008; replace q1008 := eq_true q1008) | ((with_reducible refine gate_callee (f := 92) rfl ?_); refine goesL_ (some 52) rfl rfl Try.func92 (by kernel_rfl) rfl #[.string (rdOf ByteArray.empty t1002 t1005), .string (rdOf ByteArray.empty t1002 t1007)] rfl (by (try simp only [List.map_toArray, List.map_cons, List.map_nil]); first | done | rfl | (simp only [List.length_drop, List.length_take]; rfl)) ?_; (with_reducible refine (term_Pair.calls (rdOf ByteArray.empty t1002 t1005) (rdOf ByteArray.empty t1002 t1007) t1009 t1010 _ A17.out).mono ?_); rintro e w23 ⟨rfl, hb⟩; refine ⟨_, rfl, ?_⟩; have n0_ := Aside0.mk (Kd.R_below (by (with_reducible repeat (first | apply Kd.R_alloc | apply Kd.R_drewN | apply Kd.R_drew)); exact HO1004.out) hb); have n1_ := Aside0.mk (below_step (by repeat (first | (with_reducible first | exact HB.out | apply below_alloc | apply pw_below_drewN | apply below_drew1) | exact HB.out)) hb); clear HO1004; clear HB; have HO1004 := n0_; have HB := n1_; clear n0_ n1_; (try clear hb); (try clear hb2); (try clear hk); (try clear hi)) | ((with_reducible refine gate_callee (f := 94) rfl ?_); refine goesL_ (some 57) rfl rfl Try.func94 (by kernel_rfl) rfl #[.string (rdOf ByteArray.empty t1002 t1005)] rfl (by (try simp only [List.map_toArray, List.map_cons, List.map_nil]); first | done | rfl | (simp only [List.length_drop, List.length_take]; rfl)) ?_; (with_reducible refine (term_Hash.calls (rdOf ByteArray.empty t1002 t1005) t1011 t1012 _ A18.out).mono ?_); rintro e w24 ⟨rfl, hb⟩; refine ⟨_, rfl, ?_⟩; have n0_ := Aside0.mk (Kd.R_below (by (with_reducible repeat (first | apply Kd.R_alloc | apply Kd.R_drewN | apply Kd.R_drew)); exact HO1004.out) hb); have n1_ := Aside0.mk (below_step (by repeat (first | (with_reducible first | exact HB.out | apply below_alloc | apply pw_below_drewN | apply below_drew1) | exact HB.out)) hb); clear HO1004; clear HB; have HO1004 := n0_; have HB := n1_; clear n0_ n1_; (try clear hb); (try clear hb2); (try clear hk); (try clear hi)) | ((with_reducible refine gate_callee (f := 96) rfl ?_); refine goesL_ (some 63) rfl rfl Try.func96 (by kernel_rfl) rfl #[.string (rdOf ByteArray.empty t1002 t1005), .string (rdOf ByteArray.empty t1002 t1007)] rfl (by (try simp only [List.map_toArray, List.map_cons, List.map_nil]); first | done | rfl | (simp only [List.length_drop, List.length_take]; rfl)) ?_; (with_reducible refine (term_Sign.calls (rdOf ByteArray.empty t1002 t1005) (rdOf ByteArray.empty t1002 t1007) t1013 t1014 _ A19.out).mono ?_); rintro e w25 ⟨rfl, hb⟩; refine ⟨_, rfl, ?_⟩; have n0_ := Aside0.mk (Kd.R_below (by (with_reducible repeat (first | apply Kd.R_alloc | apply Kd.R_drewN | apply Kd.R_drew)); exact HO1004.out) hb); have n1_ := Aside0.mk (below_step (by repeat (first | (with_reducible first | exact HB.out | apply below_alloc | apply pw_below_drewN | apply below_drew1) | exact HB.out)) hb); clear HO1004; clear HB; have HO1004 := n0_; have HB := n1_; clear n0_ n1_; (try clear hb); (try clear hb2); (try clear hk); (try clear hi)))
                (try simp only [Act.put, List.setIfInBounds_toArray, List.set_cons_zero, List.set_cons_succ])
                go_cut [116] (fun v116 wc => ∃ (kq : Nat) (x116_19 : Bool), v116 = .bool x116_19 ∧ Aside0 (gemotlaw1_TermParts.j1 kq a3 (rdOf ByteArray.empty t1002 t1005) x116_19 = some r) ∧ Aside0 (kq ≤ kj5) ∧ Aside0 (Below w.heap.size w wc))
                case first =>
                  have H := HC20.out
                  clear HC20
                  by_cases c26 : t1010 = 0
                  · rw [if_pos c26] at H
                    have c26b0 : (t1010 == 0) = true := beq_iff_eq.mpr c26
                    have c26b1 : (t1010 != 0) = false := bne_eq_false_iff_eq.mpr c26
                    clear c26
                    (first | rw [c26b0] | (simp only [i64_w, i32_w]; rw [c26b0]) | skip)
                    by_cases c27 : t1012 = 0
                    · rw [if_pos c27] at H
                      have c27b0 : (t1012 == 0) = true := beq_iff_eq.mpr c27
                      have c27b1 : (t1012 != 0) = false := bne_eq_false_iff_eq.mpr c27
                      clear c27
                      by_cases c28 : t1014 = 0
                      · rw [if_pos c28] at H
                        have c28b0 : (t1014 == 0) = true := beq_iff_eq.mpr c28
                        have c28b1 : (t1014 != 0) = false := bne_eq_false_iff_eq.mpr c28
                        clear c28
                        by_cases c29 : 1 + (rdOf ByteArray.empty t1002 t1005).size ≤ 9223372036854775807
                        · rw [if_pos c29] at H
                          have c29b0 := eq_true c29
                          have c29b1 : decide (1 + (rdOf ByteArray.empty t1002 t1005).size ≤ 9223372036854775807) = true := decide_eq_true c29
                          try have c29b2 : (9223372036854775807 < 1 + (rdOf ByteArray.empty t1002 t1005).size) = False := eq_false (Nat.not_lt.2 c29)
                          by_cases c30 : ((⟨#[112]⟩ : ByteArray) ++ (rdOf ByteArray.empty t1002 t1005)).size + (rdOf ByteArray.empty t1002 t1007).size ≤ 9223372036854775807
                          · rw [if_pos c30] at H
                            have c30b0 := eq_true c30
                            have c30b1 : decide (((⟨#[112]⟩ : ByteArray) ++ (rdOf ByteArray.empty t1002 t1005)).size + (rdOf ByteArray.empty t1002 t1007).size ≤ 9223372036854775807) = true := decide_eq_true c30
                            try have c30b2 : (9223372036854775807 < ((⟨#[112]⟩ : ByteArray) ++ (rdOf ByteArray.empty t1002 t1005)).size + (rdOf ByteArray.empty t1002 t1007).size) = False := eq_false (Nat.not_lt.2 c30)
                            by_cases c31 : t1009.toList = (((⟨#[112]⟩ : ByteArray) ++ (rdOf ByteArray.empty t1002 t1005)) ++ (rdOf ByteArray.empty t1002 t1007)).toList
                            · rw [if_pos c31] at H
                              have c31b0 : (t1009.toList == (((⟨#[112]⟩ : ByteArray) ++ (rdOf ByteArray.empty t1002 t1005)) ++ (rdOf ByteArray.empty t1002 t1007)).toList) = true := beq_iff_eq.mpr c31
                              have c31b1 : (t1009.toList != (((⟨#[112]⟩ : ByteArray) ++ (rdOf ByteArray.empty t1002 t1005)) ++ (rdOf ByteArray.empty t1002 t1007)).toList) = false := bne_eq_false_iff_eq.mpr c31
                              clear c31
                              by_cases c32 : t1011.toList = ((⟨#[104]⟩ : ByteArray) ++ (rdOf ByteArray.empty t1002 t1005)).toList
                              · rw [if_pos c32] at H
                                have c32b0 : (t1011.toList == ((⟨#[104]⟩ : ByteArray) ++ (rdOf ByteArray.empty t1002 t1005)).toList) = true := beq_iff_eq.mpr c32
                                have c32b1 : (t1011.toList != ((⟨#[104]⟩ : ByteArray) ++ (rdOf ByteArray.empty t1002 t1005)).toList) = false := bne_eq_false_iff_eq.mpr c32
                                clear c32
                                by_cases c33 : ((⟨#[120]⟩ : ByteArray) ++ (rdOf ByteArray.empty t1002 t1005)).size + (rdOf ByteArray.empty t1002 t1007).size ≤ 9223372036854775807
                                · rw [if_pos c33] at H
                                  have c33b0 := eq_true c33
                                  have c33b1 : decide (((⟨#[120]⟩ : ByteArray) ++ (rdOf ByteArray.empty t1002 t1005)).size + (rdOf ByteArray.empty t1002 t1007).size ≤ 9223372036854775807) = true := decide_eq_true c33
                                  try have c33b2 : (9223372036854775807 < ((⟨#[120]⟩ : ByteArray) ++ (rdOf ByteArray.empty t1002 t1005)).size + (rdOf ByteArray.empty t1002 t1007).size) = False := eq_false (Nat.not_lt.2 c33)
                                  by_cases c34 : t1013.toList = (((⟨#[120]⟩ : ByteArray) ++ (rdOf ByteArray.empty t1002 t1005)) ++ (rdOf ByteArray.empty t1002 t1007)).toList
                                  · rw [if_pos c34] at H
                                    have c34b0 : (t1013.toList == (((⟨#[120]⟩ : ByteArray) ++ (rdOf ByteArray.empty t1002 t1005)) ++ (rdOf ByteArray.empty t1002 t1007)).toList) = true := beq_iff_eq.mpr c34
                                    have c34b1 : (t1013.toList != (((⟨#[120]⟩ : ByteArray) ++ (rdOf ByteArray.empty t1002 t1005)) ++ (rdOf ByteArray.empty t1002 t1007)).toList) = false := bne_eq_false_iff_eq.mpr c34
                                    clear c34
                                    replace H := Option.bind_eq_some_iff.mp H
                                    obtain ⟨t1015, A350, H⟩ := H
                                    replace H : ((term_Depth.f (rdOf ByteArray.empty t1002 t1005)).bind fun t1016 => ((term_Depth.f (rdOf ByteArray.empty t1002 t1007)).bind fun t1017 => (if t1015 = (wrap64 (1 + (mx t1016 t1017))) then ((term_Depth.f t1011).bind fun t1018 => ((term_Depth.f (rdOf ByteArray.empty t1002 t1005)).bind fun t1019 => (gemotlaw1_TermParts.j1 kj5 a3 (rdOf ByteArray.empty t1002 t1005) (t1018 != (wrap64 (1 + t1019)))))) else (gemotlaw1_TermParts.j1 kj5 a3 (rdOf ByteArray.empty t1002 t1005) true)))) = some r := H
                                    have A35 := Aside0.mk A350
                                    clear A350
                                    replace H := Option.bind_eq_some_iff.mp H
                                    obtain ⟨t1016, A360, H⟩ := H
                                    replace H : ((term_Depth.f (rdOf ByteArray.empty t1002 t1007)).bind fun t1017 => (if t1015 = (wrap64 (1 + (mx t1016 t1017))) then ((term_Depth.f t1011).bind fun t1018 => ((term_Depth.f (rdOf ByteArray.empty t1002 t1005)).bind fun t1019 => (gemotlaw1_TermParts.j1 kj5 a3 (rdOf ByteArray.empty t1002 t1005) (t1018 != (wrap64 (1 + t1019)))))) else (gemotlaw1_TermParts.j1 kj5 a3 (rdOf ByteArray.empty t1002 t1005) true))) = some r := H
                                    have A36 := Aside0.mk A360
                                    clear A360
                                    replace H := Option.bind_eq_some_iff.mp H
                                    obtain ⟨t1017, A370, H⟩ := H
                                    replace H : (if t1015 = (wrap64 (1 + (mx t1016 t1017))) then ((term_Depth.f t1011).bind fun t1018 => ((term_Depth.f (rdOf ByteArray.empty t1002 t1005)).bind fun t1019 => (gemotlaw1_TermParts.j1 kj5 a3 (rdOf ByteArray.empty t1002 t1005) (t1018 != (wrap64 (1 + t1019)))))) else (gemotlaw1_TermParts.j1 kj5 a3 (rdOf ByteArray.empty t1002 t1005) true)) = some r := H
                                    have A37 := Aside0.mk A370
                                    clear A370
                                    obtain ⟨ji38, hji38⟩ : ∃ j_ : Int, (mx t1016 t1017) = j_ := ⟨_, rfl⟩
                                    replace H : (if t1015 = (wrap64 (1 + (ji38))) then ((term_Depth.f t1011).bind fun t1018 => ((term_Depth.f (rdOf ByteArray.empty t1002 t1005)).bind fun t1019 => (gemotlaw1_TermParts.j1 kj5 a3 (rdOf ByteArray.empty t1002 t1005) (t1018 != (wrap64 (1 + t1019)))))) else (gemotlaw1_TermParts.j1 kj5 a3 (rdOf ByteArray.empty t1002 t1005) true)) = some r := by first | (rw [hji38] at H; exact H) | (simp only [hji38] at H ⊢; exact H)
                                    (try rw [hji38] at A35)
                                    (try rw [hji38] at A36)
                                    (try rw [hji38] at A37)
                                    have hji38_ : (if t1016 < t1017 then t1017 else t1016) = ji38 := hji38
                                    by_cases c39 : t1015 = (wrap64 (1 + (ji38)))
                                    · rw [if_pos c39] at H
                                      have c39b0 : (t1015 == (wrap64 (1 + (ji38)))) = true := beq_iff_eq.mpr c39
                                      have c39b1 : (t1015 != (wrap64 (1 + (ji38)))) = false := bne_eq_false_iff_eq.mpr c39
                                      clear c39
                                      replace H := Option.bind_eq_some_iff.mp H
                                      obtain ⟨t1018, A400, H⟩ := H
                                      replace H : ((term_Depth.f (rdOf ByteArray.empty t1002 t1005)).bind fun t1019 => (gemotlaw1_TermParts.j1 kj5 a3 (rdOf ByteArray.empty t1002 t1005) (t1018 != (wrap64 (1 + t1019))))) = some r := H
                                      have A40 := Aside0.mk A400
                                      clear A400
                                      replace H := Option.bind_eq_some_iff.mp H
                                      obtain ⟨t1019, A410, H⟩ := H
                                      replace H : (gemotlaw1_TermParts.j1 kj5 a3 (rdOf ByteArray.empty t1002 t1005) (t1018 != (wrap64 (1 + t1019)))) = some r := H
                                      have A41 := Aside0.mk A410
                                      clear A410
                                      have H' := Aside0.mk H
                                      clear H
                                      obtain rfl : t1016 = t1019 := Option.some.inj (A36.out.symm.trans A41.out)
                                      go_wp2_with (first | (go_at_call 87; (with_reducible refine (term_Depth.calls t1009 t1015 _ A35.out).mono ?_); rintro e w42 ⟨rfl, hb⟩; have n0_ := Aside0.mk (Kd.R_below (by (with_reducible repeat (first | apply Kd.R_alloc | apply Kd.R_drewN | apply Kd.R_drew)); exact HO1004.out) hb); have n1_ := Aside0.mk (below_step (by repeat (first | (with_reducible first | exact HB.out | apply below_alloc | apply pw_below_drewN | apply below_drew1) | exact HB.out)) hb); clear HO1004; clear HB; have HO1004 := n0_; have HB := n1_; clear n0_ n1_; (try clear hb); (try clear hb2); (try clear hk); (try clear hi)) | (go_at_call 87; (with_reducible refine (term_Depth.calls (rdOf ByteArray.empty t1002 t1005) t1016 _ A36.out).mono ?_); rintro e w43 ⟨rfl, hb⟩; have n0_ := Aside0.mk (Kd.R_below (by (with_reducible repeat (first | apply Kd.R_alloc | apply Kd.R_drewN | apply Kd.R_drew)); exact HO1004.out) hb); have n1_ := Aside0.mk (below_step (by repeat (first | (with_reducible first | exact HB.out | apply below_alloc | apply pw_below_drewN | apply below_drew1) | exact HB.out)) hb); clear HO1004; clear HB; have HO1004 := n0_; have HB := n1_; clear n0_ n1_; (try clear hb); (try clear hb2); (try clear hk); (try clear hi)) | (go_at_call 87; (with_reducible refine (term_Depth.calls (rdOf ByteArray.empty t1002 t1007) t1017 _ A37.out).mono ?_); rintro e w44 ⟨rfl, hb⟩; have n0_ := Aside0.mk (Kd.R_below (by (with_reducible repeat (first | apply Kd.R_alloc | apply Kd.R_drewN | apply Kd.R_drew)); exact HO1004.out) hb); have n1_ := Aside0.mk (below_step (by repeat (first | (with_reducible first | exact HB.out | apply below_alloc | apply pw_below_drewN | apply below_drew1) | exact HB.out)) hb); clear HO1004; clear HB; have HO1004 := n0_; have HB := n1_; clear n0_ n1_; (try clear hb); (try clear hb2); (try clear hk); (try clear hi)) | (go_at_call 87; (with_reducible refine (term_Depth.calls t1011 t1018 _ A40.out).mono ?_); rintro e w45 ⟨rfl, hb⟩; have n0_ := Aside0.mk (Kd.R_below (by (with_reducible repeat (first | apply Kd.R_alloc | apply Kd.R_drewN | apply Kd.R_drew)); exact HO1004.out) hb); have n1_ := Aside0.mk (below_step (by repeat (first | (with_reducible first | exact HB.out | apply below_alloc | apply pw_below_drewN | apply below_drew1) | exact HB.out)) hb); clear HO1004; clear HB; have HO1004 := n0_; have HB := n1_; clear n0_ n1_; (try clear hb); (try clear hb2); (try clear hk); (try clear hi)) | (go_at_call 87; (with_reducible refine (term_Depth.calls (rdOf ByteArray.empty t1002 t1005) t1016 _ A41.out).mono ?_); rintro e w46 ⟨rfl, hb⟩; have n0_ := Aside0.mk (Kd.R_below (by (with_reducible repeat (first | apply Kd.R_alloc | apply Kd.R_drewN | apply Kd.R_drew)); exact HO1004.out) hb); have n1_ := Aside0.mk (below_step (by repeat (first | (with_reducible first | exact HB.out | apply below_alloc | apply pw_below_drewN | apply below_drew1) | exact HB.out)) hb); clear HO1004; clear HB; have HO1004 := n0_; have HB := n1_; clear n0_ n1_; (try clear hb); (try clear hb2); (try clear hk); (try clear hi)))
                                      go_meet
                                      case rel => exact ⟨_, ((t1018 != (wrap64 (1 + t1016)))), (by first | rfl | (simp; done) | (simp [*]; done)), H', ⟨by have := HJ5.out; first | omega | exact Nat.le_refl _⟩, ⟨by repeat (first | (with_reducible first | exact HB.out | apply below_alloc | apply pw_below_drewN | apply below_drew1) | exact HB.out)⟩⟩
                                    · rw [if_neg c39] at H
                                      have c39b0 : (t1015 == (wrap64 (1 + (ji38)))) = false := beq_eq_false_iff_ne.mpr c39
                                      have c39b1 : (t1015 != (wrap64 (1 + (ji38)))) = true := bne_iff_ne.mpr c39
                                      have H' := Aside0.mk H
                                      clear H
                                      go_wp2_with (first | (go_at_call 87; (with_reducible refine (term_Depth.calls t1009 t1015 _ A35.out).mono ?_); rintro e w47 ⟨rfl, hb⟩; have n0_ := Aside0.mk (Kd.R_below (by (with_reducible repeat (first | apply Kd.R_alloc | apply Kd.R_drewN | apply Kd.R_drew)); exact HO1004.out) hb); have n1_ := Aside0.mk (below_step (by repeat (first | (with_reducible first | exact HB.out | apply below_alloc | apply pw_below_drewN | apply below_drew1) | exact HB.out)) hb); clear HO1004; clear HB; have HO1004 := n0_; have HB := n1_; clear n0_ n1_; (try clear hb); (try clear hb2); (try clear hk); (try clear hi)) | (go_at_call 87; (with_reducible refine (term_Depth.calls (rdOf ByteArray.empty t1002 t1005) t1016 _ A36.out).mono ?_); rintro e w48 ⟨rfl, hb⟩; have n0_ := Aside0.mk (Kd.R_below (by (with_reducible repeat (first | apply Kd.R_alloc | apply Kd.R_drewN | apply Kd.R_drew)); exact HO1004.out) hb); have n1_ := Aside0.mk (below_step (by repeat (first | (with_reducible first | exact HB.out | apply below_alloc | apply pw_below_drewN | apply below_drew1) | exact HB.out)) hb); clear HO1004; clear HB; have HO1004 := n0_; have HB := n1_; clear n0_ n1_; (try clear hb); (try clear hb2); (try clear hk); (try clear hi)) | (go_at_call 87; (with_reducible refine (term_Depth.calls (rdOf ByteArray.empty t1002 t1007) t1017 _ A37.out).mono ?_); rintro e w49 ⟨rfl, hb⟩; have n0_ := Aside0.mk (Kd.R_below (by (with_reducible repeat (first | apply Kd.R_alloc | apply Kd.R_drewN | apply Kd.R_drew)); exact HO1004.out) hb); have n1_ := Aside0.mk (below_step (by repeat (first | (with_reducible first | exact HB.out | apply below_alloc | apply pw_below_drewN | apply below_drew1) | exact HB.out)) hb); clear HO1004; clear HB; have HO1004 := n0_; have HB := n1_; clear n0_ n1_; (try clear hb); (try clear hb2); (try clear hk); (try clear hi)))
                                      go_meet
                                      case rel => exact ⟨_, (true), (by first | rfl | (simp; done) | (simp [*]; done)), H', ⟨by have := HJ5.out; first | omega | exact Nat.le_refl _⟩, ⟨by repeat (first | (with_reducible first | exact HB.out | apply below_alloc | apply pw_below_drewN | apply below_drew1) | exact HB.out)⟩⟩
                                  · rw [if_neg c34] at H
                                    have c34b0 : (t1013.toList == (((⟨#[120]⟩ : ByteArray) ++ (rdOf ByteArray.empty t1002 t1005)) ++ (rdOf ByteArray.empty t1002 t1007)).toList) = false := beq_eq_false_iff_ne.mpr c34
                                    have c34b1 : (t1013.toList != (((⟨#[120]⟩ : ByteArray) ++ (rdOf ByteArray.empty t1002 t1005)) ++ (rdOf ByteArray.empty t1002 t1007)).toList) = true := bne_iff_ne.mpr c34
                                    have H' := Aside0.mk H
                                    clear H
                                    go_wp2
                                    go_meet
                                    case rel => exact ⟨_, (true), (by first | rfl | (simp; done) | (simp [*]; done)), H', ⟨by have := HJ5.out; first | omega | exact Nat.le_refl _⟩, ⟨by repeat (first | (with_reducible first | exact HB.out | apply below_alloc | apply pw_below_drewN | apply below_drew1) | exact HB.out)⟩⟩
                                · rw [if_neg c33] at H
                                  exact absurd H (by simp)
                              · rw [if_neg c32] at H
                                have c32b0 : (t1011.toList == ((⟨#[104]⟩ : ByteArray) ++ (rdOf ByteArray.empty t1002 t1005)).toList) = false := beq_eq_false_iff_ne.mpr c32
                                have c32b1 : (t1011.toList != ((⟨#[104]⟩ : ByteArray) ++ (rdOf ByteArray.empty t1002 t1005)).toList) = true := bne_iff_ne.mpr c32
                                have H' := Aside0.mk H
                                clear H
                                go_wp2
                                go_meet
                                case rel => exact ⟨_, (true), (by first | rfl | (simp; done) | (simp [*]; done)), H', ⟨by have := HJ5.out; first | omega | exact Nat.le_refl _⟩, ⟨by repeat (first | (with_reducible first | exact HB.out | apply below_alloc | apply pw_below_drewN | apply below_drew1) | exact HB.out)⟩⟩
                            · rw [if_neg c31] at H
                              have c31b0 : (t1009.toList == (((⟨#[112]⟩ : ByteArray) ++ (rdOf ByteArray.empty t1002 t1005)) ++ (rdOf ByteArray.empty t1002 t1007)).toList) = false := beq_eq_false_iff_ne.mpr c31
                              have c31b1 : (t1009.toList != (((⟨#[112]⟩ : ByteArray) ++ (rdOf ByteArray.empty t1002 t1005)) ++ (rdOf ByteArray.empty t1002 t1007)).toList) = true := bne_iff_ne.mpr c31
                              have H' := Aside0.mk H
                              clear H
                              go_wp2
                              go_meet
                              case rel => exact ⟨_, (true), (by first | rfl | (simp; done) | (simp [*]; done)), H', ⟨by have := HJ5.out; first | omega | exact Nat.le_refl _⟩, ⟨by repeat (first | (with_reducible first | exact HB.out | apply below_alloc | apply pw_below_drewN | apply below_drew1) | exact HB.out)⟩⟩
                          · rw [if_neg c30] at H
                            exact absurd H (by simp)
                        · rw [if_neg c29] at H
                          exact absurd H (by simp)
                      · rw [if_neg c28] at H
                        have c28b0 : (t1014 == 0) = false := beq_eq_false_iff_ne.mpr c28
                        have c28b1 : (t1014 != 0) = true := bne_iff_ne.mpr c28
                        have H' := Aside0.mk H
                        clear H
                        go_wp2
                        go_meet
                        case rel => exact ⟨_, (true), (by first | rfl | (simp; done) | (simp [*]; done)), H', ⟨by have := HJ5.out; first | omega | exact Nat.le_refl _⟩, ⟨by repeat (first | (with_reducible first | exact HB.out | apply below_alloc | apply pw_below_drewN | apply below_drew1) | exact HB.out)⟩⟩
                    · rw [if_neg c27] at H
                      have c27b0 : (t1012 == 0) = false := beq_eq_false_iff_ne.mpr c27
                      have c27b1 : (t1012 != 0) = true := bne_iff_ne.mpr c27
                      have H' := Aside0.mk H
                      clear H
                      go_wp2
                      go_meet
                      case rel => exact ⟨_, (true), (by first | rfl | (simp; done) | (simp [*]; done)), H', ⟨by have := HJ5.out; first | omega | exact Nat.le_refl _⟩, ⟨by repeat (first | (with_reducible first | exact HB.out | apply below_alloc | apply pw_below_drewN | apply below_drew1) | exact HB.out)⟩⟩
                  · rw [if_neg c26] at H
                    have c26b0 : (t1010 == 0) = false := beq_eq_false_iff_ne.mpr c26
                    have c26b1 : (t1010 != 0) = true := bne_iff_ne.mpr c26
                    (first | rw [c26b0] | (simp only [i64_w, i32_w]; rw [c26b0]) | skip)
                    have H' := Aside0.mk H
                    clear H
                    go_wp2
                    go_meet
                    case rel => exact ⟨_, (true), (by first | rfl | (simp; done) | (simp [*]; done)), H', ⟨by have := HJ5.out; first | omega | exact Nat.le_refl _⟩, ⟨by repeat (first | (with_reducible first | exact HB.out | apply below_alloc | apply pw_below_drewN | apply below_drew1) | exact HB.out)⟩⟩
                case rest =>
                  clear HC20
                  try clear c1
                  try clear p1
                  try clear q1
                  try clear hx1
                  try clear c2
                  try clear p2
                  try clear c3
                  try clear p6
                  try clear c7
                  try clear c8
                  try clear c9
                  try clear p10
                  try clear q10
                  try clear hx10
                  try clear c12
                  try clear c12b0
                  try clear c13
                  try clear c13b0
                  try clear c15
                  try clear c15b0
                  try clear c16
                  try clear c16b0
                  try clear c22
                  try clear c26
                  try clear c26b0
                  try clear c26b1
                  try clear c27
                  try clear c27b0
                  try clear c27b1
                  try clear c28
                  try clear c28b0
                  try clear c28b1
                  try clear c29
                  try clear c29b0
                  try clear c29b1
                  try clear c29b2
                  try clear c30
                  try clear c30b0
                  try clear c30b1
                  try clear c30b2
                  try clear c31
                  try clear c31b0
                  try clear c31b1
                  try clear c32
                  try clear c32b0
                  try clear c32b1
                  try clear c33
                  try clear c33b0
                  try clear c33b1
                  try clear c33b2
                  try clear c34
                  try clear c34b0
                  try clear c34b1
                  try clear c39
                  try clear c39b0
                  try clear c39b1
                  try clear hx1006_0
                  try clear hx1008_0
                  try clear p1006
                  try clear p1008
                  try clear p2
                  try clear q1006
                  try clear q1008
                  obtain ⟨kq, x116_19, rfl, HA, HJ19, HB⟩ := hcut
                  cases kq with
                  | zero => exact absurd HA.out (by simp [gemotlaw1_TermParts.j1])
                  | succ kj19 =>
                    have H := HA.out
                    clear HA
                    simp only [gemotlaw1_TermParts.j1] at H
                    by_cases c50 : x116_19 = true
                    · subst c50
                      have H1 : (none) = some r := by rw [if_pos rfl] at H; exact H
                      exact absurd H1 (by simp)
                    · replace c50 := Bool.eq_false_iff.mpr c50
                      subst c50
                      have H1 : ((term_Right.f a3).bind fun t1020 => (if t1020 = true then ((term_Depth.f a3).bind fun t1021 => (some (decide (t1021 > 0)))) else ((term_Pair.f (rdOf ByteArray.empty t1002 t1005) a3).bind fun bt1022 => ((term_Hash.f a3).bind fun bt1024 => (if bt1022.2 = 1 then (if bt1022.1.toList = ([] : List UInt8) then (if bt1024.2 = 1 then (if bt1024.1.toList = ([] : List UInt8) then ((term_Depth.f a3).bind fun t1026 => (some (t1026 == 0))) else (none)) else (none)) else (none)) else (none)))))) = some r := by rw [if_neg (show ¬ (false = true) by decide)] at H; exact H
                      clear H
                      have H := H1
                      clear H1
                      replace H := Option.bind_eq_some_iff.mp H
                      obtain ⟨t1020, A510, H⟩ := H
                      replace H : (if t1020 = true then ((term_Depth.f a3).bind fun t1021 => (some (decide (t1021 > 0)))) else ((term_Pair.f (rdOf ByteArray.empty t1002 t1005) a3).bind fun bt1022 => ((term_Hash.f a3).bind fun bt1024 => (if bt1022.2 = 1 then (if bt1022.1.toList = ([] : List UInt8) then (if bt1024.2 = 1 then (if bt1024.1.toList = ([] : List UInt8) then ((term_Depth.f a3).bind fun t1026 => (some (t1026 == 0))) else (none)) else (none)) else (none)) else (none))))) = some r := H
                      have A51 := Aside0.mk A510
                      clear A510
                      by_cases c52 : t1020 = true
                      · subst c52
                        have H1 : ((term_Depth.f a3).bind fun t1021 => (some (decide (t1021 > 0)))) = some r := by rw [if_pos rfl] at H; exact H
                        clear H
                        have H := H1
                        clear H1
                        replace H := Option.bind_eq_some_iff.mp H
                        obtain ⟨t1021, A530, H⟩ := H
                        replace H : (some (decide (t1021 > 0))) = some r := H
                        have A53 := Aside0.mk A530
                        clear A530
                        obtain rfl := Option.some.inj H
                        go_wp2_with (first | ((with_reducible refine gate_callee (f := 66) rfl ?_); refine goesL_ (some 119) rfl rfl Try.func66 (by kernel_rfl) rfl #[.string a3] rfl (by (try simp only [List.map_toArray, List.map_cons, List.map_nil]); first | done | rfl | (simp only [List.length_drop, List.length_take]; rfl)) ?_; (with_reducible refine (term_Right.calls a3 true _ A51.out).mono ?_); rintro e w54 ⟨rfl, hb⟩; refine ⟨_, rfl, ?_⟩; have n0_ := Aside0.mk (below_step (by repeat (first | (with_reducible first | exact HB.out | apply below_alloc | apply pw_below_drewN | apply below_drew1) | exact HB.out)) hb); clear HB; have HB := n0_; clear n0_; (try clear hb); (try clear hb2); (try clear hk); (try clear hi)) | ((with_reducible refine gate_callee (f := 87) rfl ?_); refine goesL_ (some 121) rfl rfl Try.func87 (by kernel_rfl) rfl #[.string a3] rfl (by (try simp only [List.map_toArray, List.map_cons, List.map_nil]); first | done | rfl | (simp only [List.length_drop, List.length_take]; rfl)) ?_; (with_reducible refine (term_Depth.calls a3 t1021 _ A53.out).mono ?_); rintro e w55 ⟨rfl, hb⟩; refine ⟨_, rfl, ?_⟩; have n0_ := Aside0.mk (below_step (by repeat (first | (with_reducible first | exact HB.out | apply below_alloc | apply pw_below_drewN | apply below_drew1) | exact HB.out)) hb); clear HB; have HB := n0_; clear n0_; (try clear hb); (try clear hb2); (try clear hk); (try clear hi)))
                        go_ret
                        exact ⟨by first | rfl | (simp [errW_none, errW_some] <;> rfl) | (simp [*, errW_none, errW_some] <;> rfl), by repeat (first | (with_reducible first | exact HB.out | apply below_alloc | apply pw_below_drewN | apply below_drew1) | exact HB.out)⟩
                      · replace c52 := Bool.eq_false_iff.mpr c52
                        subst c52
                        have H1 : ((term_Pair.f (rdOf ByteArray.empty t1002 t1005) a3).bind fun bt1022 => ((term_Hash.f a3).bind fun bt1024 => (if bt1022.2 = 1 then (if bt1022.1.toList = ([] : List UInt8) then (if bt1024.2 = 1 then (if bt1024.1.toList = ([] : List UInt8) then ((term_Depth.f a3).bind fun t1026 => (some (t1026 == 0))) else (none)) else (none)) else (none)) else (none)))) = some r := by rw [if_neg (show ¬ (false = true) by decide)] at H; exact H
                        clear H
                        have H := H1
                        clear H1
                        replace H := Option.bind_eq_some_iff.mp H
                        obtain ⟨⟨t1022, t1023⟩, A560, H⟩ := H
                        replace H : ((term_Hash.f a3).bind fun bt1024 => (if t1023 = 1 then (if t1022.toList = ([] : List UInt8) then (if bt1024.2 = 1 then (if bt1024.1.toList = ([] : List UInt8) then ((term_Depth.f a3).bind fun t1026 => (some (t1026 == 0))) else (none)) else (none)) else (none)) else (none))) = some r := H
                        have A56 := Aside0.mk A560
                        clear A560
                        replace H := Option.bind_eq_some_iff.mp H
                        obtain ⟨⟨t1024, t1025⟩, A570, H⟩ := H
                        replace H : (if t1023 = 1 then (if t1022.toList = ([] : List UInt8) then (if t1025 = 1 then (if t1024.toList = ([] : List UInt8) then ((term_Depth.f a3).bind fun t1026 => (some (t1026 == 0))) else (none)) else (none)) else (none)) else (none)) = some r := H
                        have A57 := Aside0.mk A570
                        clear A570
                        by_cases c58 : t1023 = 1
                        · rw [if_pos c58] at H
                          have c58b0 : (t1023 == 1) = true := beq_iff_eq.mpr c58
                          have c58b1 : (t1023 != 1) = false := bne_eq_false_iff_eq.mpr c58
                          clear c58
                          by_cases c59 : t1022.toList = ([] : List UInt8)
                          · rw [if_pos c59] at H
                            have c59b0 : (t1022.toList == ([] : List UInt8)) = true := beq_iff_eq.mpr c59
                            have c59b1 : (t1022.toList != ([] : List UInt8)) = false := bne_eq_false_iff_eq.mpr c59
                            clear c59
                            by_cases c60 : t1025 = 1
                            · rw [if_pos c60] at H
                              have c60b0 : (t1025 == 1) = true := beq_iff_eq.mpr c60
                              have c60b1 : (t1025 != 1) = false := bne_eq_false_iff_eq.mpr c60
                              clear c60
                              by_cases c61 : t1024.toList = ([] : List UInt8)
                              · rw [if_pos c61] at H
                                have c61b0 : (t1024.toList == ([] : List UInt8)) = true := beq_iff_eq.mpr c61
                                have c61b1 : (t1024.toList != ([] : List UInt8)) = false := bne_eq_false_iff_eq.mpr c61
                                clear c61
                                replace H := Option.bind_eq_some_iff.mp H
                                obtain ⟨t1026, A620, H⟩ := H
                                replace H : (some (t1026 == 0)) = some r := H
                                have A62 := Aside0.mk A620
                                clear A620
                                obtain rfl := Option.some.inj H
                                go_wp2_with (first | ((with_reducible refine gate_callee (f := 66) rfl ?_); refine goesL_ (some 119) rfl rfl Try.func66 (by kernel_rfl) rfl #[.string a3] rfl (by (try simp only [List.map_toArray, List.map_cons, List.map_nil]); first | done | rfl | (simp only [List.length_drop, List.length_take]; rfl)) ?_; (with_reducible refine (term_Right.calls a3 false _ A51.out).mono ?_); rintro e w63 ⟨rfl, hb⟩; refine ⟨_, rfl, ?_⟩; have n0_ := Aside0.mk (below_step (by repeat (first | (with_reducible first | exact HB.out | apply below_alloc | apply pw_below_drewN | apply below_drew1) | exact HB.out)) hb); clear HB; have HB := n0_; clear n0_; (try clear hb); (try clear hb2); (try clear hk); (try clear hi)) | ((with_reducible refine gate_callee (f := 92) rfl ?_); refine goesL_ (some 126) rfl rfl Try.func92 (by kernel_rfl) rfl #[.string (rdOf ByteArray.empty t1002 t1005), .string a3] rfl (by (try simp only [List.map_toArray, List.map_cons, List.map_nil]); first | done | rfl | (simp only [List.length_drop, List.length_take]; rfl)) ?_; (with_reducible refine (term_Pair.calls (rdOf ByteArray.empty t1002 t1005) a3 t1022 t1023 _ A56.out).mono ?_); rintro e w64 ⟨rfl, hb⟩; refine ⟨_, rfl, ?_⟩; have n0_ := Aside0.mk (below_step (by repeat (first | (with_reducible first | exact HB.out | apply below_alloc | apply pw_below_drewN | apply below_drew1) | exact HB.out)) hb); clear HB; have HB := n0_; clear n0_; (try clear hb); (try clear hb2); (try clear hk); (try clear hi)) | ((with_reducible refine gate_callee (f := 94) rfl ?_); refine goesL_ (some 131) rfl rfl Try.func94 (by kernel_rfl) rfl #[.string a3] rfl (by (try simp only [List.map_toArray, List.map_cons, List.map_nil]); first | done | rfl | (simp only [List.length_drop, List.length_take]; rfl)) ?_; (with_reducible refine (term_Hash.calls a3 t1024 t1025 _ A57.out).mono ?_); rintro e w65 ⟨rfl, hb⟩; refine ⟨_, rfl, ?_⟩; have n0_ := Aside0.mk (below_step (by repeat (first | (with_reducible first | exact HB.out | apply below_alloc | apply pw_below_drewN | apply below_drew1) | exact HB.out)) hb); clear HB; have HB := n0_; clear n0_; (try clear hb); (try clear hb2); (try clear hk); (try clear hi)) | (go_at_call 87; (with_reducible refine (term_Depth.calls a3 t1026 _ A62.out).mono ?_); rintro e w66 ⟨rfl, hb⟩; have n0_ := Aside0.mk (below_step (by repeat (first | (with_reducible first | exact HB.out | apply below_alloc | apply pw_below_drewN | apply below_drew1) | exact HB.out)) hb); clear HB; have HB := n0_; clear n0_; (try clear hb); (try clear hb2); (try clear hk); (try clear hi)))
                                go_ret
                                exact ⟨by first | rfl | (simp [errW_none, errW_some] <;> rfl) | (simp [*, errW_none, errW_some] <;> rfl), by repeat (first | (with_reducible first | exact HB.out | apply below_alloc | apply pw_below_drewN | apply below_drew1) | exact HB.out)⟩
                              · rw [if_neg c61] at H
                                exact absurd H (by simp)
                            · rw [if_neg c60] at H
                              exact absurd H (by simp)
                          · rw [if_neg c59] at H
                            exact absurd H (by simp)
                        · rw [if_neg c58] at H
                          exact absurd H (by simp)
              · rw [if_neg c16] at H
                exact absurd H (by simp)
            · rw [if_neg c15] at H
              exact absurd H (by simp)
          · rw [if_neg c13] at H
            exact absurd H (by simp)
        · rw [if_neg c12] at H
          exact absurd H (by simp)

end Go.Proofs.Ytpfpmjdifnoeoaa.F
