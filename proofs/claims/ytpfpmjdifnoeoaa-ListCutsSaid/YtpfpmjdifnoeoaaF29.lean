-- Laid by mk.py (a program of this session) over the seat's translation.
import Derived.Test.YtpfpmjdifnoeoaaF0
import Derived.Test.YtpfpmjdifnoeoaaF100
import Derived.Test.YtpfpmjdifnoeoaaF41
import Derived.Test.YtpfpmjdifnoeoaaF46
import Derived.Test.YtpfpmjdifnoeoaaF48
namespace Go.Proofs.Ytpfpmjdifnoeoaa.F
open Go.RowKit Go.Proofs.YtpfpmjdifnoeoaaW.PrintWords Go.Proofs.YtpfpmjdifnoeoaaW.PrintLast Go.Proofs.YtpfpmjdifnoeoaaW.PrintMore
attribute [local go_sem] max2_int min2_int max_two min_two max_three min_three max_four min_four
set_option linter.unusedVariables false
set_option linter.unusedSimpArgs false

/-! ### gemotlaw4_ListCuts: function 29 -/
def gemotlaw4_ListCuts.l0 : Nat → List ByteArray → ByteArray → Int → Option (Bool)
  | 0, _, _, _ => none
  | k + 1, x4, x5, x6 => if x6 ≤ (x4.length : Int) then (if 0 ≤ x6 then ((list_Put.f (x4.take (x6 : Int).toNat)).bind fun bt1009 => (if bt1009.2 = 0 then ((list_Take.f bt1009.1).bind fun bt1011 => (if bt1011.2 = 0 then (if (bt1011.1.length : Int) = x6 then (if x6 > 0 then (if (bt1009.1.size : Int) ≤ (x5.size : Int) then (none) else (gemotlaw4_ListCuts.l0 k x4 bt1009.1 (wrap64 (x6 + 1)))) else (gemotlaw4_ListCuts.l0 k x4 bt1009.1 (wrap64 (x6 + 1)))) else (none)) else (none))) else (if bt1009.2 = 3 then (some true) else (some (bt1009.2 == 4))))) else (none)) else (some true)
def gemotlaw4_ListCuts.f (k : Nat) (l0 : List (S170)) : Option (Bool) := (gemotlaw4_shown.f).bind fun t1001 => (if t1001 = true then ((gemotlaw4_made.f l0).bind fun t1002 => (gemotlaw4_ListCuts.l0 k t1002 (⟨#[]⟩ : ByteArray) 0)) else (none))
theorem gemotlaw4_ListCuts.mono_l : ∀ k, (∀ y0 y1 y2, LeO (gemotlaw4_ListCuts.l0 k y0 y1 y2) (gemotlaw4_ListCuts.l0 (k + 1) y0 y1 y2))
  | 0 => fun _ _ _ r h => by simp [gemotlaw4_ListCuts.l0] at h
  | k + 1 => by
    have ih0 := gemotlaw4_ListCuts.mono_l k
    · intro y0 y1 y2
      unfold gemotlaw4_ListCuts.l0
      repeat' first
      | (with_reducible exact ih0 _ _ _)
      | (with_reducible exact LeO.refl _)
      | (with_reducible exact LeO.none _)
      | (with_reducible refine LeO.ite ?_ ?_)
      | (with_reducible refine LeO.bind ?_ (fun _ => ?_))
      | exact ih0 _ _ _
      | exact LeO.none _
      | refine LeO.ite ?_ ?_
      | refine LeO.bind ?_ (fun _ => ?_)
theorem gemotlaw4_ListCuts.mono : ∀ a0 k, LeO (gemotlaw4_ListCuts.f k a0) (gemotlaw4_ListCuts.f (k + 1) a0) := by
  intro a0 k
  have ih0 := gemotlaw4_ListCuts.mono_l k
  unfold gemotlaw4_ListCuts.f
  repeat' first
      | (with_reducible exact ih0 _ _ _)
      | (with_reducible exact LeO.refl _)
      | (with_reducible exact LeO.none _)
      | (with_reducible refine LeO.ite ?_ ?_)
      | (with_reducible refine LeO.bind ?_ (fun _ => ?_))
      | exact ih0 _ _ _
      | exact LeO.none _
      | refine LeO.ite ?_ ?_
      | refine LeO.bind ?_ (fun _ => ?_)
set_option maxHeartbeats 8000000 in
set_option maxRecDepth 100000 in
theorem gemotlaw4_ListCuts.calls (k : Nat) (A0 : Option Addr) (c0 : Nat) (l0 : List (S170)) (r : Bool) (w : World) (hr0 : Kd.C k170 w A0 l0.length l0) (hc0 : l0.length ≤ c0) (h : gemotlaw4_ListCuts.f k l0 = some r) :
    Calls Try.prog 29 #[.slice A0 l0.length c0] w fun e w' => e = .returned (.bool r) ∧ Below w.heap.size w w' := by
  have HR0 := Aside0.mk hr0
  have HC0 := Aside0.mk hc0
  clear hr0 hc0
  have HB := Aside0.mk (Below.refl w.heap.size w)
  have H : ((gemotlaw4_shown.f).bind fun t1001 => (if t1001 = true then ((gemotlaw4_made.f l0).bind fun t1002 => (gemotlaw4_ListCuts.l0 k t1002 (⟨#[]⟩ : ByteArray) 0)) else (none))) = some r := h
  clear h
  replace H := Option.bind_eq_some_iff.mp H
  obtain ⟨t1001, A20, H⟩ := H
  replace H : (if t1001 = true then ((gemotlaw4_made.f l0).bind fun t1002 => (gemotlaw4_ListCuts.l0 k t1002 (⟨#[]⟩ : ByteArray) 0)) else (none)) = some r := H
  have A2 := Aside0.mk A20
  clear A20
  by_cases c3 : t1001 = true
  · subst c3
    have H1 : ((gemotlaw4_made.f l0).bind fun t1002 => (gemotlaw4_ListCuts.l0 k t1002 (⟨#[]⟩ : ByteArray) 0)) = some r := by rw [if_pos rfl] at H; exact H
    clear H
    have H := H1
    clear H1
    replace H := Option.bind_eq_some_iff.mp H
    obtain ⟨t1002, A40, H⟩ := H
    replace H : (gemotlaw4_ListCuts.l0 k t1002 (⟨#[]⟩ : ByteArray) 0) = some r := H
    have A4 := Aside0.mk A40
    clear A40
    have H' := Aside0.mk H
    clear H
    go_enter Try.func29, Try.ntmps29
    go_wp2_with (first | ((with_reducible refine gate_callee (f := 41) rfl ?_); refine goesL_ (some 11) rfl rfl Try.func41 (by kernel_rfl) rfl #[] rfl (by (try simp only [List.map_toArray, List.map_cons, List.map_nil]); first | done | rfl | (simp only [List.length_drop, List.length_take]; rfl)) ?_; (with_reducible refine (gemotlaw4_shown.calls  true _ A2.out).mono ?_); rintro e w5 ⟨rfl, hb⟩; refine ⟨_, rfl, ?_⟩; have n0_ := Aside0.mk (below_step (by repeat (first | (with_reducible first | exact HB.out | apply below_alloc | apply pw_below_drewN | apply below_drew1) | exact HB.out)) hb); clear HB; have HB := n0_; clear n0_; (try clear hb); (try clear hb2); (try clear hk); (try clear hi)) | ((with_reducible refine gate_callee (f := 100) rfl ?_); refine goesL_ (some 15) rfl rfl Try.func100 (by kernel_rfl) rfl #[.slice A0 l0.length c0] rfl (by (try simp only [List.map_toArray, List.map_cons, List.map_nil]); first | done | rfl | (simp only [List.length_drop, List.length_take]; rfl)) ?_; (with_reducible refine (gemotlaw4_made.calls _ _ l0 t1002 _ ?side1 ?side2 A4.out).mono ?_); (case side1 => repeat (first | exact (Kd.C_below HR0.out HB.out) | (with_reducible refine Kd.C_alloc ?_ _) | (with_reducible refine Kd.C_drewN ?_ _) | (with_reducible refine Kd.C_drew ?_))); (case side2 => exact HC0.out); rintro e w6 ⟨v1003, rfl, ho0, hb⟩; refine ⟨_, rfl, ?_⟩; have n0_ := Aside0.mk (Kd.R_lower ho0 (below_size (by repeat (first | (with_reducible first | exact HB.out | apply below_alloc | apply pw_below_drewN | apply below_drew1) | exact HB.out)))); have n1_ := Aside0.mk (below_step (by repeat (first | (with_reducible first | exact HB.out | apply below_alloc | apply pw_below_drewN | apply below_drew1) | exact HB.out)) hb); clear HB; have HO1004 := n0_; have HB := n1_; clear n0_ n1_; (try clear hb); (try clear hb2); (try clear hk); (try clear hi); (try clear ho0)))
    go_loopg [5, 6] k (fun kq v5 v6 w' => ∃ (x5_1 : ByteArray) (x6_1 : Int), v5 = .string x5_1 ∧ v6 = .int .i64 x6_1 ∧ Aside0 (gemotlaw4_ListCuts.l0 kq t1002 x5_1 x6_1 = some r) ∧ Aside0 (kq ≤ k) ∧ Aside0 (Kd.R Kd.string 23 w' w.heap.size (fun _ => True) v1003 t1002) ∧ Aside0 (Below w.heap.size w w'))
    case atStart => exact ⟨((⟨#[]⟩ : ByteArray)), (0), (by first | rfl | (simp; done) | (simp [*]; done)), (by first | rfl | (simp; done) | (simp [*]; done)), H', ⟨Nat.le_refl _⟩, ⟨by (with_reducible repeat (first | apply Kd.R_alloc | apply Kd.R_drewN | apply Kd.R_drew)); exact HO1004.out⟩, ⟨by repeat (first | (with_reducible first | exact HB.out | apply below_alloc | apply pw_below_drewN | apply below_drew1) | exact HB.out)⟩⟩
    case round =>
      clear H'
      try clear c1
      try clear c2
      try clear p2
      try clear c3
      try clear c4
      obtain ⟨x5_1, x6_1, rfl, rfl, HA, HK1, HO_4, HB⟩ := hrel
      cases gk with
      | zero => exact absurd HA.out (by simp [gemotlaw4_ListCuts.l0])
      | succ k1 =>
        have H := HA.out
        clear HA
        simp only [gemotlaw4_ListCuts.l0] at H
        by_cases c7 : x6_1 ≤ (t1002.length : Int)
        · rw [if_pos c7] at H
          have c7b0 : decide (x6_1 ≤ (t1002.length : Int)) = true := decide_eq_true c7
          clear c7
          by_cases c8 : 0 ≤ x6_1
          · rw [if_pos c8] at H
            have c8b0 := eq_true c8
            have c8b1 : decide (0 ≤ x6_1) = true := decide_eq_true c8
            clear c8
            have c9b0 := eq_true (of_decide_eq_true (by first | (with_reducible assumption) | assumption) : x6_1 ≤ (t1002.length : Int))
            obtain ⟨y1005, hy1005⟩ : ∃ y_ : List ByteArray, y_ = (t1002.take (x6_1 : Int).toNat) := ⟨_, rfl⟩
            replace H : ((list_Put.f y1005).bind fun bt1009 => (if bt1009.2 = 0 then ((list_Take.f bt1009.1).bind fun bt1011 => (if bt1011.2 = 0 then (if (bt1011.1.length : Int) = x6_1 then (if x6_1 > 0 then (if (bt1009.1.size : Int) ≤ (x5_1.size : Int) then (none) else (gemotlaw4_ListCuts.l0 k1 t1002 bt1009.1 (wrap64 (x6_1 + 1)))) else (gemotlaw4_ListCuts.l0 k1 t1002 bt1009.1 (wrap64 (x6_1 + 1)))) else (none)) else (none))) else (if bt1009.2 = 3 then (some true) else (some (bt1009.2 == 4))))) = some r := by first | (rw [hy1005]; with_reducible exact H) | (have H2_ := (Option.bind_some _ _).symm.trans H; rw [hy1005]; with_reducible exact H2_) | (have H2_ := (Option.bind_some _ _).symm.trans H; with_reducible exact H2_) | with_reducible exact H | (rw [hy1005]; exact H) | exact H
            have Ny1005 := Aside0.mk hy1005
            clear hy1005
            replace H := Option.bind_eq_some_iff.mp H
            obtain ⟨⟨t1009, t1010⟩, A100, H⟩ := H
            replace H : (if t1010 = 0 then ((list_Take.f t1009).bind fun bt1011 => (if bt1011.2 = 0 then (if (bt1011.1.length : Int) = x6_1 then (if x6_1 > 0 then (if (t1009.size : Int) ≤ (x5_1.size : Int) then (none) else (gemotlaw4_ListCuts.l0 k1 t1002 t1009 (wrap64 (x6_1 + 1)))) else (gemotlaw4_ListCuts.l0 k1 t1002 t1009 (wrap64 (x6_1 + 1)))) else (none)) else (none))) else (if t1010 = 3 then (some true) else (some (t1010 == 4)))) = some r := H
            have A10 := Aside0.mk A100
            clear A100
            by_cases c11 : t1010 = 0
            · rw [if_pos c11] at H
              have c11b0 : (t1010 == 0) = true := beq_iff_eq.mpr c11
              have c11b1 : (t1010 != 0) = false := bne_eq_false_iff_eq.mpr c11
              clear c11
              replace H := Option.bind_eq_some_iff.mp H
              obtain ⟨⟨t1011, t1014⟩, A120, H⟩ := H
              replace H : (if t1014 = 0 then (if (t1011.length : Int) = x6_1 then (if x6_1 > 0 then (if (t1009.size : Int) ≤ (x5_1.size : Int) then (none) else (gemotlaw4_ListCuts.l0 k1 t1002 t1009 (wrap64 (x6_1 + 1)))) else (gemotlaw4_ListCuts.l0 k1 t1002 t1009 (wrap64 (x6_1 + 1)))) else (none)) else (none)) = some r := H
              have A12 := Aside0.mk A120
              clear A120
              by_cases c13 : t1014 = 0
              · rw [if_pos c13] at H
                have c13b0 : (t1014 == 0) = true := beq_iff_eq.mpr c13
                have c13b1 : (t1014 != 0) = false := bne_eq_false_iff_eq.mpr c13
                clear c13
                by_cases c14 : (t1011.length : Int) = x6_1
                · rw [if_pos c14] at H
                  have c14b0 : ((t1011.length : Int) == x6_1) = true := beq_iff_eq.mpr c14
                  have c14b1 : ((t1011.length : Int) != x6_1) = false := bne_eq_false_iff_eq.mpr c14
                  clear c14
                  by_cases c15 : x6_1 > 0
                  · rw [if_pos c15] at H
                    have c15b0 : decide (0 < x6_1) = true := decide_eq_true c15
                    clear c15
                    by_cases c16 : (t1009.size : Int) ≤ (x5_1.size : Int)
                    · rw [if_pos c16] at H
                      exact absurd H (by simp)
                    · rw [if_neg c16] at H
                      have c16b0 : decide ((t1009.size : Int) ≤ (x5_1.size : Int)) = false := decide_eq_false c16
                      have c16b1 : decide (t1009.size ≤ x5_1.size) = false := decide_eq_false (fun h => c16 (Int.ofNat_le.mpr h))
                      clear c16
                      have H' := Aside0.mk H
                      clear H
                      obtain ⟨Ao22, co22, eo22⟩ := Kd.R_slice HO_4.out
                      subst eo22
                      have q23 : (x6_1 : Int) ≤ ((t1002.length : Int) : Int) := of_decide_eq_true (by first | (with_reducible assumption) | assumption)
                      obtain ⟨i023, hi023, _, hsz23, _⟩ := info_parts info23
                      have hroom23 : t1002.length ≤ co22 := (Kd.R_reads' HO_4.out).2.1
                      have hC23 : Kd.C Kd.string _ Ao22 t1002.length t1002 := (Kd.R_reads' HO_4.out).2.2
                      have hcut23 := cut_to (P := Try.prog) 37 23 .i64 Try.underlying37 hi023 Ao22 t1002.length co22 x6_1 (of_decide_eq_true (by first | (with_reducible assumption) | assumption)) q23 hroom23
                      have hr23 := Kd.C_take (m := (x6_1 : Int).toNat) hC23 (by omega)
                      have hy23 : y1005.length = (x6_1 : Int).toNat := (by rw [Ny1005.out, List.length_take]; omega)
                      rw [← Ny1005.out] at hr23
                      rw [← hy23] at hcut23
                      have HR1008 := Aside0.mk hr23
                      have HC1008 := Aside0.mk (show y1005.length ≤ co22 from by omega)
                      clear hr23 hC23 hroom23 hi023 hsz23
                      have KY23 := Aside0.mk hy23
                      clear hy23
                      have KL23 := Aside0.mk (show (x6_1 : Int).toNat ≤ t1002.length from by omega)
                      replace q23 := eq_true q23
                      go_wp2_with (first | ((with_reducible refine gate_callee (f := 46) rfl ?_); refine goesL_ (some 26) rfl rfl Try.func46 (by kernel_rfl) rfl #[.slice Ao22 y1005.length co22] rfl (by (try simp only [List.map_toArray, List.map_cons, List.map_nil]); first | done | rfl | (simp only [List.length_drop, List.length_take]; rfl)) ?_; (with_reducible refine (list_Put.calls _ _ y1005 t1009 t1010 _ ?side1 ?side2 A10.out).mono ?_); (case side1 => repeat (first | exact (by repeat (first | (with_reducible exact HR1008.out) | (with_reducible refine Kd.C_alloc ?_ _) | (with_reducible refine Kd.C_drewN ?_ _) | (with_reducible refine Kd.C_drew ?_) | exact HR1008.out)) | (with_reducible refine Kd.C_alloc ?_ _) | (with_reducible refine Kd.C_drewN ?_ _) | (with_reducible refine Kd.C_drew ?_))); (case side2 => exact HC1008.out); rintro e w24 ⟨rfl, hb⟩; refine ⟨_, rfl, ?_⟩; have n0_ := Aside0.mk (Kd.R_below (by (with_reducible repeat (first | apply Kd.R_alloc | apply Kd.R_drewN | apply Kd.R_drew)); exact HO_4.out) hb); have n1_ := Aside0.mk (Kd.C_below (by repeat (first | (with_reducible exact HR1008.out) | (with_reducible refine Kd.C_alloc ?_ _) | (with_reducible refine Kd.C_drewN ?_ _) | (with_reducible refine Kd.C_drew ?_) | exact HR1008.out)) hb); have n2_ := Aside0.mk (below_step (by repeat (first | (with_reducible first | exact HB.out | apply below_alloc | apply pw_below_drewN | apply below_drew1) | exact HB.out)) hb); clear HO_4; clear HR1008; clear HB; have HO_4 := n0_; have HR1008 := n1_; have HB := n2_; clear n0_ n1_ n2_; (try clear hb); (try clear hb2); (try clear hk); (try clear hi)) | ((with_reducible refine gate_callee (f := 48) rfl ?_); refine goesL_ (some 39) rfl rfl Try.func48 (by kernel_rfl) rfl #[.string t1009] rfl (by (try simp only [List.map_toArray, List.map_cons, List.map_nil]); first | done | rfl | (simp only [List.length_drop, List.length_take]; rfl)) ?_; (with_reducible refine (list_Take.calls t1009 t1011 t1014 _ A12.out).mono ?_); rintro e w25 ⟨v1012, rfl, ho0, hb⟩; refine ⟨_, rfl, ?_⟩; have n0_ := Aside0.mk (Kd.R_elder' (by (with_reducible repeat (first | apply Kd.R_alloc | apply Kd.R_drewN | apply Kd.R_drew)); exact HO_4.out) (Kd.R_base ho0) hb); have n1_ := Aside0.mk (Kd.R_lower (Kd.R_new' (Kd.R_mono (ok' := fun k_ => True) ho0 (fun _ hk_ => trivial)) (Kd.R_lt (by (with_reducible repeat (first | apply Kd.R_alloc | apply Kd.R_drewN | apply Kd.R_drew)); exact HO_4.out))) (below_size (by repeat (first | (with_reducible first | exact HB.out | apply below_alloc | apply pw_below_drewN | apply below_drew1) | exact HB.out)))); have n2_ := Aside0.mk (Kd.C_below (by repeat (first | (with_reducible exact HR1008.out) | (with_reducible refine Kd.C_alloc ?_ _) | (with_reducible refine Kd.C_drewN ?_ _) | (with_reducible refine Kd.C_drew ?_) | exact HR1008.out)) hb); have n3_ := Aside0.mk (below_step (by repeat (first | (with_reducible first | exact HB.out | apply below_alloc | apply pw_below_drewN | apply below_drew1) | exact HB.out)) hb); clear HO_4; clear HR1008; clear HB; have HO_4 := n0_; have HO1013 := n1_; have HR1008 := n2_; have HB := n3_; clear n0_ n1_ n2_ n3_; (try clear hb); (try clear hb2); (try clear hk); (try clear hi); (try clear ho0); obtain ⟨Ao26, co26, eo26⟩ := Kd.R_slice HO1013.out; subst eo26))
                      go_roundg k1
                      case measure => have := HK1.out; omega
                      case rel => exact ⟨(t1009), (wrap64 (x6_1 + 1)), (by first | rfl | (simp; done) | (simp [*]; done)), (by first | rfl | (simp; done) | (simp [*]; done)), H', ⟨by have := HK1.out; omega⟩, ⟨by (with_reducible repeat (first | apply Kd.R_alloc | apply Kd.R_drewN | apply Kd.R_drew)); exact Kd.R_mono HO_4.out (fun _ hk => trivial)⟩, ⟨by repeat (first | (with_reducible first | exact HB.out | apply below_alloc | apply pw_below_drewN | apply below_drew1) | exact HB.out)⟩⟩
                  · rw [if_neg c15] at H
                    have c15b0 : decide (0 < x6_1) = false := decide_eq_false c15
                    clear c15
                    have H' := Aside0.mk H
                    clear H
                    obtain ⟨Ao27, co27, eo27⟩ := Kd.R_slice HO_4.out
                    subst eo27
                    have q28 : (x6_1 : Int) ≤ ((t1002.length : Int) : Int) := of_decide_eq_true (by first | (with_reducible assumption) | assumption)
                    obtain ⟨i028, hi028, _, hsz28, _⟩ := info_parts info23
                    have hroom28 : t1002.length ≤ co27 := (Kd.R_reads' HO_4.out).2.1
                    have hC28 : Kd.C Kd.string _ Ao27 t1002.length t1002 := (Kd.R_reads' HO_4.out).2.2
                    have hcut28 := cut_to (P := Try.prog) 37 23 .i64 Try.underlying37 hi028 Ao27 t1002.length co27 x6_1 (of_decide_eq_true (by first | (with_reducible assumption) | assumption)) q28 hroom28
                    have hr28 := Kd.C_take (m := (x6_1 : Int).toNat) hC28 (by omega)
                    have hy28 : y1005.length = (x6_1 : Int).toNat := (by rw [Ny1005.out, List.length_take]; omega)
                    rw [← Ny1005.out] at hr28
                    rw [← hy28] at hcut28
                    have HR1008 := Aside0.mk hr28
                    have HC1008 := Aside0.mk (show y1005.length ≤ co27 from by omega)
                    clear hr28 hC28 hroom28 hi028 hsz28
                    have KY28 := Aside0.mk hy28
                    clear hy28
                    have KL28 := Aside0.mk (show (x6_1 : Int).toNat ≤ t1002.length from by omega)
                    replace q28 := eq_true q28
                    go_wp2_with (first | ((with_reducible refine gate_callee (f := 46) rfl ?_); refine goesL_ (some 26) rfl rfl Try.func46 (by kernel_rfl) rfl #[.slice Ao27 y1005.length co27] rfl (by (try simp only [List.map_toArray, List.map_cons, List.map_nil]); first | done | rfl | (simp only [List.length_drop, List.length_take]; rfl)) ?_; (with_reducible refine (list_Put.calls _ _ y1005 t1009 t1010 _ ?side1 ?side2 A10.out).mono ?_); (case side1 => repeat (first | exact (by repeat (first | (with_reducible exact HR1008.out) | (with_reducible refine Kd.C_alloc ?_ _) | (with_reducible refine Kd.C_drewN ?_ _) | (with_reducible refine Kd.C_drew ?_) | exact HR1008.out)) | (with_reducible refine Kd.C_alloc ?_ _) | (with_reducible refine Kd.C_drewN ?_ _) | (with_reducible refine Kd.C_drew ?_))); (case side2 => exact HC1008.out); rintro e w29 ⟨rfl, hb⟩; refine ⟨_, rfl, ?_⟩; have n0_ := Aside0.mk (Kd.R_below (by (with_reducible repeat (first | apply Kd.R_alloc | apply Kd.R_drewN | apply Kd.R_drew)); exact HO_4.out) hb); have n1_ := Aside0.mk (Kd.C_below (by repeat (first | (with_reducible exact HR1008.out) | (with_reducible refine Kd.C_alloc ?_ _) | (with_reducible refine Kd.C_drewN ?_ _) | (with_reducible refine Kd.C_drew ?_) | exact HR1008.out)) hb); have n2_ := Aside0.mk (below_step (by repeat (first | (with_reducible first | exact HB.out | apply below_alloc | apply pw_below_drewN | apply below_drew1) | exact HB.out)) hb); clear HO_4; clear HR1008; clear HB; have HO_4 := n0_; have HR1008 := n1_; have HB := n2_; clear n0_ n1_ n2_; (try clear hb); (try clear hb2); (try clear hk); (try clear hi)) | ((with_reducible refine gate_callee (f := 48) rfl ?_); refine goesL_ (some 39) rfl rfl Try.func48 (by kernel_rfl) rfl #[.string t1009] rfl (by (try simp only [List.map_toArray, List.map_cons, List.map_nil]); first | done | rfl | (simp only [List.length_drop, List.length_take]; rfl)) ?_; (with_reducible refine (list_Take.calls t1009 t1011 t1014 _ A12.out).mono ?_); rintro e w30 ⟨v1012, rfl, ho0, hb⟩; refine ⟨_, rfl, ?_⟩; have n0_ := Aside0.mk (Kd.R_elder' (by (with_reducible repeat (first | apply Kd.R_alloc | apply Kd.R_drewN | apply Kd.R_drew)); exact HO_4.out) (Kd.R_base ho0) hb); have n1_ := Aside0.mk (Kd.R_lower (Kd.R_new' (Kd.R_mono (ok' := fun k_ => True) ho0 (fun _ hk_ => trivial)) (Kd.R_lt (by (with_reducible repeat (first | apply Kd.R_alloc | apply Kd.R_drewN | apply Kd.R_drew)); exact HO_4.out))) (below_size (by repeat (first | (with_reducible first | exact HB.out | apply below_alloc | apply pw_below_drewN | apply below_drew1) | exact HB.out)))); have n2_ := Aside0.mk (Kd.C_below (by repeat (first | (with_reducible exact HR1008.out) | (with_reducible refine Kd.C_alloc ?_ _) | (with_reducible refine Kd.C_drewN ?_ _) | (with_reducible refine Kd.C_drew ?_) | exact HR1008.out)) hb); have n3_ := Aside0.mk (below_step (by repeat (first | (with_reducible first | exact HB.out | apply below_alloc | apply pw_below_drewN | apply below_drew1) | exact HB.out)) hb); clear HO_4; clear HR1008; clear HB; have HO_4 := n0_; have HO1013 := n1_; have HR1008 := n2_; have HB := n3_; clear n0_ n1_ n2_ n3_; (try clear hb); (try clear hb2); (try clear hk); (try clear hi); (try clear ho0); obtain ⟨Ao31, co31, eo31⟩ := Kd.R_slice HO1013.out; subst eo31))
                    go_roundg k1
                    case measure => have := HK1.out; omega
                    case rel => exact ⟨(t1009), (wrap64 (x6_1 + 1)), (by first | rfl | (simp; done) | (simp [*]; done)), (by first | rfl | (simp; done) | (simp [*]; done)), H', ⟨by have := HK1.out; omega⟩, ⟨by (with_reducible repeat (first | apply Kd.R_alloc | apply Kd.R_drewN | apply Kd.R_drew)); exact Kd.R_mono HO_4.out (fun _ hk => trivial)⟩, ⟨by repeat (first | (with_reducible first | exact HB.out | apply below_alloc | apply pw_below_drewN | apply below_drew1) | exact HB.out)⟩⟩
                · rw [if_neg c14] at H
                  exact absurd H (by simp)
              · rw [if_neg c13] at H
                exact absurd H (by simp)
            · rw [if_neg c11] at H
              have c11b0 : (t1010 == 0) = false := beq_eq_false_iff_ne.mpr c11
              have c11b1 : (t1010 != 0) = true := bne_iff_ne.mpr c11
              by_cases c41 : t1010 = 3
              · rw [if_pos c41] at H
                have c41b0 : (t1010 == 3) = true := beq_iff_eq.mpr c41
                have c41b1 : (t1010 != 3) = false := bne_eq_false_iff_eq.mpr c41
                clear c41
                obtain rfl := Option.some.inj H
                obtain ⟨Ao42, co42, eo42⟩ := Kd.R_slice HO_4.out
                subst eo42
                have q43 : (x6_1 : Int) ≤ ((t1002.length : Int) : Int) := of_decide_eq_true (by first | (with_reducible assumption) | assumption)
                obtain ⟨i043, hi043, _, hsz43, _⟩ := info_parts info23
                have hroom43 : t1002.length ≤ co42 := (Kd.R_reads' HO_4.out).2.1
                have hC43 : Kd.C Kd.string _ Ao42 t1002.length t1002 := (Kd.R_reads' HO_4.out).2.2
                have hcut43 := cut_to (P := Try.prog) 37 23 .i64 Try.underlying37 hi043 Ao42 t1002.length co42 x6_1 (of_decide_eq_true (by first | (with_reducible assumption) | assumption)) q43 hroom43
                have hr43 := Kd.C_take (m := (x6_1 : Int).toNat) hC43 (by omega)
                have hy43 : y1005.length = (x6_1 : Int).toNat := (by rw [Ny1005.out, List.length_take]; omega)
                rw [← Ny1005.out] at hr43
                rw [← hy43] at hcut43
                have HR1008 := Aside0.mk hr43
                have HC1008 := Aside0.mk (show y1005.length ≤ co42 from by omega)
                clear hr43 hC43 hroom43 hi043 hsz43
                have KY43 := Aside0.mk hy43
                clear hy43
                have KL43 := Aside0.mk (show (x6_1 : Int).toNat ≤ t1002.length from by omega)
                replace q43 := eq_true q43
                go_wp2_with (first | ((with_reducible refine gate_callee (f := 46) rfl ?_); refine goesL_ (some 26) rfl rfl Try.func46 (by kernel_rfl) rfl #[.slice Ao42 y1005.length co42] rfl (by (try simp only [List.map_toArray, List.map_cons, List.map_nil]); first | done | rfl | (simp only [List.length_drop, List.length_take]; rfl)) ?_; (with_reducible refine (list_Put.calls _ _ y1005 t1009 t1010 _ ?side1 ?side2 A10.out).mono ?_); (case side1 => repeat (first | exact (by repeat (first | (with_reducible exact HR1008.out) | (with_reducible refine Kd.C_alloc ?_ _) | (with_reducible refine Kd.C_drewN ?_ _) | (with_reducible refine Kd.C_drew ?_) | exact HR1008.out)) | (with_reducible refine Kd.C_alloc ?_ _) | (with_reducible refine Kd.C_drewN ?_ _) | (with_reducible refine Kd.C_drew ?_))); (case side2 => exact HC1008.out); rintro e w44 ⟨rfl, hb⟩; refine ⟨_, rfl, ?_⟩; have n0_ := Aside0.mk (Kd.R_below (by (with_reducible repeat (first | apply Kd.R_alloc | apply Kd.R_drewN | apply Kd.R_drew)); exact HO_4.out) hb); have n1_ := Aside0.mk (Kd.C_below (by repeat (first | (with_reducible exact HR1008.out) | (with_reducible refine Kd.C_alloc ?_ _) | (with_reducible refine Kd.C_drewN ?_ _) | (with_reducible refine Kd.C_drew ?_) | exact HR1008.out)) hb); have n2_ := Aside0.mk (below_step (by repeat (first | (with_reducible first | exact HB.out | apply below_alloc | apply pw_below_drewN | apply below_drew1) | exact HB.out)) hb); clear HO_4; clear HR1008; clear HB; have HO_4 := n0_; have HR1008 := n1_; have HB := n2_; clear n0_ n1_ n2_; (try clear hb); (try clear hb2); (try clear hk); (try clear hi)))
                go_ret
                exact ⟨by first | rfl | (simp [errW_none, errW_some] <;> rfl) | (simp [*, errW_none, errW_some] <;> rfl), by repeat (first | (with_reducible first | exact HB.out | apply below_alloc | apply pw_below_drewN | apply below_drew1) | exact HB.out)⟩
              · rw [if_neg c41] at H
                have c41b0 : (t1010 == 3) = false := beq_eq_false_iff_ne.mpr c41
                have c41b1 : (t1010 != 3) = true := bne_iff_ne.mpr c41
                obtain rfl := Option.some.inj H
                obtain ⟨Ao45, co45, eo45⟩ := Kd.R_slice HO_4.out
                subst eo45
                have q46 : (x6_1 : Int) ≤ ((t1002.length : Int) : Int) := of_decide_eq_true (by first | (with_reducible assumption) | assumption)
                obtain ⟨i046, hi046, _, hsz46, _⟩ := info_parts info23
                have hroom46 : t1002.length ≤ co45 := (Kd.R_reads' HO_4.out).2.1
                have hC46 : Kd.C Kd.string _ Ao45 t1002.length t1002 := (Kd.R_reads' HO_4.out).2.2
                have hcut46 := cut_to (P := Try.prog) 37 23 .i64 Try.underlying37 hi046 Ao45 t1002.length co45 x6_1 (of_decide_eq_true (by first | (with_reducible assumption) | assumption)) q46 hroom46
                have hr46 := Kd.C_take (m := (x6_1 : Int).toNat) hC46 (by omega)
                have hy46 : y1005.length = (x6_1 : Int).toNat := (by rw [Ny1005.out, List.length_take]; omega)
                rw [← Ny1005.out] at hr46
                rw [← hy46] at hcut46
                have HR1008 := Aside0.mk hr46
                have HC1008 := Aside0.mk (show y1005.length ≤ co45 from by omega)
                clear hr46 hC46 hroom46 hi046 hsz46
                have KY46 := Aside0.mk hy46
                clear hy46
                have KL46 := Aside0.mk (show (x6_1 : Int).toNat ≤ t1002.length from by omega)
                replace q46 := eq_true q46
                go_wp2_with (first | ((with_reducible refine gate_callee (f := 46) rfl ?_); refine goesL_ (some 26) rfl rfl Try.func46 (by kernel_rfl) rfl #[.slice Ao45 y1005.length co45] rfl (by (try simp only [List.map_toArray, List.map_cons, List.map_nil]); first | done | rfl | (simp only [List.length_drop, List.length_take]; rfl)) ?_; (with_reducible refine (list_Put.calls _ _ y1005 t1009 t1010 _ ?side1 ?side2 A10.out).mono ?_); (case side1 => repeat (first | exact (by repeat (first | (with_reducible exact HR1008.out) | (with_reducible refine Kd.C_alloc ?_ _) | (with_reducible refine Kd.C_drewN ?_ _) | (with_reducible refine Kd.C_drew ?_) | exact HR1008.out)) | (with_reducible refine Kd.C_alloc ?_ _) | (with_reducible refine Kd.C_drewN ?_ _) | (with_reducible refine Kd.C_drew ?_))); (case side2 => exact HC1008.out); rintro e w47 ⟨rfl, hb⟩; refine ⟨_, rfl, ?_⟩; have n0_ := Aside0.mk (Kd.R_below (by (with_reducible repeat (first | apply Kd.R_alloc | apply Kd.R_drewN | apply Kd.R_drew)); exact HO_4.out) hb); have n1_ := Aside0.mk (Kd.C_below (by repeat (first | (with_reducible exact HR1008.out) | (with_reducible refine Kd.C_alloc ?_ _) | (with_reducible refine Kd.C_drewN ?_ _) | (with_reducible refine Kd.C_drew ?_) | exact HR1008.out)) hb); have n2_ := Aside0.mk (below_step (by repeat (first | (with_reducible first | exact HB.out | apply below_alloc | apply pw_below_drewN | apply below_drew1) | exact HB.out)) hb); clear HO_4; clear HR1008; clear HB; have HO_4 := n0_; have HR1008 := n1_; have HB := n2_; clear n0_ n1_ n2_; (try clear hb); (try clear hb2); (try clear hk); (try clear hi)))
                go_ret
                exact ⟨by first | rfl | (simp [errW_none, errW_some] <;> rfl) | (simp [*, errW_none, errW_some] <;> rfl), by repeat (first | (with_reducible first | exact HB.out | apply below_alloc | apply pw_below_drewN | apply below_drew1) | exact HB.out)⟩
          · rw [if_neg c8] at H
            exact absurd H (by simp)
        · rw [if_neg c7] at H
          have c7b0 : decide (x6_1 ≤ (t1002.length : Int)) = false := decide_eq_false c7
          clear c7
          obtain rfl := Option.some.inj H
          obtain ⟨Ao48, co48, eo48⟩ := Kd.R_slice HO_4.out
          subst eo48
          go_wp2
          go_ret
          exact ⟨by first | rfl | (simp [errW_none, errW_some] <;> rfl) | (simp [*, errW_none, errW_some] <;> rfl), by repeat (first | (with_reducible first | exact HB.out | apply below_alloc | apply pw_below_drewN | apply below_drew1) | exact HB.out)⟩
  · replace c3 := Bool.eq_false_iff.mpr c3
    subst c3
    have H1 : (none) = some r := by rw [if_neg (show ¬ (false = true) by decide)] at H; exact H
    exact absurd H1 (by simp)

end Go.Proofs.Ytpfpmjdifnoeoaa.F
