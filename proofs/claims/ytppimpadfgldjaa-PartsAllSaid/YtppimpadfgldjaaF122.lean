-- Laid by mk.py (a program of this session) over the seat's translation.
import Derived.Test.YtppimpadfgldjaaF0
import Derived.Test.YtppimpadfgldjaaB1
import Derived.Test.YtppimpadfgldjaaB2
namespace Go.Proofs.Ytppimpadfgldjaa.F
open Go.RowKit Go.Proofs.YtppimpadfgldjaaW.PrintWords Go.Proofs.YtppimpadfgldjaaW.PrintLast Go.Proofs.YtppimpadfgldjaaW.PrintMore
attribute [local go_sem] max2_int min2_int max_two min_two max_three min_three max_four min_four
set_option linter.unusedVariables false
set_option linter.unusedSimpArgs false

/-! ### gemotlaw2_name: function 122 -/
/-! #### gemotlaw2_name_p: function 122 -/
mutual
def gemotlaw2_name_p.j0 : Nat → Int → Option (ByteArray)
  | 0, _ => none
  | k + 1, x0 => if (Int.tmod x0 6) = 0 then (gemotlaw2_name_p.j1 k (IntKind.u64.wrap (Int.tmod (wrap64 (Int.tdiv x0 6)) 5)) (Int.tmod x0 6) ((Int.tmod x0 6) == 0)) else (gemotlaw2_name_p.j1 k (IntKind.u64.wrap (Int.tmod (wrap64 (Int.tdiv x0 6)) 5)) (Int.tmod x0 6) ((Int.tmod x0 6) == 1))
def gemotlaw2_name_p.j1 : Nat → Int → Int → Bool → Option (ByteArray)
  | 0, _, _, _ => none
  | k + 1, x3, x18, x19 => if x19 = true then ((term_Name.f x3).bind fun t1001 => (some t1001)) else (if x18 = 2 then ((term_Number.f x3).bind fun t1002 => (some t1002)) else (if x18 = 3 then ((term_Private.f (wrap64 (1 + (wrap64 (x3))))).bind fun bt1003 => (some bt1003.1)) else (if x18 = 4 then (if 0 ≤ (Int.tmod x3 3) then (if (Int.tmod x3 3) ≤ 2 then ((term_Text.f ((⟨#[97, 98]⟩ : ByteArray).extract 0 ((Int.tmod x3 3) : Int).toNat)).bind fun bt1005 => (some bt1005.1)) else (none)) else (none)) else ((term_Gen.f).bind fun t1007 => (some t1007)))))
end
def gemotlaw2_name_p.f (k : Nat) (a0 : Int) : Option (ByteArray) := if a0 < 0 then (gemotlaw2_name_p.j0 k (wrap64 (-(wrap64 (a0 + 1))))) else (gemotlaw2_name_p.j0 k a0)
theorem gemotlaw2_name_p.mono_l : ∀ k, (∀ y0, LeO (gemotlaw2_name_p.j0 k y0) (gemotlaw2_name_p.j0 (k + 1) y0)) ∧ (∀ y0 y1 y2, LeO (gemotlaw2_name_p.j1 k y0 y1 y2) (gemotlaw2_name_p.j1 (k + 1) y0 y1 y2))
  | 0 => ⟨fun _ r h => by simp [gemotlaw2_name_p.j0] at h, fun _ _ _ r h => by simp [gemotlaw2_name_p.j1] at h⟩
  | k + 1 => by
    obtain ⟨ih0, ih1⟩ := gemotlaw2_name_p.mono_l k; refine ⟨?_, ?_⟩
    · intro y0; unfold gemotlaw2_name_p.j0
      repeat' first
      | (with_reducible exact ih0 _)
      | (with_reducible exact ih1 _ _ _)
      | (with_reducible exact LeO.refl _)
      | (with_reducible exact LeO.none _)
      | (with_reducible refine LeO.ite ?_ ?_)
      | (with_reducible refine LeO.bind ?_ (fun _ => ?_))
      | exact ih0 _
      | exact ih1 _ _ _
      | exact LeO.none _
      | refine LeO.ite ?_ ?_
      | refine LeO.bind ?_ (fun _ => ?_)
    · intro y0 y1 y2; unfold gemotlaw2_name_p.j1
      repeat' first
      | (with_reducible exact ih0 _)
      | (with_reducible exact ih1 _ _ _)
      | (with_reducible exact LeO.refl _)
      | (with_reducible exact LeO.none _)
      | (with_reducible refine LeO.ite ?_ ?_)
      | (with_reducible refine LeO.bind ?_ (fun _ => ?_))
      | exact ih0 _
      | exact ih1 _ _ _
      | exact LeO.none _
      | refine LeO.ite ?_ ?_
      | refine LeO.bind ?_ (fun _ => ?_)
theorem gemotlaw2_name_p.mono : ∀ a0 k, LeO (gemotlaw2_name_p.f k a0) (gemotlaw2_name_p.f (k + 1) a0) := by
  intro a0 k; obtain ⟨ih0, ih1⟩ := gemotlaw2_name_p.mono_l k; unfold gemotlaw2_name_p.f
  repeat' first
      | (with_reducible exact ih0 _)
      | (with_reducible exact ih1 _ _ _)
      | (with_reducible exact LeO.refl _)
      | (with_reducible exact LeO.none _)
      | (with_reducible refine LeO.ite ?_ ?_)
      | (with_reducible refine LeO.bind ?_ (fun _ => ?_))
      | exact ih0 _
      | exact ih1 _ _ _
      | exact LeO.none _
      | refine LeO.ite ?_ ?_
      | refine LeO.bind ?_ (fun _ => ?_)
set_option maxHeartbeats 8000000 in
set_option maxRecDepth 100000 in
theorem gemotlaw2_name_p.calls (k : Nat) (a0 : Int) (r : ByteArray) (w : World) (h : gemotlaw2_name_p.f k a0 = some r) :
    Calls Try.prog 122 #[.int .i64 a0] w fun e w' => e = .returned (.string r) ∧ Below w.heap.size w w' := by
  have HB := Aside0.mk (Below.refl w.heap.size w)
  have H : (if a0 < 0 then (gemotlaw2_name_p.j0 k (wrap64 (-(wrap64 (a0 + 1))))) else (gemotlaw2_name_p.j0 k a0)) = some r := h
  clear h; have HC2 := Aside0.mk H
  clear H; go_enter Try.func122, Try.ntmps122
  go_upto_if 9 with (fail)
  go_cut [0] (fun v0 wc => ∃ (kq : Nat) (x0_1 : Int), v0 = .int .i64 x0_1 ∧ Aside0 (gemotlaw2_name_p.j0 kq x0_1 = some r) ∧ Aside0 (kq ≤ k) ∧ Aside0 (Below w.heap.size w wc))
  case first =>
    have H := HC2.out; clear HC2; by_cases c3 : a0 < 0
    · rw [if_pos c3] at H
      have c3b0 : decide (a0 < 0) = true := decide_eq_true c3
      clear c3; (first | rw [c3b0] | (simp only [i64_w, i32_w]; rw [c3b0]) | skip); have H' := Aside0.mk H
      clear H; go_wp2; go_meet
      case rel => exact ⟨_, (wrap64 (-(wrap64 (a0 + 1)))), (by first | rfl | (simp; done) | (simp [*]; done)), H', ⟨by first | omega | exact Nat.le_refl _⟩, ⟨by repeat (first | (with_reducible first | exact HB.out | apply below_alloc | apply pw_below_drewN | apply below_drew1) | exact HB.out)⟩⟩
    · rw [if_neg c3] at H
      have c3b0 : decide (a0 < 0) = false := decide_eq_false c3
      clear c3; (first | rw [c3b0] | (simp only [i64_w, i32_w]; rw [c3b0]) | skip); have H' := Aside0.mk H
      clear H; go_wp2; go_meet
      case rel => exact ⟨_, (a0), (by first | rfl | (simp; done) | (simp [*]; done)), H', ⟨by first | omega | exact Nat.le_refl _⟩, ⟨by repeat (first | (with_reducible first | exact HB.out | apply below_alloc | apply pw_below_drewN | apply below_drew1) | exact HB.out)⟩⟩
  case rest =>
    clear HC2; try clear c1
    try clear p2
    try clear c3
    try clear c3b0
    obtain ⟨kq, x0_1, rfl, HA, HJ1, HB⟩ := hcut; cases kq with
    | zero => exact absurd HA.out (by simp [gemotlaw2_name_p.j0])
    | succ kj1 =>
      have H := HA.out; clear HA; simp only [gemotlaw2_name_p.j0] at H; have HC4 := Aside0.mk H
      clear H; go_upto_if 19 with (fail)
      go_cut [19] (fun v19 wc => ∃ (kq : Nat) (x19_3 : Bool), v19 = .bool x19_3 ∧ Aside0 (gemotlaw2_name_p.j1 kq (IntKind.u64.wrap (Int.tmod (wrap64 (Int.tdiv x0_1 6)) 5)) (Int.tmod x0_1 6) x19_3 = some r) ∧ Aside0 (kq ≤ kj1) ∧ Aside0 (Below w.heap.size w wc))
      case first =>
        have H := HC4.out; clear HC4; by_cases c5 : (Int.tmod x0_1 6) = 0
        · rw [if_pos c5] at H
          have c5b0 : ((Int.tmod x0_1 6) == 0) = true := beq_iff_eq.mpr c5
          have c5b1 : ((Int.tmod x0_1 6) != 0) = false := bne_eq_false_iff_eq.mpr c5
          clear c5; (first | rw [c5b0] | (simp only [i64_w, i32_w]; rw [c5b0]) | skip); have H' := Aside0.mk H
          clear H; go_wp2; go_meet
          case rel => exact ⟨_, (((Int.tmod x0_1 6) == 0)), (by first | rfl | (simp; done) | (simp [*]; done)), H', ⟨by have := HJ1.out; first | omega | exact Nat.le_refl _⟩, ⟨by repeat (first | (with_reducible first | exact HB.out | apply below_alloc | apply pw_below_drewN | apply below_drew1) | exact HB.out)⟩⟩
        · rw [if_neg c5] at H
          have c5b0 : ((Int.tmod x0_1 6) == 0) = false := beq_eq_false_iff_ne.mpr c5
          have c5b1 : ((Int.tmod x0_1 6) != 0) = true := bne_iff_ne.mpr c5
          (first | rw [c5b0] | (simp only [i64_w, i32_w]; rw [c5b0]) | skip); have H' := Aside0.mk H
          clear H; go_wp2; go_meet
          case rel => exact ⟨_, (((Int.tmod x0_1 6) == 1)), (by first | rfl | (simp; done) | (simp [*]; done)), H', ⟨by have := HJ1.out; first | omega | exact Nat.le_refl _⟩, ⟨by repeat (first | (with_reducible first | exact HB.out | apply below_alloc | apply pw_below_drewN | apply below_drew1) | exact HB.out)⟩⟩
      case rest =>
        clear HC4; try clear c1
        try clear p2
        try clear c3
        try clear c3b0
        try clear c5
        try clear c5b0
        try clear c5b1
        try clear p2
        obtain ⟨kq, x19_3, rfl, HA, HJ3, HB⟩ := hcut; cases kq with
        | zero => exact absurd HA.out (by simp [gemotlaw2_name_p.j1])
        | succ kj3 =>
          have H := HA.out; clear HA; simp only [gemotlaw2_name_p.j1] at H; by_cases c6 : x19_3 = true
          · subst c6; have H1 : ((term_Name.f (IntKind.u64.wrap (Int.tmod (wrap64 (Int.tdiv x0_1 6)) 5))).bind fun t1001 => (some t1001)) = some r := by rw [if_pos rfl] at H; exact H
            clear H; have H := H1; clear H1; replace H := Option.bind_eq_some_iff.mp H
            obtain ⟨t1001, A70, H⟩ := H; replace H : (some t1001) = some r := H
            have A7 := Aside0.mk A70
            clear A70; obtain rfl := Option.some.inj H
            go_wp2_with (first | ((with_reducible refine gate_callee (f := 80) rfl ?_); refine goesL_ (some 23) rfl rfl Try.func80 (by kernel_rfl) rfl #[.int .u64 (IntKind.u64.wrap (Int.tmod (wrap64 (Int.tdiv x0_1 6)) 5))] rfl (by simp only [List.map_toArray, List.map_cons, List.map_nil] <;> rfl) ?_; (with_reducible refine (term_Name.calls (IntKind.u64.wrap (Int.tmod (wrap64 (Int.tdiv x0_1 6)) 5)) t1001 _ A7.out).mono ?_); rintro e w8 ⟨rfl, hb⟩; refine ⟨_, rfl, ?_⟩; have n0_ := Aside0.mk (below_step (by repeat with_reducible first | exact HB.out | apply below_alloc | apply pw_below_drewN | apply below_drew1) hb); clear HB; have HB := n0_; clear n0_; (try clear hb)))
            go_ret
            exact ⟨by first | rfl | (simp [errW_none, errW_some] <;> rfl) | (simp [*, errW_none, errW_some] <;> rfl), by repeat (first | (with_reducible first | exact HB.out | apply below_alloc | apply pw_below_drewN | apply below_drew1) | exact HB.out)⟩
          · replace c6 := Bool.eq_false_iff.mpr c6
            subst c6; have H1 : (if (Int.tmod x0_1 6) = 2 then ((term_Number.f (IntKind.u64.wrap (Int.tmod (wrap64 (Int.tdiv x0_1 6)) 5))).bind fun t1002 => (some t1002)) else (if (Int.tmod x0_1 6) = 3 then ((term_Private.f (wrap64 (1 + (wrap64 ((IntKind.u64.wrap (Int.tmod (wrap64 (Int.tdiv x0_1 6)) 5))))))).bind fun bt1003 => (some bt1003.1)) else (if (Int.tmod x0_1 6) = 4 then (if 0 ≤ (Int.tmod (IntKind.u64.wrap (Int.tmod (wrap64 (Int.tdiv x0_1 6)) 5)) 3) then (if (Int.tmod (IntKind.u64.wrap (Int.tmod (wrap64 (Int.tdiv x0_1 6)) 5)) 3) ≤ 2 then ((term_Text.f ((⟨#[97, 98]⟩ : ByteArray).extract 0 ((Int.tmod (IntKind.u64.wrap (Int.tmod (wrap64 (Int.tdiv x0_1 6)) 5)) 3) : Int).toNat)).bind fun bt1005 => (some bt1005.1)) else (none)) else (none)) else ((term_Gen.f).bind fun t1007 => (some t1007))))) = some r := by rw [if_neg (show ¬ (false = true) by decide)] at H; exact H
            clear H; have H := H1; clear H1; by_cases c9 : (Int.tmod x0_1 6) = 2
            · rw [if_pos c9] at H
              have c9b0 : ((Int.tmod x0_1 6) == 2) = true := beq_iff_eq.mpr c9
              have c9b1 : ((Int.tmod x0_1 6) != 2) = false := bne_eq_false_iff_eq.mpr c9
              clear c9; replace H := Option.bind_eq_some_iff.mp H
              obtain ⟨t1002, A100, H⟩ := H; replace H : (some t1002) = some r := H
              have A10 := Aside0.mk A100
              clear A100; obtain rfl := Option.some.inj H
              go_wp2_with (first | ((with_reducible refine gate_callee (f := 68) rfl ?_); refine goesL_ (some 27) rfl rfl Try.func68 (by kernel_rfl) rfl #[.int .u64 (IntKind.u64.wrap (Int.tmod (wrap64 (Int.tdiv x0_1 6)) 5))] rfl (by simp only [List.map_toArray, List.map_cons, List.map_nil] <;> rfl) ?_; (with_reducible refine (term_Number.calls (IntKind.u64.wrap (Int.tmod (wrap64 (Int.tdiv x0_1 6)) 5)) t1002 _ A10.out).mono ?_); rintro e w11 ⟨rfl, hb⟩; refine ⟨_, rfl, ?_⟩; have n0_ := Aside0.mk (below_step (by repeat with_reducible first | exact HB.out | apply below_alloc | apply pw_below_drewN | apply below_drew1) hb); clear HB; have HB := n0_; clear n0_; (try clear hb)))
              go_ret
              exact ⟨by first | rfl | (simp [errW_none, errW_some] <;> rfl) | (simp [*, errW_none, errW_some] <;> rfl), by repeat (first | (with_reducible first | exact HB.out | apply below_alloc | apply pw_below_drewN | apply below_drew1) | exact HB.out)⟩
            · rw [if_neg c9] at H
              have c9b0 : ((Int.tmod x0_1 6) == 2) = false := beq_eq_false_iff_ne.mpr c9
              have c9b1 : ((Int.tmod x0_1 6) != 2) = true := bne_iff_ne.mpr c9
              by_cases c12 : (Int.tmod x0_1 6) = 3
              · rw [if_pos c12] at H
                have c12b0 : ((Int.tmod x0_1 6) == 3) = true := beq_iff_eq.mpr c12
                have c12b1 : ((Int.tmod x0_1 6) != 3) = false := bne_eq_false_iff_eq.mpr c12
                clear c12; replace H := Option.bind_eq_some_iff.mp H
                obtain ⟨⟨t1003, t1004⟩, A130, H⟩ := H
                replace H : (some t1003) = some r := H
                have A13 := Aside0.mk A130
                clear A130; obtain rfl := Option.some.inj H
                go_wp2_with (first | ((with_reducible refine gate_callee (f := 54) rfl ?_); refine goesL_ (some 34) rfl rfl Try.func54 (by kernel_rfl) rfl #[.int .i64 (wrap64 (1 + (wrap64 ((IntKind.u64.wrap (Int.tmod (wrap64 (Int.tdiv x0_1 6)) 5))))))] rfl (by simp only [List.map_toArray, List.map_cons, List.map_nil] <;> rfl) ?_; (with_reducible refine (term_Private.calls (wrap64 (1 + (wrap64 ((IntKind.u64.wrap (Int.tmod (wrap64 (Int.tdiv x0_1 6)) 5)))))) t1003 t1004 _ A13.out).mono ?_); rintro e w14 ⟨rfl, hb⟩; refine ⟨_, rfl, ?_⟩; have n0_ := Aside0.mk (below_step (by repeat with_reducible first | exact HB.out | apply below_alloc | apply pw_below_drewN | apply below_drew1) hb); clear HB; have HB := n0_; clear n0_; (try clear hb)))
                go_ret
                exact ⟨by first | rfl | (simp [errW_none, errW_some] <;> rfl) | (simp [*, errW_none, errW_some] <;> rfl), by repeat (first | (with_reducible first | exact HB.out | apply below_alloc | apply pw_below_drewN | apply below_drew1) | exact HB.out)⟩
              · rw [if_neg c12] at H
                have c12b0 : ((Int.tmod x0_1 6) == 3) = false := beq_eq_false_iff_ne.mpr c12
                have c12b1 : ((Int.tmod x0_1 6) != 3) = true := bne_iff_ne.mpr c12
                by_cases c15 : (Int.tmod x0_1 6) = 4
                · rw [if_pos c15] at H
                  have c15b0 : ((Int.tmod x0_1 6) == 4) = true := beq_iff_eq.mpr c15
                  have c15b1 : ((Int.tmod x0_1 6) != 4) = false := bne_eq_false_iff_eq.mpr c15
                  clear c15; obtain ⟨ji16, hji16⟩ : ∃ j_ : Int, (Int.tmod (IntKind.u64.wrap (Int.tmod (wrap64 (Int.tdiv x0_1 6)) 5)) 3) = j_ := ⟨_, rfl⟩
                  replace H : (if 0 ≤ (ji16) then (if (ji16) ≤ 2 then ((term_Text.f ((⟨#[97, 98]⟩ : ByteArray).extract 0 ((ji16) : Int).toNat)).bind fun bt1005 => (some bt1005.1)) else (none)) else (none)) = some r := by first | (rw [hji16] at H; exact H) | (simp only [hji16] at H ⊢; exact H)
                  by_cases c17 : 0 ≤ (ji16)
                  · rw [if_pos c17] at H
                    have c17b0 := eq_true c17
                    have c17b1 : decide (0 ≤ (ji16)) = true := decide_eq_true c17
                    clear c17; by_cases c18 : (ji16) ≤ 2
                    · rw [if_pos c18] at H
                      have c18b0 := eq_true c18
                      have c18b1 : decide ((ji16) ≤ 2) = true := decide_eq_true c18
                      clear c18; replace H := Option.bind_eq_some_iff.mp H
                      obtain ⟨⟨t1005, t1006⟩, A190, H⟩ := H
                      replace H : (some t1005) = some r := H
                      have A19 := Aside0.mk A190
                      clear A190; obtain rfl := Option.some.inj H
                      go_wp2_with (first | ((with_reducible refine gate_callee (f := 141) rfl ?_); refine goesL_ (some 44) rfl rfl Try.func141 (by kernel_rfl) rfl #[.string ((⟨#[97, 98]⟩ : ByteArray).extract 0 ((ji16) : Int).toNat)] rfl (by (try simp only [List.map_toArray, List.map_cons, List.map_nil]); first | done | (simp only [hji16]; rfl) | rfl | (simp only [List.length_drop, List.length_take]; rfl)) ?_; (with_reducible refine (term_Text.calls ((⟨#[97, 98]⟩ : ByteArray).extract 0 ((ji16) : Int).toNat) t1005 t1006 _ A19.out).mono ?_); rintro e w20 ⟨rfl, hb⟩; refine ⟨_, rfl, ?_⟩; have n0_ := Aside0.mk (below_step (by repeat with_reducible first | exact HB.out | apply below_alloc | apply pw_below_drewN | apply below_drew1) hb); clear HB; have HB := n0_; clear n0_; (try clear hb)))
                      go_ret
                      exact ⟨by first | rfl | (simp [errW_none, errW_some] <;> rfl) | (simp only [← hji16]; first | rfl | (simp [errW_none, errW_some] <;> rfl)) | (simp [*, errW_none, errW_some] <;> rfl), by repeat (first | (with_reducible first | exact HB.out | apply below_alloc | apply pw_below_drewN | apply below_drew1) | exact HB.out)⟩
                    · rw [if_neg c18] at H
                      exact absurd H (by simp)
                  · rw [if_neg c17] at H
                    exact absurd H (by simp)
                · rw [if_neg c15] at H
                  have c15b0 : ((Int.tmod x0_1 6) == 4) = false := beq_eq_false_iff_ne.mpr c15
                  have c15b1 : ((Int.tmod x0_1 6) != 4) = true := bne_iff_ne.mpr c15
                  replace H := Option.bind_eq_some_iff.mp H
                  obtain ⟨t1007, A210, H⟩ := H; replace H : (some t1007) = some r := H
                  have A21 := Aside0.mk A210
                  clear A210; obtain rfl := Option.some.inj H
                  go_wp2_with (first | ((with_reducible refine gate_callee (f := 79) rfl ?_); refine goesL_ (some 48) rfl rfl Try.func79 (by kernel_rfl) rfl #[] rfl (by simp only [List.map_toArray, List.map_cons, List.map_nil] <;> rfl) ?_; (with_reducible refine (term_Gen.calls  t1007 _ A21.out).mono ?_); rintro e w' ⟨rfl, ⟨nd, rfl⟩⟩; refine ⟨_, rfl, ?_⟩))
                  go_ret
                  exact ⟨by first | rfl | (simp [errW_none, errW_some] <;> rfl) | (simp [*, errW_none, errW_some] <;> rfl), by repeat (first | (with_reducible first | exact HB.out | apply below_alloc | apply pw_below_drewN | apply below_drew1) | exact HB.out)⟩

open Go.Proofs.Ytppimpadfgldjaa.Pure
def gemotlaw2_name.f (n : Int) : Option ByteArray := if -9223372036854775808 ≤ n ∧ n ≤ 9223372036854775807 then some (nameT n) else none
theorem gemotlaw2_name.eq (n : Int) (h : -9223372036854775808 ≤ n ∧ n ≤ 9223372036854775807) : gemotlaw2_name_p.f 5 n = some (nameT n) := by
  have h1 := absF_range h
  have e : gemotlaw2_name_p.f 5 n = gemotlaw2_name_p.j0 5 (absF n) := by
    unfold gemotlaw2_name_p.f absF
    split
    · rw [show wrap64 (n + 1) = n + 1 by unfold wrap64; omega, show wrap64 (-(n + 1)) = -(n + 1) by unfold wrap64; omega]
    · rfl
  rw [e]
  unfold nameT
  generalize absF n = m at h1 ⊢
  have t6 : Int.tmod m 6 = m % 6 := Int.tmod_eq_emod_of_nonneg (by omega)
  have d6 : Int.tdiv m 6 = m / 6 := Int.tdiv_eq_ediv_of_nonneg (by omega)
  have hk : IntKind.u64.wrap (Int.tmod (wrap64 (Int.tdiv m 6)) 5) = m / 6 % 5 := by
    rw [d6, show wrap64 (m / 6) = m / 6 by unfold wrap64; omega, Int.tmod_eq_emod_of_nonneg (by omega)]
    have : ∀ x : Int, IntKind.u64.wrap x = x % 18446744073709551616 := fun x => rfl
    rw [this]; omega
  simp only [gemotlaw2_name_p.j0, gemotlaw2_name_p.j1]; rw [hk, t6]
  have h5 : 0 ≤ m / 6 % 5 ∧ m / 6 % 5 < 5 := by omega
  have h6 : 0 ≤ m % 6 ∧ m % 6 < 6 := by omega
  have t3 : Int.tmod (m / 6 % 5) 3 = m / 6 % 5 % 3 := Int.tmod_eq_emod_of_nonneg (by omega)
  have w1 : wrap64 (1 + wrap64 (m / 6 % 5)) = 1 + m / 6 % 5 := by unfold wrap64; omega
  rw [t3, w1]
  generalize m / 6 % 5 = k at h5 ⊢
  have h3 : 0 ≤ k % 3 ∧ k % 3 ≤ 2 := by omega
  obtain ⟨g, hg⟩ : ∃ g, m % 6 = g := ⟨_, rfl⟩
  rw [hg] at h6 ⊢
  have hc : g = 0 ∨ g = 1 ∨ g = 2 ∨ g = 3 ∨ g = 4 ∨ g = 5 := by omega
  rw [if_pos h3.1, if_pos h3.2]
  rcases hc with rfl | rfl | rfl | rfl | rfl | rfl <;> rfl
theorem gemotlaw2_name.calls (a0 : Int) (r : ByteArray) (w : World) (h : gemotlaw2_name.f a0 = some r) :
    Calls Try.prog 122 #[.int .i64 a0] w fun e w' => e = .returned (.string r) ∧ Below w.heap.size w w' := by
  unfold gemotlaw2_name.f at h
  split at h
  case isFalse => cases h
  rename_i hs
  exact gemotlaw2_name_p.calls 5 a0 r w ((gemotlaw2_name.eq a0 hs).trans h)

end Go.Proofs.Ytppimpadfgldjaa.F
