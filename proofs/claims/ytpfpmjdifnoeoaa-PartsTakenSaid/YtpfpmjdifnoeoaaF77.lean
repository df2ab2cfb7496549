-- Laid by mk.py (a program of this session) over the seat's translation.
import Derived.Test.YtpfpmjdifnoeoaaF0
import Derived.Test.YtpfpmjdifnoeoaaF129
import Derived.Test.YtpfpmjdifnoeoaaB5
namespace Go.Proofs.Ytpfpmjdifnoeoaa.F
open Go.RowKit Go.Proofs.YtpfpmjdifnoeoaaW.PrintWords Go.Proofs.YtpfpmjdifnoeoaaW.PrintLast Go.Proofs.YtpfpmjdifnoeoaaW.PrintMore
attribute [local go_sem] max2_int min2_int max_two min_two max_three min_three max_four min_four
set_option linter.unusedVariables false
set_option linter.unusedSimpArgs false

/-! ### gemotref2_All: function 77 -/
mutual
def gemotref2_All.l0 : Nat → List ByteArray → List ByteArray → Int → Option (List ByteArray)
  | 0, _, _, _ => none
  | k + 1, x3, x4, x5 => if x5 < (x4.length : Int) then (if 0 ≤ x5 then ((gemotref2_All.f k (rdOf ByteArray.empty x4 x5)).bind fun t1009 => (gemotref2_All.l1 k x3 x4 x5 t1009 0)) else (none)) else (some x3)
def gemotref2_All.l1 : Nat → List ByteArray → List ByteArray → Int → List ByteArray → Int → Option (List ByteArray)
  | 0, _, _, _, _, _ => none
  | k + 1, x3, x4, x5, x6, x7 => if x7 < (x6.length : Int) then (if 0 ≤ x7 then ((gemotref2_Put.f k x3 (rdOf ByteArray.empty x6 x7)).bind fun t1013 => (gemotref2_All.l1 k t1013 x4 x5 x6 (wrap64 (x7 + 1)))) else (none)) else (gemotref2_All.l0 k x3 x4 (wrap64 (x5 + 1)))
def gemotref2_All.f : Nat → ByteArray → Option (List ByteArray)
  | 0, _ => none
  | k + 1, a0 => (gemotref2_Kind.f a0).bind fun t1001 => (if t1001 = 0 then (some ([] : List ByteArray)) else ((gemotref2_Of.f a0).bind fun t1005 => (gemotref2_All.l0 k (([a0] : List ByteArray)) t1005 0)))
end
theorem gemotref2_All.mono_l : ∀ k, (∀ y0, LeO (gemotref2_All.f k y0) (gemotref2_All.f (k + 1) y0)) ∧ (∀ y0 y1 y2, LeO (gemotref2_All.l0 k y0 y1 y2) (gemotref2_All.l0 (k + 1) y0 y1 y2)) ∧ (∀ y0 y1 y2 y3 y4, LeO (gemotref2_All.l1 k y0 y1 y2 y3 y4) (gemotref2_All.l1 (k + 1) y0 y1 y2 y3 y4))
  | 0 => ⟨fun _ r h => by simp [gemotref2_All.f] at h, fun _ _ _ r h => by simp [gemotref2_All.l0] at h, fun _ _ _ _ _ r h => by simp [gemotref2_All.l1] at h⟩
  | k + 1 => by
    obtain ⟨ih0, ih1, ih2⟩ := gemotref2_All.mono_l k; refine ⟨?_, ?_, ?_⟩
    · intro y0; unfold gemotref2_All.f
      repeat' first
      | (with_reducible exact ih0 _)
      | (with_reducible exact ih1 _ _ _)
      | (with_reducible exact ih2 _ _ _ _ _)
      | (with_reducible exact gemotref2_Put.mono _ _ _)
      | (with_reducible exact LeO.refl _)
      | (with_reducible exact LeO.none _)
      | (with_reducible refine LeO.ite ?_ ?_)
      | (with_reducible refine LeO.bind ?_ (fun _ => ?_))
      | exact ih0 _
      | exact ih1 _ _ _
      | exact ih2 _ _ _ _ _
      | exact gemotref2_Put.mono _ _ _
      | exact LeO.none _
      | refine LeO.ite ?_ ?_
      | refine LeO.bind ?_ (fun _ => ?_)
    · intro y0 y1 y2; unfold gemotref2_All.l0
      repeat' first
      | (with_reducible exact ih0 _)
      | (with_reducible exact ih1 _ _ _)
      | (with_reducible exact ih2 _ _ _ _ _)
      | (with_reducible exact gemotref2_Put.mono _ _ _)
      | (with_reducible exact LeO.refl _)
      | (with_reducible exact LeO.none _)
      | (with_reducible refine LeO.ite ?_ ?_)
      | (with_reducible refine LeO.bind ?_ (fun _ => ?_))
      | exact ih0 _
      | exact ih1 _ _ _
      | exact ih2 _ _ _ _ _
      | exact gemotref2_Put.mono _ _ _
      | exact LeO.none _
      | refine LeO.ite ?_ ?_
      | refine LeO.bind ?_ (fun _ => ?_)
    · intro y0 y1 y2 y3 y4; unfold gemotref2_All.l1
      repeat' first
      | (with_reducible exact ih0 _)
      | (with_reducible exact ih1 _ _ _)
      | (with_reducible exact ih2 _ _ _ _ _)
      | (with_reducible exact gemotref2_Put.mono _ _ _)
      | (with_reducible exact LeO.refl _)
      | (with_reducible exact LeO.none _)
      | (with_reducible refine LeO.ite ?_ ?_)
      | (with_reducible refine LeO.bind ?_ (fun _ => ?_))
      | exact ih0 _
      | exact ih1 _ _ _
      | exact ih2 _ _ _ _ _
      | exact gemotref2_Put.mono _ _ _
      | exact LeO.none _
      | refine LeO.ite ?_ ?_
      | refine LeO.bind ?_ (fun _ => ?_)
theorem gemotref2_All.mono : ∀ a0 k, LeO (gemotref2_All.f k a0) (gemotref2_All.f (k + 1) a0) := by
  intro a0 k; obtain ⟨ih0, ih1, ih2⟩ := gemotref2_All.mono_l k; exact ih0 a0
set_option maxHeartbeats 8000000 in
set_option maxRecDepth 100000 in
theorem gemotref2_All.calls (k : Nat) : ∀ (a0 : ByteArray) (r : List ByteArray) (w : World) (h : gemotref2_All.f k a0 = some r),
    Calls Try.prog 77 #[.string a0] w fun e w' => ∃ v0_ : Value, e = .returned (v0_) ∧ Kd.R Kd.string 9 w' w.heap.size (fun _ => True) v0_ r ∧ Below w.heap.size w w' := by
  induction k using Nat.strongRecOn with
  | _ k ih =>
  intro a0 r w h; cases k with
  | zero => exact absurd h (by simp [gemotref2_All.f])
  | succ k =>
  simp only [gemotref2_All.f] at h; have HB := Aside0.mk (Below.refl w.heap.size w)
  have H : ((gemotref2_Kind.f a0).bind fun t1001 => (if t1001 = 0 then (some ([] : List ByteArray)) else ((gemotref2_Of.f a0).bind fun t1005 => (gemotref2_All.l0 k (([a0] : List ByteArray)) t1005 0)))) = some r := h
  clear h; replace H := Option.bind_eq_some_iff.mp H
  obtain ⟨t1001, A20, H⟩ := H; replace H : (if t1001 = 0 then (some ([] : List ByteArray)) else ((gemotref2_Of.f a0).bind fun t1005 => (gemotref2_All.l0 k (([a0] : List ByteArray)) t1005 0))) = some r := H
  have A2 := Aside0.mk A20
  clear A20; by_cases c3 : t1001 = 0
  · rw [if_pos c3] at H
    have c3b0 : (t1001 == 0) = true := beq_iff_eq.mpr c3
    have c3b1 : (t1001 != 0) = false := bne_eq_false_iff_eq.mpr c3
    clear c3; obtain rfl := Option.some.inj H
    go_enter Try.func77, Try.ntmps77
    go_wp2_with (first | ((with_reducible refine gate_callee (f := 72) rfl ?_); refine goesL_ (some 9) rfl rfl Try.func72 (by kernel_rfl) rfl #[.string a0] rfl (by simp only [List.map_toArray, List.map_cons, List.map_nil] <;> rfl) ?_; (with_reducible refine (gemotref2_Kind.calls a0 t1001 _ A2.out).mono ?_); rintro e w4 ⟨rfl, hb⟩; refine ⟨_, rfl, ?_⟩; have n0_ := Aside0.mk (below_step (by repeat with_reducible first | exact HB.out | apply below_alloc | apply pw_below_drewN | apply below_drew1) hb); clear HB; have HB := n0_; clear n0_; (try clear hb)))
    go_ret
    exact ⟨_, by first | rfl | (simp [errW_none, errW_some] <;> rfl) | (simp [*, errW_none, errW_some] <;> rfl), by first | exact Kd.R_nil _ _ _ _ _ | exact Kd.N_nil _ _ _ _ _ | exact Kd.V_nil _ _ _ _ _ | exact Kd.Q_nil _ _ _ _ _ | exact Kd.S_nil _ _ _ _ _, by repeat (first | (with_reducible first | exact HB.out | apply below_alloc | apply pw_below_drewN | apply below_drew1) | exact HB.out)⟩
  · rw [if_neg c3] at H
    have c3b0 : (t1001 == 0) = false := beq_eq_false_iff_ne.mpr c3
    have c3b1 : (t1001 != 0) = true := bne_iff_ne.mpr c3
    obtain ⟨y1002, hy1002⟩ : ∃ y_ : List ByteArray, y_ = (([a0] : List ByteArray)) := ⟨_, rfl⟩
    replace H : ((gemotref2_Of.f a0).bind fun t1005 => (gemotref2_All.l0 k y1002 t1005 0)) = some r := by first | (rw [hy1002]; with_reducible exact H) | (have H2_ := (Option.bind_some _ _).symm.trans H; rw [hy1002]; with_reducible exact H2_) | (have H2_ := (Option.bind_some _ _).symm.trans H; with_reducible exact H2_) | with_reducible exact H | (rw [hy1002]; exact H) | exact H
    have Ny1002 := Aside0.mk hy1002
    clear hy1002; replace H := Option.bind_eq_some_iff.mp H
    obtain ⟨t1005, A50, H⟩ := H; replace H : (gemotref2_All.l0 k y1002 t1005 0) = some r := H
    have A5 := Aside0.mk A50
    clear A50; have H' := Aside0.mk H
    clear H; go_enter Try.func77, Try.ntmps77
    go_wp2_with (first | ((with_reducible refine gate_callee (f := 72) rfl ?_); refine goesL_ (some 9) rfl rfl Try.func72 (by kernel_rfl) rfl #[.string a0] rfl (by simp only [List.map_toArray, List.map_cons, List.map_nil] <;> rfl) ?_; (with_reducible refine (gemotref2_Kind.calls a0 t1001 _ A2.out).mono ?_); rintro e w6 ⟨rfl, hb⟩; refine ⟨_, rfl, ?_⟩; have n0_ := Aside0.mk (below_step (by repeat with_reducible first | exact HB.out | apply below_alloc | apply pw_below_drewN | apply below_drew1) hb); clear HB; have HB := n0_; clear n0_; (try clear hb)) | ((with_reducible refine gate_dst (N := 12) rfl ?_); refine Kd.R_lit Kd.string _ 9 ?hg (N := 12) ?hd (xs := ([a0] : List ByteArray)) (inner := [.string a0]) (ok := fun _ => True) (okp := fun _ => True) ?hr ?hp (fun _ hk => hk) trivial (Below.refl _ _) (Nat.le_refl _) (by simp) ?_; (case hd => rfl); (case hg => rfl); (case hr => first | (go_simp; done) | (go_simp; rfl)); (case hp => exact (Reps.one (show Kd.M Kd.string _ _ _ a0 [.string a0] from rfl) (Reps.none _ _))); intro v1003 w7 ho8 hb hg_ hnew_; clear hg_ hnew_; (first | rw [← Ny1002.out] at ho8 | (simp only [Int.reduceToNat] at ho8; rw [← Ny1002.out] at ho8)); have n0_ := Aside0.mk (Kd.R_lower ho8 (below_size (by repeat with_reducible first | exact HB.out | apply below_alloc | apply pw_below_drewN | apply below_drew1))); have n1_ := Aside0.mk (below_step (by repeat with_reducible first | exact HB.out | apply below_alloc | apply pw_below_drewN | apply below_drew1) hb); clear HB; have HO1004 := n0_; have HB := n1_; clear n0_ n1_; clear hb ho8) | ((with_reducible refine gate_callee (f := 75) rfl ?_); refine goesL_ (some 14) rfl rfl Try.func75 (by kernel_rfl) rfl #[.string a0] rfl (by simp only [List.map_toArray, List.map_cons, List.map_nil] <;> rfl) ?_; (with_reducible refine (gemotref2_Of.calls a0 t1005 _ A5.out).mono ?_); rintro e w9 ⟨v1006, rfl, ho0, hb⟩; refine ⟨_, rfl, ?_⟩; have n0_ := Aside0.mk (Kd.R_elder' (by (with_reducible repeat (first | apply Kd.R_alloc | apply Kd.R_drewN | apply Kd.R_drew)); exact HO1004.out) (Kd.R_base ho0) hb); have n1_ := Aside0.mk (Kd.R_lower (Kd.R_new' ho0 (Kd.R_lt (by (with_reducible repeat (first | apply Kd.R_alloc | apply Kd.R_drewN | apply Kd.R_drew)); exact HO1004.out))) (below_size (by repeat with_reducible first | exact HB.out | apply below_alloc | apply pw_below_drewN | apply below_drew1))); have n2_ := Aside0.mk (below_step (by repeat with_reducible first | exact HB.out | apply below_alloc | apply pw_below_drewN | apply below_drew1) hb); clear HO1004; clear HB; have HO1004 := n0_; have HO1007 := n1_; have HB := n2_; clear n0_ n1_ n2_; (try clear hb); (try clear ho0)))
    go_loopg [3, 5] k (fun kq v3 v5 w' => ∃ (x3_1 : List ByteArray) (x5_1 : Int), v5 = .int .i64 x5_1 ∧ Aside0 (gemotref2_All.l0 kq x3_1 t1005 x5_1 = some r) ∧ Aside0 (kq ≤ k) ∧ Aside0 (Kd.R Kd.string 9 w' w.heap.size (fun k_ => some k_ ≠ (v1006 : Value).ownBlock) v3 x3_1) ∧ Aside0 (Kd.R Kd.string 9 w' w.heap.size (fun k_ => some k_ ≠ (v3 : Value).ownBlock) v1006 t1005) ∧ Aside0 (Below w.heap.size w w'))
    case atStart => exact ⟨(y1002), (0), (by first | rfl | (simp; done) | (simp [*]; done)), H', ⟨Nat.le_refl _⟩, ⟨by (with_reducible repeat (first | apply Kd.R_alloc | apply Kd.R_drewN | apply Kd.R_drew)); exact Kd.R_mono HO1004.out (fun _ hk => hk.2)⟩, ⟨by (with_reducible repeat (first | apply Kd.R_alloc | apply Kd.R_drewN | apply Kd.R_drew)); exact Kd.R_mono HO1007.out (fun _ hk => hk.2)⟩, ⟨by repeat (first | (with_reducible first | exact HB.out | apply below_alloc | apply pw_below_drewN | apply below_drew1) | exact HB.out)⟩⟩
    case round =>
      clear H'; try clear p2
      try clear c3
      try clear c3b0
      try clear c3b1
      try clear c7
      obtain ⟨x3_1, x5_1, rfl, HA, HK1, HO_3, HO_4, HB⟩ := hrel; cases gk with
      | zero => exact absurd HA.out (by simp [gemotref2_All.l0])
      | succ k1 =>
        have H := HA.out; clear HA; simp only [gemotref2_All.l0] at H; by_cases c10 : x5_1 < (t1005.length : Int)
        · rw [if_pos c10] at H
          have c10b0 : decide (x5_1 < (t1005.length : Int)) = true := decide_eq_true c10
          clear c10; by_cases c11 : 0 ≤ x5_1
          · rw [if_pos c11] at H
            have c11b0 : decide (0 ≤ x5_1) = true := decide_eq_true c11
            clear c11; replace H := Option.bind_eq_some_iff.mp H
            obtain ⟨t1009, A120, H⟩ := H; replace H : (gemotref2_All.l1 k1 x3_1 t1005 x5_1 t1009 0) = some r := H
            have A12 := Aside0.mk A120
            clear A120; have H' := Aside0.mk H
            clear H; obtain ⟨Ao13, co13, eo13⟩ := Kd.R_slice HO_4.out; subst eo13; have p1008 : 0 ≤ (x5_1 : Int) := of_decide_eq_true (by first | (with_reducible assumption) | assumption)
            have q1008 : x5_1 < (t1005.length : Int) := of_decide_eq_true (by first | (with_reducible assumption) | assumption)
            obtain ⟨ad1008, e1008, hx1008_0⟩ := Kd.at_string (Kd.R_reads' HO_4.out).2.2 x5_1 p1008 q1008
            cases e1008
            replace p1008 := eq_true p1008
            replace q1008 := eq_true q1008
            go_wp2_with (first | ((with_reducible refine gate_callee (f := 77) rfl ?_); refine goesL_ (some 25) rfl rfl Try.func77 (by kernel_rfl) rfl #[.string (rdOf ByteArray.empty t1005 x5_1)] rfl (by simp only [List.map_toArray, List.map_cons, List.map_nil] <;> rfl) ?_; (with_reducible refine (ih k1 (by have := HK1.out; omega) (rdOf ByteArray.empty t1005 x5_1) t1009 _ A12.out).mono ?_); rintro e w14 ⟨v1010, rfl, ho0, hb⟩; refine ⟨_, rfl, ?_⟩; have n0_ := Aside0.mk (Kd.R_elder' (by (with_reducible repeat (first | apply Kd.R_alloc | apply Kd.R_drewN | apply Kd.R_drew)); exact HO_3.out) (Kd.R_base ho0) hb); have n1_ := Aside0.mk (Kd.R_elder' (by (with_reducible repeat (first | apply Kd.R_alloc | apply Kd.R_drewN | apply Kd.R_drew)); exact HO_4.out) (Kd.R_base ho0) hb); have n2_ := Aside0.mk (Kd.R_lower (Kd.R_new' (Kd.R_new' ho0 (Kd.R_lt (by (with_reducible repeat (first | apply Kd.R_alloc | apply Kd.R_drewN | apply Kd.R_drew)); exact HO_3.out))) (Kd.R_lt (by (with_reducible repeat (first | apply Kd.R_alloc | apply Kd.R_drewN | apply Kd.R_drew)); exact HO_4.out))) (below_size (by repeat with_reducible first | exact HB.out | apply below_alloc | apply pw_below_drewN | apply below_drew1))); have n3_ := Aside0.mk (below_step (by repeat with_reducible first | exact HB.out | apply below_alloc | apply pw_below_drewN | apply below_drew1) hb); clear HO_3; clear HO_4; clear HB; have HO_3 := n0_; have HO_4 := n1_; have HO1011 := n2_; have HB := n3_; clear n0_ n1_ n2_ n3_; (try clear hb); (try clear ho0)))
            go_loopg [3, 7] k1 (fun kq v3 v7 w' => ∃ (x3_2 : List ByteArray) (x7_2 : Int), v7 = .int .i64 x7_2 ∧ Aside0 (gemotref2_All.l1 kq x3_2 t1005 x5_1 t1009 x7_2 = some r) ∧ Aside0 (kq ≤ k1) ∧ Aside0 (Kd.R Kd.string 9 w' w.heap.size (fun k_ => some k_ ≠ ((.slice (some ad1008) t1005.length co13) : Value).ownBlock ∧ some k_ ≠ (v1010 : Value).ownBlock) v3 x3_2) ∧ Aside0 (Kd.R Kd.string 9 w' w.heap.size (fun k_ => some k_ ≠ (v3 : Value).ownBlock ∧ some k_ ≠ (v1010 : Value).ownBlock) (.slice (some ad1008) t1005.length co13) t1005) ∧ Aside0 (Kd.R Kd.string 9 w' w.heap.size (fun k_ => some k_ ≠ (v3 : Value).ownBlock ∧ some k_ ≠ ((.slice (some ad1008) t1005.length co13) : Value).ownBlock) v1010 t1009) ∧ Aside0 (Below w.heap.size w w'))
            case atStart => exact ⟨(x3_1), (0), (by first | rfl | (simp; done) | (simp [*]; done)), H', ⟨Nat.le_refl _⟩, ⟨by (with_reducible repeat (first | apply Kd.R_alloc | apply Kd.R_drewN | apply Kd.R_drew)); exact HO_3.out⟩, ⟨by (with_reducible repeat (first | apply Kd.R_alloc | apply Kd.R_drewN | apply Kd.R_drew)); exact HO_4.out⟩, ⟨by (with_reducible repeat (first | apply Kd.R_alloc | apply Kd.R_drewN | apply Kd.R_drew)); exact Kd.R_mono HO1011.out (fun _ hk => ⟨hk.1.2, hk.2⟩)⟩, ⟨by repeat (first | (with_reducible first | exact HB.out | apply below_alloc | apply pw_below_drewN | apply below_drew1) | exact HB.out)⟩⟩
            case round =>
              clear H'; try clear c1
              try clear p1
              try clear q1
              try clear hx1
              try clear p2
              try clear c3
              try clear c3b0
              try clear c3b1
              try clear c7
              try clear c10
              try clear c10b0
              try clear p10
              try clear q10
              try clear hx10
              try clear c11
              try clear c11b0
              try clear hx1008_0
              try clear p1008
              try clear p2
              try clear q1008
              obtain ⟨x3_2, x7_2, rfl, HA, HK2, HO_3, HO_4, HO_6, HB⟩ := hrel; cases gk with
              | zero => exact absurd HA.out (by simp [gemotref2_All.l1])
              | succ k2 =>
                have H := HA.out; clear HA; simp only [gemotref2_All.l1] at H; by_cases c15 : x7_2 < (t1009.length : Int)
                · rw [if_pos c15] at H
                  have c15b0 : decide (x7_2 < (t1009.length : Int)) = true := decide_eq_true c15
                  clear c15; by_cases c16 : 0 ≤ x7_2
                  · rw [if_pos c16] at H
                    have c16b0 : decide (0 ≤ x7_2) = true := decide_eq_true c16
                    clear c16; replace H := Option.bind_eq_some_iff.mp H
                    obtain ⟨t1013, A170, H⟩ := H; replace H : (gemotref2_All.l1 k2 t1013 t1005 x5_1 t1009 (wrap64 (x7_2 + 1))) = some r := H
                    have A17 := Aside0.mk A170
                    clear A170; have H' := Aside0.mk H
                    clear H; obtain ⟨Ao18, co18, eo18⟩ := Kd.R_slice HO_6.out; subst eo18; have p1012 : 0 ≤ (x7_2 : Int) := of_decide_eq_true (by first | (with_reducible assumption) | assumption)
                    have q1012 : x7_2 < (t1009.length : Int) := of_decide_eq_true (by first | (with_reducible assumption) | assumption)
                    obtain ⟨ad1012, e1012, hx1012_0⟩ := Kd.at_string (Kd.R_reads' HO_6.out).2.2 x7_2 p1012 q1012
                    cases e1012
                    replace p1012 := eq_true p1012
                    replace q1012 := eq_true q1012
                    obtain ⟨Ao19, co19, eo19⟩ := Kd.R_slice HO_3.out; subst eo19; go_wp2_with (first | ((with_reducible refine gate_callee (f := 129) rfl ?_); refine goesL_ (some 37) rfl rfl Try.func129 (by kernel_rfl) rfl #[.slice Ao19 x3_2.length co19, .string (rdOf ByteArray.empty t1009 x7_2)] rfl (by simp only [List.map_toArray, List.map_cons, List.map_nil] <;> rfl) ?_; (with_reducible refine (gemotref2_Put.calls k2 (fun k_ => some k_ = (.slice Ao19 x3_2.length co19 : Value).ownBlock) (.slice Ao19 x3_2.length co19) x3_2 (rdOf ByteArray.empty t1009 x7_2) t1013 w _ ?side1 ?side2 A17.out).mono ?_); (case side1 => repeat (first | (with_reducible first | exact HB.out | apply below_alloc | apply pw_below_drewN | apply below_drew1) | exact HB.out)); (case side2 => exact Kd.R_tight rfl HO_3.out); rintro e w20 ⟨v1014, rfl, ho0, hb, hkp⟩; refine ⟨_, rfl, ?_⟩; have n0_ := Aside0.mk (Kd.R_mono (ok' := fun k_ => some k_ ≠ (.slice (some ad1012) t1009.length co18 : Value).ownBlock ∧ some k_ ≠ (v1014 : Value).ownBlock) (Kd.R_keptB (HO_4.out) hkp (fun k_ hk_ hs_ => (hk_.1) hs_)) (fun k_ hk_ => ⟨hk_.1.2, fun e_ => Or.elim (ho0.1 k_ e_.symm) (fun hs_ => hk_.2.1 hs_) (fun hn_ => Nat.not_le.2 hk_.2.2 hn_)⟩)); have n1_ := Aside0.mk (Kd.R_mono (ok' := fun k_ => some k_ ≠ (.slice (some ad1008) t1005.length co13 : Value).ownBlock ∧ some k_ ≠ (v1014 : Value).ownBlock) (Kd.R_keptB (HO_6.out) hkp (fun k_ hk_ hs_ => (hk_.1) hs_)) (fun k_ hk_ => ⟨hk_.1.2, fun e_ => Or.elim (ho0.1 k_ e_.symm) (fun hs_ => hk_.2.1 hs_) (fun hn_ => Nat.not_le.2 hk_.2.2 hn_)⟩)); have n2_ := Aside0.mk (Kd.R_mono (ok' := fun k_ => some k_ ≠ (.slice (some ad1008) t1005.length co13 : Value).ownBlock ∧ some k_ ≠ (.slice (some ad1012) t1009.length co18 : Value).ownBlock) ho0 (fun k_ hk_ => ⟨Or.elim hk_ (fun hs_ => fun e_ => (((HO_4.out).1 k_ e_.symm).1) hs_) (fun hn_ => (Kd.fresh' (Kd.R_lt (by (with_reducible repeat (first | apply Kd.R_alloc | apply Kd.R_drewN | apply Kd.R_drew)); exact HO_4.out)) k_ hn_)), Or.elim hk_ (fun hs_ => fun e_ => (((HO_6.out).1 k_ e_.symm).1) hs_) (fun hn_ => (Kd.fresh' (Kd.R_lt (by (with_reducible repeat (first | apply Kd.R_alloc | apply Kd.R_drewN | apply Kd.R_drew)); exact HO_6.out)) k_ hn_))⟩)); have n3_ := Aside0.mk (hb); clear HO_4; clear HO_6; clear HB; clear HO_3; have HO_4 := n0_; have HO_6 := n1_; have HO1015 := n2_; have HB := n3_; clear n0_ n1_ n2_ n3_; (try clear hb); (try clear hkp); (try clear ho0)))
                    go_roundg k2
                    case measure => have := HK1.out; have := HK2.out; omega
                    case rel => exact ⟨(t1013), (wrap64 (x7_2 + 1)), (by first | rfl | (simp; done) | (simp [*]; done)), H', ⟨by have := HK1.out; have := HK2.out; omega⟩, ⟨by (with_reducible repeat (first | apply Kd.R_alloc | apply Kd.R_drewN | apply Kd.R_drew)); exact HO1015.out⟩, ⟨by (with_reducible repeat (first | apply Kd.R_alloc | apply Kd.R_drewN | apply Kd.R_drew)); exact Kd.R_mono HO_4.out (fun _ hk => ⟨hk.2, hk.1⟩)⟩, ⟨by (with_reducible repeat (first | apply Kd.R_alloc | apply Kd.R_drewN | apply Kd.R_drew)); exact Kd.R_mono HO_6.out (fun _ hk => ⟨hk.2, hk.1⟩)⟩, ⟨by repeat (first | (with_reducible first | exact HB.out | apply below_alloc | apply pw_below_drewN | apply below_drew1) | exact HB.out)⟩⟩
                  · rw [if_neg c16] at H
                    exact absurd H (by simp)
                · rw [if_neg c15] at H
                  have c15b0 : decide (x7_2 < (t1009.length : Int)) = false := decide_eq_false c15
                  clear c15; have H' := Aside0.mk H
                  clear H; obtain ⟨Ao21, co21, eo21⟩ := Kd.R_slice HO_6.out; subst eo21; go_wp2; go_roundg k2
                  case measure => have := HK1.out; have := HK2.out; omega
                  case rel => exact ⟨(x3_2), (wrap64 (x5_1 + 1)), (by first | rfl | (simp; done) | (simp [*]; done)), H', ⟨by have := HK1.out; have := HK2.out; omega⟩, ⟨by (with_reducible repeat (first | apply Kd.R_alloc | apply Kd.R_drewN | apply Kd.R_drew)); exact Kd.R_mono HO_3.out (fun _ hk => hk.1)⟩, ⟨by (with_reducible repeat (first | apply Kd.R_alloc | apply Kd.R_drewN | apply Kd.R_drew)); exact Kd.R_mono HO_4.out (fun _ hk => hk.1)⟩, ⟨by repeat (first | (with_reducible first | exact HB.out | apply below_alloc | apply pw_below_drewN | apply below_drew1) | exact HB.out)⟩⟩
          · rw [if_neg c11] at H
            exact absurd H (by simp)
        · rw [if_neg c10] at H
          have c10b0 : decide (x5_1 < (t1005.length : Int)) = false := decide_eq_false c10
          clear c10; obtain rfl := Option.some.inj H
          obtain ⟨Ao22, co22, eo22⟩ := Kd.R_slice HO_4.out; subst eo22; go_wp2; go_ret
          exact ⟨_, by first | rfl | (simp [errW_none, errW_some] <;> rfl) | (simp [*, errW_none, errW_some] <;> rfl), by (with_reducible repeat (first | apply Kd.R_alloc | apply Kd.R_drewN | apply Kd.R_drew)); exact Kd.R_mono HO_3.out (fun _ hk => trivial), by repeat (first | (with_reducible first | exact HB.out | apply below_alloc | apply pw_below_drewN | apply below_drew1) | exact HB.out)⟩

end Go.Proofs.Ytpfpmjdifnoeoaa.F
