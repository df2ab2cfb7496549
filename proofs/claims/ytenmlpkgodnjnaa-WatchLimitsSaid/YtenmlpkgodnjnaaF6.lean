-- Laid by mk.py (a program of this session) over the seat's translation.
import Derived.Test.YtenmlpkgodnjnaaF0
import Derived.Test.YtenmlpkgodnjnaaF14
import Derived.Test.YtenmlpkgodnjnaaF15
import Derived.Test.YtenmlpkgodnjnaaF17
import Derived.Test.YtenmlpkgodnjnaaF18
import Derived.Test.YtenmlpkgodnjnaaF21
namespace Go.Proofs.Ytenmlpkgodnjnaa.F
open Go.RowKit Go.Proofs.YtenmlpkgodnjnaaW.PrintWords Go.Proofs.YtenmlpkgodnjnaaW.PrintLast Go.Proofs.YtenmlpkgodnjnaaW.PrintMore
attribute [local go_sem] max2_int min2_int max_two min_two max_three min_three max_four min_four
set_option linter.unusedVariables false
set_option linter.unusedSimpArgs false

/-! ### gemotlaw9_WatchLimits: function 6 -/
mutual
def gemotlaw9_WatchLimits.j0 : Nat → Int → Int → Int → Int → Bool → Bool → Int → Int → List Int → Option (Bool)
  | 0, _, _, _, _, _, _, _, _, _ => none
  | k + 1, x0, x1, x2, x3, x9, x48, x304000, x304001, x304002 => if x48 = true then (some x9) else ((watch_Hear.f x304000 x304001 x304002 x2).bind fun bt304 => (gemotlaw9_WatchLimits.l0 k x0 x1 x2 x3 0 x304000 x304001 x304002 bt304.1 bt304.2.1 bt304.2.2 bt304.1 bt304.2.1 bt304.2.2))
def gemotlaw9_WatchLimits.l0 : Nat → Int → Int → Int → Int → Int → Int → Int → List Int → Int → Int → List Int → Int → Int → List Int → Option (Bool)
  | 0, _, _, _, _, _, _, _, _, _, _, _, _, _, _ => none
  | k + 1, x0, x1, x2, x3, x14, x304000, x304001, x304002, x310000, x310001, x310002, x311000, x311001, x311002 => if x14 < x3 then ((watch_Tick.f x311000 x311001 x311002).bind fun bt311 => (gemotlaw9_WatchLimits.l0 k x0 x1 x2 x3 (wrap64 (x14 + 1)) x304000 x304001 x304002 x310000 x310001 x310002 bt311.1 bt311.2.1 bt311.2.2)) else ((watch_There.f x311000 x311001 x311002).bind fun t316 => (gemotlaw9_WatchLimits.l1 k x0 x1 x2 x3 false false t316 0 x304000 x304001 x304002 x310000 x310001 x310002))
def gemotlaw9_WatchLimits.l1 : Nat → Int → Int → Int → Int → Bool → Bool → List Int → Int → Int → Int → List Int → Int → Int → List Int → Option (Bool)
  | 0, _, _, _, _, _, _, _, _, _, _, _, _, _, _ => none
  | k + 1, x0, x1, x2, x3, x15, x16, x17, x18, x304000, x304001, x304002, x310000, x310001, x310002 => if x18 < (x17.length : Int) then (if x15 = true then (if x16 = true then (gemotlaw9_WatchLimits.l1 k x0 x1 x2 x3 true true x17 (wrap64 (x18 + 1)) x304000 x304001 x304002 x310000 x310001 x310002) else (if 0 ≤ x18 then (gemotlaw9_WatchLimits.l1 k x0 x1 x2 x3 true ((rd x17 x18) == x0) x17 (wrap64 (x18 + 1)) x304000 x304001 x304002 x310000 x310001 x310002) else (none))) else (if 0 ≤ x18 then (if x16 = true then (gemotlaw9_WatchLimits.l1 k x0 x1 x2 x3 ((rd x17 x18) == x2) true x17 (wrap64 (x18 + 1)) x304000 x304001 x304002 x310000 x310001 x310002) else (gemotlaw9_WatchLimits.l1 k x0 x1 x2 x3 ((rd x17 x18) == x2) ((rd x17 x18) == x0) x17 (wrap64 (x18 + 1)) x304000 x304001 x304002 x310000 x310001 x310002)) else (none))) else ((watch_There.f x310000 x310001 x310002).bind fun t322 => ((watch_There.f x304000 x304001 x304002).bind fun t325 => (if x16 = true ∧ x15 = (decide (x2 = x0) || decide (x3 ≤ x1)) ∧ t325.length = 1 ∧ (t322.length = 2 ↔ x2 ≠ x0) ∧ x310002.length = 8 ∧ 1 ≤ x2 ∧ x2 ≤ 8 ∧ rd x310002 (x2 - 1) = 0 then (some true) else (none))))
end
def gemotlaw9_WatchLimits.f (k : Nat) (a0 : Int) (a1 : Int) (a2 : Int) (a3 : Int) : Option (Bool) := (gemotlaw9_shown.f).bind fun t296 => ((watch_New.f a0 a1).bind fun bt297 => (if t296 = true then (if bt297.2.2.2 = 0 then (if a2 < 1 then (gemotlaw9_WatchLimits.j0 k a0 a1 a2 a3 t296 true bt297.1 bt297.2.1 bt297.2.2.1) else (if a2 > 8 then (gemotlaw9_WatchLimits.j0 k a0 a1 a2 a3 t296 true bt297.1 bt297.2.1 bt297.2.2.1) else (if a3 < 0 then (gemotlaw9_WatchLimits.j0 k a0 a1 a2 a3 t296 true bt297.1 bt297.2.1 bt297.2.2.1) else (gemotlaw9_WatchLimits.j0 k a0 a1 a2 a3 t296 (decide (a3 > 300)) bt297.1 bt297.2.1 bt297.2.2.1)))) else (gemotlaw9_WatchLimits.j0 k a0 a1 a2 a3 t296 true bt297.1 bt297.2.1 bt297.2.2.1)) else (gemotlaw9_WatchLimits.j0 k a0 a1 a2 a3 t296 true bt297.1 bt297.2.1 bt297.2.2.1)))
theorem gemotlaw9_WatchLimits.mono_l : ∀ k, (∀ y0 y1 y2 y3 y4 y5 y6 y7 y8, LeO (gemotlaw9_WatchLimits.j0 k y0 y1 y2 y3 y4 y5 y6 y7 y8) (gemotlaw9_WatchLimits.j0 (k + 1) y0 y1 y2 y3 y4 y5 y6 y7 y8)) ∧ (∀ y0 y1 y2 y3 y4 y5 y6 y7 y8 y9 y10 y11 y12 y13, LeO (gemotlaw9_WatchLimits.l0 k y0 y1 y2 y3 y4 y5 y6 y7 y8 y9 y10 y11 y12 y13) (gemotlaw9_WatchLimits.l0 (k + 1) y0 y1 y2 y3 y4 y5 y6 y7 y8 y9 y10 y11 y12 y13)) ∧ (∀ y0 y1 y2 y3 y4 y5 y6 y7 y8 y9 y10 y11 y12 y13, LeO (gemotlaw9_WatchLimits.l1 k y0 y1 y2 y3 y4 y5 y6 y7 y8 y9 y10 y11 y12 y13) (gemotlaw9_WatchLimits.l1 (k + 1) y0 y1 y2 y3 y4 y5 y6 y7 y8 y9 y10 y11 y12 y13))
  | 0 => ⟨fun _ _ _ _ _ _ _ _ _ r h => by simp [gemotlaw9_WatchLimits.j0] at h, fun _ _ _ _ _ _ _ _ _ _ _ _ _ _ r h => by simp [gemotlaw9_WatchLimits.l0] at h, fun _ _ _ _ _ _ _ _ _ _ _ _ _ _ r h => by simp [gemotlaw9_WatchLimits.l1] at h⟩
  | k + 1 => by
    obtain ⟨ih0, ih1, ih2⟩ := gemotlaw9_WatchLimits.mono_l k
    refine ⟨?_, ?_, ?_⟩
    · intro y0 y1 y2 y3 y4 y5 y6 y7 y8
      unfold gemotlaw9_WatchLimits.j0
      repeat' first
      | (with_reducible exact ih0 _ _ _ _ _ _ _ _ _)
      | (with_reducible exact ih1 _ _ _ _ _ _ _ _ _ _ _ _ _ _)
      | (with_reducible exact ih2 _ _ _ _ _ _ _ _ _ _ _ _ _ _)
      | (with_reducible exact LeO.refl _)
      | (with_reducible exact LeO.none _)
      | (with_reducible refine LeO.ite ?_ ?_)
      | (with_reducible refine LeO.bind ?_ (fun _ => ?_))
      | exact ih0 _ _ _ _ _ _ _ _ _
      | exact ih1 _ _ _ _ _ _ _ _ _ _ _ _ _ _
      | exact ih2 _ _ _ _ _ _ _ _ _ _ _ _ _ _
      | exact LeO.none _
      | refine LeO.ite ?_ ?_
      | refine LeO.bind ?_ (fun _ => ?_)
    · intro y0 y1 y2 y3 y4 y5 y6 y7 y8 y9 y10 y11 y12 y13
      unfold gemotlaw9_WatchLimits.l0
      repeat' first
      | (with_reducible exact ih0 _ _ _ _ _ _ _ _ _)
      | (with_reducible exact ih1 _ _ _ _ _ _ _ _ _ _ _ _ _ _)
      | (with_reducible exact ih2 _ _ _ _ _ _ _ _ _ _ _ _ _ _)
      | (with_reducible exact LeO.refl _)
      | (with_reducible exact LeO.none _)
      | (with_reducible refine LeO.ite ?_ ?_)
      | (with_reducible refine LeO.bind ?_ (fun _ => ?_))
      | exact ih0 _ _ _ _ _ _ _ _ _
      | exact ih1 _ _ _ _ _ _ _ _ _ _ _ _ _ _
      | exact ih2 _ _ _ _ _ _ _ _ _ _ _ _ _ _
      | exact LeO.none _
      | refine LeO.ite ?_ ?_
      | refine LeO.bind ?_ (fun _ => ?_)
    · intro y0 y1 y2 y3 y4 y5 y6 y7 y8 y9 y10 y11 y12 y13
      unfold gemotlaw9_WatchLimits.l1
      repeat' first
      | (with_reducible exact ih0 _ _ _ _ _ _ _ _ _)
      | (with_reducible exact ih1 _ _ _ _ _ _ _ _ _ _ _ _ _ _)
      | (with_reducible exact ih2 _ _ _ _ _ _ _ _ _ _ _ _ _ _)
      | (with_reducible exact LeO.refl _)
      | (with_reducible exact LeO.none _)
      | (with_reducible refine LeO.ite ?_ ?_)
      | (with_reducible refine LeO.bind ?_ (fun _ => ?_))
      | exact ih0 _ _ _ _ _ _ _ _ _
      | exact ih1 _ _ _ _ _ _ _ _ _ _ _ _ _ _
      | exact ih2 _ _ _ _ _ _ _ _ _ _ _ _ _ _
      | exact LeO.none _
      | refine LeO.ite ?_ ?_
      | refine LeO.bind ?_ (fun _ => ?_)
theorem gemotlaw9_WatchLimits.mono : ∀ a0 a1 a2 a3 k, LeO (gemotlaw9_WatchLimits.f k a0 a1 a2 a3) (gemotlaw9_WatchLimits.f (k + 1) a0 a1 a2 a3) := by
  intro a0 a1 a2 a3 k
  obtain ⟨ih0, ih1, ih2⟩ := gemotlaw9_WatchLimits.mono_l k
  unfold gemotlaw9_WatchLimits.f
  repeat' first
      | (with_reducible exact ih0 _ _ _ _ _ _ _ _ _)
      | (with_reducible exact ih1 _ _ _ _ _ _ _ _ _ _ _ _ _ _)
      | (with_reducible exact ih2 _ _ _ _ _ _ _ _ _ _ _ _ _ _)
      | (with_reducible exact LeO.refl _)
      | (with_reducible exact LeO.none _)
      | (with_reducible refine LeO.ite ?_ ?_)
      | (with_reducible refine LeO.bind ?_ (fun _ => ?_))
      | exact ih0 _ _ _ _ _ _ _ _ _
      | exact ih1 _ _ _ _ _ _ _ _ _ _ _ _ _ _
      | exact ih2 _ _ _ _ _ _ _ _ _ _ _ _ _ _
      | exact LeO.none _
      | refine LeO.ite ?_ ?_
      | refine LeO.bind ?_ (fun _ => ?_)
set_option maxHeartbeats 8000000 in
set_option maxRecDepth 100000 in
theorem gemotlaw9_WatchLimits.calls (k : Nat) (a0 : Int) (a1 : Int) (a2 : Int) (a3 : Int) (r : Bool) (w : World) (h : gemotlaw9_WatchLimits.f k a0 a1 a2 a3 = some r) :
    Calls Try.prog 6 #[.int .i64 a0, .int .i64 a1, .int .i64 a2, .int .i64 a3] w fun e w' => e = .returned (.bool r) ∧ Below w.heap.size w w' := by
  have hu32 := Try.underlying32
  have HB := Aside0.mk (Below.refl w.heap.size w)
  have H : ((gemotlaw9_shown.f).bind fun t296 => ((watch_New.f a0 a1).bind fun bt297 => (if t296 = true then (if bt297.2.2.2 = 0 then (if a2 < 1 then (gemotlaw9_WatchLimits.j0 k a0 a1 a2 a3 t296 true bt297.1 bt297.2.1 bt297.2.2.1) else (if a2 > 8 then (gemotlaw9_WatchLimits.j0 k a0 a1 a2 a3 t296 true bt297.1 bt297.2.1 bt297.2.2.1) else (if a3 < 0 then (gemotlaw9_WatchLimits.j0 k a0 a1 a2 a3 t296 true bt297.1 bt297.2.1 bt297.2.2.1) else (gemotlaw9_WatchLimits.j0 k a0 a1 a2 a3 t296 (decide (a3 > 300)) bt297.1 bt297.2.1 bt297.2.2.1)))) else (gemotlaw9_WatchLimits.j0 k a0 a1 a2 a3 t296 true bt297.1 bt297.2.1 bt297.2.2.1)) else (gemotlaw9_WatchLimits.j0 k a0 a1 a2 a3 t296 true bt297.1 bt297.2.1 bt297.2.2.1)))) = some r := h
  clear h
  replace H := Option.bind_eq_some_iff.mp H
  obtain ⟨t296, A50, H⟩ := H
  replace H : ((watch_New.f a0 a1).bind fun bt297 => (if t296 = true then (if bt297.2.2.2 = 0 then (if a2 < 1 then (gemotlaw9_WatchLimits.j0 k a0 a1 a2 a3 t296 true bt297.1 bt297.2.1 bt297.2.2.1) else (if a2 > 8 then (gemotlaw9_WatchLimits.j0 k a0 a1 a2 a3 t296 true bt297.1 bt297.2.1 bt297.2.2.1) else (if a3 < 0 then (gemotlaw9_WatchLimits.j0 k a0 a1 a2 a3 t296 true bt297.1 bt297.2.1 bt297.2.2.1) else (gemotlaw9_WatchLimits.j0 k a0 a1 a2 a3 t296 (decide (a3 > 300)) bt297.1 bt297.2.1 bt297.2.2.1)))) else (gemotlaw9_WatchLimits.j0 k a0 a1 a2 a3 t296 true bt297.1 bt297.2.1 bt297.2.2.1)) else (gemotlaw9_WatchLimits.j0 k a0 a1 a2 a3 t296 true bt297.1 bt297.2.1 bt297.2.2.1))) = some r := H
  have A5 := Aside0.mk A50
  clear A50
  replace H := Option.bind_eq_some_iff.mp H
  obtain ⟨⟨t297, t298, t299, t302⟩, A60, H⟩ := H
  replace H : (if t296 = true then (if t302 = 0 then (if a2 < 1 then (gemotlaw9_WatchLimits.j0 k a0 a1 a2 a3 t296 true t297 t298 t299) else (if a2 > 8 then (gemotlaw9_WatchLimits.j0 k a0 a1 a2 a3 t296 true t297 t298 t299) else (if a3 < 0 then (gemotlaw9_WatchLimits.j0 k a0 a1 a2 a3 t296 true t297 t298 t299) else (gemotlaw9_WatchLimits.j0 k a0 a1 a2 a3 t296 (decide (a3 > 300)) t297 t298 t299)))) else (gemotlaw9_WatchLimits.j0 k a0 a1 a2 a3 t296 true t297 t298 t299)) else (gemotlaw9_WatchLimits.j0 k a0 a1 a2 a3 t296 true t297 t298 t299)) = some r := H
  have A6 := Aside0.mk A60
  clear A60
  have HC7 := Aside0.mk H
  clear H
  go_enter Try.func6, Try.ntmps6
  go_upto_region 3 with (first | ((with_reducible refine gate_callee (f := 14) rfl ?_); refine goesL_ (some 20) rfl rfl Try.func14 (by kernel_rfl) rfl #[] rfl (by (try simp only [List.map_toArray, List.map_cons, List.map_nil]); first | done | rfl | (simp only [List.length_drop, List.length_take]; rfl)) ?_; (with_reducible refine (gemotlaw9_shown.calls  t296 _ A5.out).mono ?_); rintro e w8 ⟨rfl, hb⟩; refine ⟨_, rfl, ?_⟩; have n0_ := Aside0.mk (below_step (by repeat (first | (with_reducible first | exact HB.out | apply below_alloc | apply pw_below_drewN | apply below_drew1) | exact HB.out)) hb); clear HB; have HB := n0_; clear n0_; (try clear hb); (try clear hb2); (try clear hk); (try clear hi)) | ((with_reducible refine gate_callee (f := 15) rfl ?_); refine goesL_ (some 24) rfl rfl Try.func15 (by kernel_rfl) rfl #[.int .i64 a0, .int .i64 a1] rfl (by (try simp only [List.map_toArray, List.map_cons, List.map_nil]); first | done | rfl | (simp only [List.length_drop, List.length_take]; rfl)) ?_; (with_reducible refine (watch_New.calls a0 a1 t297 t298 t299 t302 _ A6.out).mono ?_); rintro e w9 ⟨v300, rfl, ho0, hb⟩; refine ⟨_, rfl, ?_⟩; have n0_ := Aside0.mk (Kd.V_lower (Kd.V_mono (ok' := fun k_ => True) ho0 (fun k_ hk_ => trivial)) (below_size (by repeat (first | (with_reducible first | exact HB.out | apply below_alloc | apply pw_below_drewN | apply below_drew1) | exact HB.out)))); have n1_ := Aside0.mk (below_step (by repeat (first | (with_reducible first | exact HB.out | apply below_alloc | apply pw_below_drewN | apply below_drew1) | exact HB.out)) hb); clear HB; have HO301 := n0_; have HB := n1_; clear n0_ n1_; (try clear hb); (try clear hb2); (try clear hk); (try clear hi); (try clear ho0)) | ((with_reducible refine gate_dst (N := 10) rfl ?_); (try (refine gate_guard (by rfl) ?_; dsimp only)); refine box_event ?hg (N := 10) ?hd (cs := #[.int .i64 0, .int .i64 0, .slice none 0 0]) (t := 32) ?hr ?_; (case hd => rfl); (case hg => rfl); (case hr => first | (go_simp; done) | (go_simp; rfl)); intro gb303 hg w10 hbox hb; have n0_ := Aside0.mk (Kd.V_below (Kd.V_elderB (by (with_reducible repeat (first | apply Kd.V_alloc | apply Kd.V_drewN | apply Kd.V_drew)); exact HO301.out) gb303 (Nat.le_of_eq hg.symm)) hb); have n1_ := Aside0.mk (below_step (by repeat (first | (with_reducible first | exact HB.out | apply below_alloc | apply pw_below_drewN | apply below_drew1) | exact HB.out)) hb); have n2_ := Aside0.mk (hbox); have n3_ := Aside0.mk ((by rw [hg]; exact (below_size (by repeat (first | (with_reducible first | exact HB.out | apply below_alloc | apply pw_below_drewN | apply below_drew1) | exact HB.out))) : w.heap.size ≤ gb303)); have n4_ := Aside0.mk ((by rw [hg]; exact (below_size (by repeat (first | (with_reducible first | exact HB.out | apply below_alloc | apply pw_below_drewN | apply below_drew1) | exact HB.out))) : w.heap.size ≤ gb303)); clear HO301; clear HB; have HO301 := n0_; have HB := n1_; have BK303 := n2_; have GW303 := n3_; have GE303 := n4_; clear n0_ n1_ n2_ n3_ n4_; clear hb hbox hg; have hcz11_0 : w10.cell? ⟨gb303, 0, none⟩ = some (.int .i64 0) := (blk_cell BK303.out 0).trans rfl; have hcz11_1 : w10.cell? ⟨gb303, 1, none⟩ = some (.int .i64 0) := (blk_cell BK303.out 1).trans rfl; have hcz11_2 : w10.cell? ⟨gb303, 2, none⟩ = some (.slice none 0 0) := (blk_cell BK303.out 2).trans rfl; have hfz11_0 := blk_frozen BK303.out 0; have hfz11_1 := blk_frozen BK303.out 1; have hfz11_2 := blk_frozen BK303.out 2; obtain ⟨Ao12, co12, eo12⟩ := Kd.V_slice HO301.out; subst eo12))
  (try simp only [Act.put, List.setIfInBounds_toArray, List.set_cons_zero, List.set_cons_succ])
  go_cut [48] (fun v48 wc => ∃ (kq : Nat) (x48_6 : Bool), v48 = .bool x48_6 ∧ Aside0 (gemotlaw9_WatchLimits.j0 kq a0 a1 a2 a3 t296 x48_6 t297 t298 t299 = some r) ∧ Aside0 (kq ≤ k) ∧ Aside0 (Kd.V (Kd.int .i64) 3 wc w.heap.size (fun k_ => k_ ≠ gb303) (.slice Ao12 t299.length co12) t299) ∧ Aside0 (wc.heap[gb303]? = some (.cells #[.int .i64 t297, .int .i64 t298, (.slice Ao12 t299.length co12)] 32 (0, 0))) ∧ Aside0 (Below w.heap.size w wc))
  case first =>
    have H := HC7.out
    clear HC7
    by_cases c13 : t296 = true
    · subst c13
      have H1 : (if t302 = 0 then (if a2 < 1 then (gemotlaw9_WatchLimits.j0 k a0 a1 a2 a3 true true t297 t298 t299) else (if a2 > 8 then (gemotlaw9_WatchLimits.j0 k a0 a1 a2 a3 true true t297 t298 t299) else (if a3 < 0 then (gemotlaw9_WatchLimits.j0 k a0 a1 a2 a3 true true t297 t298 t299) else (gemotlaw9_WatchLimits.j0 k a0 a1 a2 a3 true (decide (a3 > 300)) t297 t298 t299)))) else (gemotlaw9_WatchLimits.j0 k a0 a1 a2 a3 true true t297 t298 t299)) = some r := by rw [if_pos rfl] at H; exact H
      clear H
      have H := H1
      clear H1
      by_cases c14 : t302 = 0
      · rw [if_pos c14] at H
        have c14b0 : (t302 == 0) = true := beq_iff_eq.mpr c14
        have c14b1 : (t302 != 0) = false := bne_eq_false_iff_eq.mpr c14
        clear c14
        (first | rw [c14b0] | (simp only [i64_w, i32_w]; rw [c14b0]) | skip)
        by_cases c15 : a2 < 1
        · rw [if_pos c15] at H
          have c15b0 : decide (a2 < 1) = true := decide_eq_true c15
          clear c15
          have H' := Aside0.mk H
          clear H
          go_wp2
          go_meet
          case rel => exact ⟨_, (true), (by first | rfl | (simp; done) | (simp [*]; done)), H', ⟨by first | omega | exact Nat.le_refl _⟩, ⟨by (with_reducible repeat (first | apply Kd.V_alloc | apply Kd.V_drewN | apply Kd.V_drew)); exact Kd.V_mono (Kd.V_far (p := ⟨gb303, 2, none⟩) (Kd.V_far (p := ⟨gb303, 1, none⟩) (Kd.V_far (p := ⟨gb303, 0, none⟩) (Kd.V_mono HO301.out (fun k_ hk => (⟨hk, hk.2⟩ : _ ∧ k_ ≠ gb303))) (fun _ hk => hk.2) (.int .i64 t297)) (fun _ hk => hk.2) (.int .i64 t298)) (fun _ hk => hk.2) (.slice Ao12 t299.length co12)) (fun _ hk => hk.1.2)⟩, ⟨by (with_reducible repeat (first | refine blk_drewN ?_ _ | refine blk_drew ?_ | refine blk_alloc ?_ _)); refine blk_put (cs := #[.int .i64 t297, .int .i64 t298, .slice none 0 0]) ?_ 2 _ rfl; (with_reducible repeat (first | refine blk_drewN ?_ _ | refine blk_drew ?_ | refine blk_alloc ?_ _)); refine blk_put (cs := #[.int .i64 t297, .int .i64 0, .slice none 0 0]) ?_ 1 _ rfl; (with_reducible repeat (first | refine blk_drewN ?_ _ | refine blk_drew ?_ | refine blk_alloc ?_ _)); refine blk_put (cs := #[.int .i64 0, .int .i64 0, .slice none 0 0]) ?_ 0 _ rfl; (with_reducible repeat (first | refine blk_drewN ?_ _ | refine blk_drew ?_ | refine blk_alloc ?_ _)); exact BK303.out⟩, ⟨by repeat (first | (with_reducible first | exact HB.out | apply below_alloc | apply pw_below_drewN | apply below_drew1 | refine below_set ?_ GE303.out) | exact HB.out)⟩⟩
        · rw [if_neg c15] at H
          have c15b0 : decide (a2 < 1) = false := decide_eq_false c15
          clear c15
          by_cases c16 : a2 > 8
          · rw [if_pos c16] at H
            have c16b0 : decide (8 < a2) = true := decide_eq_true c16
            clear c16
            have H' := Aside0.mk H
            clear H
            go_wp2
            go_meet
            case rel => exact ⟨_, (true), (by first | rfl | (simp; done) | (simp [*]; done)), H', ⟨by first | omega | exact Nat.le_refl _⟩, ⟨by (with_reducible repeat (first | apply Kd.V_alloc | apply Kd.V_drewN | apply Kd.V_drew)); exact Kd.V_mono (Kd.V_far (p := ⟨gb303, 2, none⟩) (Kd.V_far (p := ⟨gb303, 1, none⟩) (Kd.V_far (p := ⟨gb303, 0, none⟩) (Kd.V_mono HO301.out (fun k_ hk => (⟨hk, hk.2⟩ : _ ∧ k_ ≠ gb303))) (fun _ hk => hk.2) (.int .i64 t297)) (fun _ hk => hk.2) (.int .i64 t298)) (fun _ hk => hk.2) (.slice Ao12 t299.length co12)) (fun _ hk => hk.1.2)⟩, ⟨by (with_reducible repeat (first | refine blk_drewN ?_ _ | refine blk_drew ?_ | refine blk_alloc ?_ _)); refine blk_put (cs := #[.int .i64 t297, .int .i64 t298, .slice none 0 0]) ?_ 2 _ rfl; (with_reducible repeat (first | refine blk_drewN ?_ _ | refine blk_drew ?_ | refine blk_alloc ?_ _)); refine blk_put (cs := #[.int .i64 t297, .int .i64 0, .slice none 0 0]) ?_ 1 _ rfl; (with_reducible repeat (first | refine blk_drewN ?_ _ | refine blk_drew ?_ | refine blk_alloc ?_ _)); refine blk_put (cs := #[.int .i64 0, .int .i64 0, .slice none 0 0]) ?_ 0 _ rfl; (with_reducible repeat (first | refine blk_drewN ?_ _ | refine blk_drew ?_ | refine blk_alloc ?_ _)); exact BK303.out⟩, ⟨by repeat (first | (with_reducible first | exact HB.out | apply below_alloc | apply pw_below_drewN | apply below_drew1 | refine below_set ?_ GE303.out) | exact HB.out)⟩⟩
          · rw [if_neg c16] at H
            have c16b0 : decide (8 < a2) = false := decide_eq_false c16
            clear c16
            by_cases c17 : a3 < 0
            · rw [if_pos c17] at H
              have c17b0 : decide (a3 < 0) = true := decide_eq_true c17
              clear c17
              have H' := Aside0.mk H
              clear H
              go_wp2
              go_meet
              case rel => exact ⟨_, (true), (by first | rfl | (simp; done) | (simp [*]; done)), H', ⟨by first | omega | exact Nat.le_refl _⟩, ⟨by (with_reducible repeat (first | apply Kd.V_alloc | apply Kd.V_drewN | apply Kd.V_drew)); exact Kd.V_mono (Kd.V_far (p := ⟨gb303, 2, none⟩) (Kd.V_far (p := ⟨gb303, 1, none⟩) (Kd.V_far (p := ⟨gb303, 0, none⟩) (Kd.V_mono HO301.out (fun k_ hk => (⟨hk, hk.2⟩ : _ ∧ k_ ≠ gb303))) (fun _ hk => hk.2) (.int .i64 t297)) (fun _ hk => hk.2) (.int .i64 t298)) (fun _ hk => hk.2) (.slice Ao12 t299.length co12)) (fun _ hk => hk.1.2)⟩, ⟨by (with_reducible repeat (first | refine blk_drewN ?_ _ | refine blk_drew ?_ | refine blk_alloc ?_ _)); refine blk_put (cs := #[.int .i64 t297, .int .i64 t298, .slice none 0 0]) ?_ 2 _ rfl; (with_reducible repeat (first | refine blk_drewN ?_ _ | refine blk_drew ?_ | refine blk_alloc ?_ _)); refine blk_put (cs := #[.int .i64 t297, .int .i64 0, .slice none 0 0]) ?_ 1 _ rfl; (with_reducible repeat (first | refine blk_drewN ?_ _ | refine blk_drew ?_ | refine blk_alloc ?_ _)); refine blk_put (cs := #[.int .i64 0, .int .i64 0, .slice none 0 0]) ?_ 0 _ rfl; (with_reducible repeat (first | refine blk_drewN ?_ _ | refine blk_drew ?_ | refine blk_alloc ?_ _)); exact BK303.out⟩, ⟨by repeat (first | (with_reducible first | exact HB.out | apply below_alloc | apply pw_below_drewN | apply below_drew1 | refine below_set ?_ GE303.out) | exact HB.out)⟩⟩
            · rw [if_neg c17] at H
              have c17b0 : decide (a3 < 0) = false := decide_eq_false c17
              clear c17
              have H' := Aside0.mk H
              clear H
              go_wp2
              go_meet
              case rel => exact ⟨_, (decide (a3 > 300)), (by first | rfl | (simp; done) | (simp [*]; done)), H', ⟨by first | omega | exact Nat.le_refl _⟩, ⟨by (with_reducible repeat (first | apply Kd.V_alloc | apply Kd.V_drewN | apply Kd.V_drew)); exact Kd.V_mono (Kd.V_far (p := ⟨gb303, 2, none⟩) (Kd.V_far (p := ⟨gb303, 1, none⟩) (Kd.V_far (p := ⟨gb303, 0, none⟩) (Kd.V_mono HO301.out (fun k_ hk => (⟨hk, hk.2⟩ : _ ∧ k_ ≠ gb303))) (fun _ hk => hk.2) (.int .i64 t297)) (fun _ hk => hk.2) (.int .i64 t298)) (fun _ hk => hk.2) (.slice Ao12 t299.length co12)) (fun _ hk => hk.1.2)⟩, ⟨by (with_reducible repeat (first | refine blk_drewN ?_ _ | refine blk_drew ?_ | refine blk_alloc ?_ _)); refine blk_put (cs := #[.int .i64 t297, .int .i64 t298, .slice none 0 0]) ?_ 2 _ rfl; (with_reducible repeat (first | refine blk_drewN ?_ _ | refine blk_drew ?_ | refine blk_alloc ?_ _)); refine blk_put (cs := #[.int .i64 t297, .int .i64 0, .slice none 0 0]) ?_ 1 _ rfl; (with_reducible repeat (first | refine blk_drewN ?_ _ | refine blk_drew ?_ | refine blk_alloc ?_ _)); refine blk_put (cs := #[.int .i64 0, .int .i64 0, .slice none 0 0]) ?_ 0 _ rfl; (with_reducible repeat (first | refine blk_drewN ?_ _ | refine blk_drew ?_ | refine blk_alloc ?_ _)); exact BK303.out⟩, ⟨by repeat (first | (with_reducible first | exact HB.out | apply below_alloc | apply pw_below_drewN | apply below_drew1 | refine below_set ?_ GE303.out) | exact HB.out)⟩⟩
      · rw [if_neg c14] at H
        have c14b0 : (t302 == 0) = false := beq_eq_false_iff_ne.mpr c14
        have c14b1 : (t302 != 0) = true := bne_iff_ne.mpr c14
        (first | rw [c14b0] | (simp only [i64_w, i32_w]; rw [c14b0]) | skip)
        have H' := Aside0.mk H
        clear H
        go_wp2
        go_meet
        case rel => exact ⟨_, (true), (by first | rfl | (simp; done) | (simp [*]; done)), H', ⟨by first | omega | exact Nat.le_refl _⟩, ⟨by (with_reducible repeat (first | apply Kd.V_alloc | apply Kd.V_drewN | apply Kd.V_drew)); exact Kd.V_mono (Kd.V_far (p := ⟨gb303, 2, none⟩) (Kd.V_far (p := ⟨gb303, 1, none⟩) (Kd.V_far (p := ⟨gb303, 0, none⟩) (Kd.V_mono HO301.out (fun k_ hk => (⟨hk, hk.2⟩ : _ ∧ k_ ≠ gb303))) (fun _ hk => hk.2) (.int .i64 t297)) (fun _ hk => hk.2) (.int .i64 t298)) (fun _ hk => hk.2) (.slice Ao12 t299.length co12)) (fun _ hk => hk.1.2)⟩, ⟨by (with_reducible repeat (first | refine blk_drewN ?_ _ | refine blk_drew ?_ | refine blk_alloc ?_ _)); refine blk_put (cs := #[.int .i64 t297, .int .i64 t298, .slice none 0 0]) ?_ 2 _ rfl; (with_reducible repeat (first | refine blk_drewN ?_ _ | refine blk_drew ?_ | refine blk_alloc ?_ _)); refine blk_put (cs := #[.int .i64 t297, .int .i64 0, .slice none 0 0]) ?_ 1 _ rfl; (with_reducible repeat (first | refine blk_drewN ?_ _ | refine blk_drew ?_ | refine blk_alloc ?_ _)); refine blk_put (cs := #[.int .i64 0, .int .i64 0, .slice none 0 0]) ?_ 0 _ rfl; (with_reducible repeat (first | refine blk_drewN ?_ _ | refine blk_drew ?_ | refine blk_alloc ?_ _)); exact BK303.out⟩, ⟨by repeat (first | (with_reducible first | exact HB.out | apply below_alloc | apply pw_below_drewN | apply below_drew1 | refine below_set ?_ GE303.out) | exact HB.out)⟩⟩
    · replace c13 := Bool.eq_false_iff.mpr c13
      subst c13
      have H1 : (gemotlaw9_WatchLimits.j0 k a0 a1 a2 a3 false true t297 t298 t299) = some r := by rw [if_neg (show ¬ (false = true) by decide)] at H; exact H
      clear H
      have H := H1
      clear H1
      have H' := Aside0.mk H
      clear H
      go_wp2
      go_meet
      case rel => exact ⟨_, (true), (by first | rfl | (simp; done) | (simp [*]; done)), H', ⟨by first | omega | exact Nat.le_refl _⟩, ⟨by (with_reducible repeat (first | apply Kd.V_alloc | apply Kd.V_drewN | apply Kd.V_drew)); exact Kd.V_mono (Kd.V_far (p := ⟨gb303, 2, none⟩) (Kd.V_far (p := ⟨gb303, 1, none⟩) (Kd.V_far (p := ⟨gb303, 0, none⟩) (Kd.V_mono HO301.out (fun k_ hk => (⟨hk, hk.2⟩ : _ ∧ k_ ≠ gb303))) (fun _ hk => hk.2) (.int .i64 t297)) (fun _ hk => hk.2) (.int .i64 t298)) (fun _ hk => hk.2) (.slice Ao12 t299.length co12)) (fun _ hk => hk.1.2)⟩, ⟨by (with_reducible repeat (first | refine blk_drewN ?_ _ | refine blk_drew ?_ | refine blk_alloc ?_ _)); refine blk_put (cs := #[.int .i64 t297, .int .i64 t298, .slice none 0 0]) ?_ 2 _ rfl; (with_reducible repeat (first | refine blk_drewN ?_ _ | refine blk_drew ?_ | refine blk_alloc ?_ _)); refine blk_put (cs := #[.int .i64 t297, .int .i64 0, .slice none 0 0]) ?_ 1 _ rfl; (with_reducible repeat (first | refine blk_drewN ?_ _ | refine blk_drew ?_ | refine blk_alloc ?_ _)); refine blk_put (cs := #[.int .i64 0, .int .i64 0, .slice none 0 0]) ?_ 0 _ rfl; (with_reducible repeat (first | refine blk_drewN ?_ _ | refine blk_drew ?_ | refine blk_alloc ?_ _)); exact BK303.out⟩, ⟨by repeat (first | (with_reducible first | exact HB.out | apply below_alloc | apply pw_below_drewN | apply below_drew1 | refine below_set ?_ GE303.out) | exact HB.out)⟩⟩
  case rest =>
    clear HC7
    try clear c1
    try clear p2
    try clear c6
    try clear c13
    try clear c14
    try clear c14b0
    try clear c14b1
    try clear c15
    try clear c15b0
    try clear c16
    try clear c16b0
    try clear c17
    try clear c17b0
    try clear hcz11_0
    try clear hcz11_1
    try clear hcz11_2
    try clear hfz11_0
    try clear hfz11_1
    try clear hfz11_2
    obtain ⟨kq, x48_6, rfl, HA, HJ6, HO_304002, BK303, HB⟩ := hcut
    cases kq with
    | zero => exact absurd HA.out (by simp [gemotlaw9_WatchLimits.j0])
    | succ kj6 =>
      have H := HA.out
      clear HA
      simp only [gemotlaw9_WatchLimits.j0] at H
      by_cases c18 : x48_6 = true
      · subst c18
        have H1 : (some t296) = some r := by rw [if_pos rfl] at H; exact H
        clear H
        have H := H1
        clear H1
        obtain rfl := Option.some.inj H
        go_wp2
        go_ret
        exact ⟨by first | rfl | (simp [errW_none, errW_some] <;> rfl) | (simp [*, errW_none, errW_some] <;> rfl), by repeat (first | (with_reducible first | exact HB.out | apply below_alloc | apply pw_below_drewN | apply below_drew1 | refine below_set ?_ GE303.out) | exact HB.out)⟩
      · replace c18 := Bool.eq_false_iff.mpr c18
        subst c18
        have H1 : ((watch_Hear.f t297 t298 t299 a2).bind fun bt304 => (gemotlaw9_WatchLimits.l0 kj6 a0 a1 a2 a3 0 t297 t298 t299 bt304.1 bt304.2.1 bt304.2.2 bt304.1 bt304.2.1 bt304.2.2)) = some r := by rw [if_neg (show ¬ (false = true) by decide)] at H; exact H
        clear H
        have H := H1
        clear H1
        replace H := Option.bind_eq_some_iff.mp H
        obtain ⟨⟨t304, t305, t306⟩, A190, H⟩ := H
        replace H : (gemotlaw9_WatchLimits.l0 kj6 a0 a1 a2 a3 0 t297 t298 t299 t304 t305 t306 t304 t305 t306) = some r := H
        have A19 := Aside0.mk A190
        clear A190
        have H' := Aside0.mk H
        clear H
        have hcz20_0 : wc.cell? ⟨gb303, 0, none⟩ = some (.int .i64 t297) := (blk_cell BK303.out 0).trans rfl
        have hcz20_1 : wc.cell? ⟨gb303, 1, none⟩ = some (.int .i64 t298) := (blk_cell BK303.out 1).trans rfl
        have hcz20_2 : wc.cell? ⟨gb303, 2, none⟩ = some (.slice Ao12 t299.length co12) := (blk_cell BK303.out 2).trans rfl
        have hfz20_0 := blk_frozen BK303.out 0
        have hfz20_1 := blk_frozen BK303.out 1
        have hfz20_2 := blk_frozen BK303.out 2
        go_wp2_with (first | ((with_reducible refine gate_callee (f := 18) rfl ?_); refine goesL_ (some 52) rfl rfl Try.func18 (by kernel_rfl) rfl #[.agg #[.int .i64 t297, .int .i64 t298, .slice Ao12 t299.length co12], .int .i64 a2] rfl (by (try simp only [List.map_toArray, List.map_cons, List.map_nil]); first | done | rfl | (simp only [List.length_drop, List.length_take]; rfl)) ?_; (with_reducible refine (watch_Hear.calls t297 t298 _ _ t299 a2 t304 t305 t306 _ ?side1 ?side2 A19.out).mono ?_); (case side1 => repeat (first | exact (Kd.V_reads' HO_304002.out).2.2 | (with_reducible refine Kd.C_alloc ?_ _) | (with_reducible refine Kd.C_drewN ?_ _) | (with_reducible refine Kd.C_drew ?_))); (case side2 => exact (Kd.V_reads' HO_304002.out).2.1); rintro e w21 ⟨v307, rfl, ho0, hb⟩; refine ⟨_, rfl, ?_⟩; have n0_ := Aside0.mk (Kd.V_below (by (with_reducible repeat (first | apply Kd.V_alloc | apply Kd.V_drewN | apply Kd.V_drew)); exact HO_304002.out) hb); have n1_ := Aside0.mk (Kd.V_lower (Kd.V_mono (ok' := fun k_ => k_ ≠ gb303) ho0 (fun k_ hk_ => (Kd.freshB (g := gb303) (o := .cells #[.int .i64 t297, .int .i64 t298, .slice Ao12 t299.length co12] 32 (0, 0)) (by (with_reducible repeat (first | refine blk_drewN ?_ _ | refine blk_drew ?_ | refine blk_alloc ?_ _)); exact BK303.out) k_ hk_))) (below_size (by repeat (first | (with_reducible first | exact HB.out | apply below_alloc | apply pw_below_drewN | apply below_drew1 | refine below_set ?_ GE303.out) | exact HB.out)))); have n2_ := Aside0.mk (blk_below (g := gb303) (o := .cells #[.int .i64 t297, .int .i64 t298, .slice Ao12 t299.length co12] 32 (0, 0)) (by (with_reducible repeat (first | refine blk_drewN ?_ _ | refine blk_drew ?_ | refine blk_alloc ?_ _)); exact BK303.out) hb); have n3_ := Aside0.mk (below_step (by repeat (first | (with_reducible first | exact HB.out | apply below_alloc | apply pw_below_drewN | apply below_drew1 | refine below_set ?_ GE303.out) | exact HB.out)) hb); clear HO_304002; clear BK303; clear HB; have HO_304002 := n0_; have HO308 := n1_; have BK303 := n2_; have HB := n3_; clear n0_ n1_ n2_ n3_; (try clear hb); (try clear hb2); (try clear hk); (try clear hi); (try clear ho0)) | ((with_reducible refine gate_dst (N := 12) rfl ?_); (try (refine gate_guard (by rfl) ?_; dsimp only)); refine box_event ?hg (N := 12) ?hd (cs := #[.int .i64 0, .int .i64 0, .slice none 0 0]) (t := 32) ?hr ?_; (case hd => rfl); (case hg => rfl); (case hr => first | (go_simp; done) | (go_simp; rfl)); intro gb309 hg w22 hbox hb; have n0_ := Aside0.mk (Kd.V_below (Kd.V_elderB (by (with_reducible repeat (first | apply Kd.V_alloc | apply Kd.V_drewN | apply Kd.V_drew)); exact HO_304002.out) gb309 (Nat.le_of_eq hg.symm)) hb); have n1_ := Aside0.mk (Kd.V_below (Kd.V_elderB (by (with_reducible repeat (first | apply Kd.V_alloc | apply Kd.V_drewN | apply Kd.V_drew)); exact HO308.out) gb309 (Nat.le_of_eq hg.symm)) hb); have n2_ := Aside0.mk (blk_below (g := gb303) (o := .cells #[.int .i64 t297, .int .i64 t298, .slice Ao12 t299.length co12] 32 (0, 0)) (by (with_reducible repeat (first | refine blk_drewN ?_ _ | refine blk_drew ?_ | refine blk_alloc ?_ _)); exact BK303.out) hb); have n3_ := Aside0.mk (below_step (by repeat (first | (with_reducible first | exact HB.out | apply below_alloc | apply pw_below_drewN | apply below_drew1 | refine below_set ?_ GE303.out) | exact HB.out)) hb); have n4_ := Aside0.mk (hbox); have n5_ := Aside0.mk ((by rw [hg]; exact (below_size (by repeat (first | (with_reducible first | exact HB.out | apply below_alloc | apply pw_below_drewN | apply below_drew1 | refine below_set ?_ GE303.out) | exact HB.out))) : w.heap.size ≤ gb309)); have n6_ := Aside0.mk ((by rw [hg]; exact (below_size (by repeat (first | (with_reducible first | exact HB.out | apply below_alloc | apply pw_below_drewN | apply below_drew1 | refine below_set ?_ GE303.out) | exact HB.out))) : w.heap.size ≤ gb309)); have n7_ := Aside0.mk ((by rw [hg]; exact Nat.ne_of_lt (blk_lt (g := gb303) (o := .cells #[.int .i64 t297, .int .i64 t298, .slice Ao12 t299.length co12] 32 (0, 0)) (by (with_reducible repeat (first | refine blk_drewN ?_ _ | refine blk_drew ?_ | refine blk_alloc ?_ _)); exact BK303.out)) : gb303 ≠ gb309)); have n8_ := Aside0.mk ((by rw [hg]; exact Nat.ne_of_gt (blk_lt (g := gb303) (o := .cells #[.int .i64 t297, .int .i64 t298, .slice Ao12 t299.length co12] 32 (0, 0)) (by (with_reducible repeat (first | refine blk_drewN ?_ _ | refine blk_drew ?_ | refine blk_alloc ?_ _)); exact BK303.out)) : gb309 ≠ gb303)); clear HO_304002; clear HO308; clear BK303; clear HB; have HO_304002 := n0_; have HO308 := n1_; have BK303 := n2_; have HB := n3_; have BK309 := n4_; have GW309 := n5_; have GE309 := n6_; have NB303_309 := n7_; have NB309_303 := n8_; clear n0_ n1_ n2_ n3_ n4_ n5_ n6_ n7_ n8_; clear hb hbox hg; have hnb23 := NB309_303.out; have hnc23 := NB303_309.out; have hcz24_0 : w22.cell? ⟨gb309, 0, none⟩ = some (.int .i64 0) := (blk_cell BK309.out 0).trans rfl; have hcz24_1 : w22.cell? ⟨gb309, 1, none⟩ = some (.int .i64 0) := (blk_cell BK309.out 1).trans rfl; have hcz24_2 : w22.cell? ⟨gb309, 2, none⟩ = some (.slice none 0 0) := (blk_cell BK309.out 2).trans rfl; have hfz24_0 := blk_frozen BK309.out 0; have hfz24_1 := blk_frozen BK309.out 1; have hfz24_2 := blk_frozen BK309.out 2; obtain ⟨Ao25, co25, eo25⟩ := Kd.V_slice HO308.out; subst eo25) | ((with_reducible refine gate_dst (N := 13) rfl ?_); (try (refine gate_guard (by rfl) ?_; dsimp only)); refine box_event ?hg (N := 13) ?hd (cs := #[.int .i64 0, .int .i64 0, .slice none 0 0]) (t := 32) ?hr ?_; (case hd => rfl); (case hg => rfl); (case hr => first | (go_simp; done) | (go_simp; rfl)); intro gb310 hg w26 hbox hb; have n0_ := Aside0.mk (Kd.V_below (Kd.V_elderB (by (with_reducible repeat (first | apply Kd.V_alloc | apply Kd.V_drewN | apply Kd.V_drew)); exact (Kd.V_mono (Kd.V_far (p := ⟨gb309, 2, none⟩) (Kd.V_far (p := ⟨gb309, 1, none⟩) (Kd.V_far (p := ⟨gb309, 0, none⟩) (Kd.V_mono HO_304002.out (fun k_ hk => (⟨hk, hk.2⟩ : _ ∧ k_ ≠ gb309))) (fun _ hk => hk.2) (.int .i64 t304)) (fun _ hk => hk.2) (.int .i64 t305)) (fun _ hk => hk.2) (.slice Ao25 t306.length co25)) (fun _ h_ => h_.1))) gb310 (Nat.le_of_eq hg.symm)) hb); have n1_ := Aside0.mk (Kd.V_below (Kd.V_elderB (by (with_reducible repeat (first | apply Kd.V_alloc | apply Kd.V_drewN | apply Kd.V_drew)); exact (Kd.V_mono (Kd.V_far (p := ⟨gb309, 2, none⟩) (Kd.V_far (p := ⟨gb309, 1, none⟩) (Kd.V_far (p := ⟨gb309, 0, none⟩) (Kd.V_mono HO308.out (fun k_ hk => (⟨hk, hk.2⟩ : _ ∧ k_ ≠ gb309))) (fun _ hk => hk.2) (.int .i64 t304)) (fun _ hk => hk.2) (.int .i64 t305)) (fun _ hk => hk.2) (.slice Ao25 t306.length co25)) (fun _ h_ => h_.1))) gb310 (Nat.le_of_eq hg.symm)) hb); have n2_ := Aside0.mk (blk_below (g := gb303) (o := .cells #[.int .i64 t297, .int .i64 t298, .slice Ao12 t299.length co12] 32 (0, 0)) (by (with_reducible repeat (first | refine blk_drewN ?_ _ | refine blk_drew ?_ | refine blk_alloc ?_ _)); refine blk_far ?_ NB303_309.out _; (with_reducible repeat (first | refine blk_drewN ?_ _ | refine blk_drew ?_ | refine blk_alloc ?_ _)); refine blk_far ?_ NB303_309.out _; (with_reducible repeat (first | refine blk_drewN ?_ _ | refine blk_drew ?_ | refine blk_alloc ?_ _)); refine blk_far ?_ NB303_309.out _; (with_reducible repeat (first | refine blk_drewN ?_ _ | refine blk_drew ?_ | refine blk_alloc ?_ _)); exact BK303.out) hb); have n3_ := Aside0.mk (blk_below (g := gb309) (o := .cells #[.int .i64 t304, .int .i64 t305, .slice Ao25 t306.length co25] 32 (0, 0)) (by (with_reducible repeat (first | refine blk_drewN ?_ _ | refine blk_drew ?_ | refine blk_alloc ?_ _)); refine blk_put (cs := #[.int .i64 t304, .int .i64 t305, .slice none 0 0]) ?_ 2 _ rfl; (with_reducible repeat (first | refine blk_drewN ?_ _ | refine blk_drew ?_ | refine blk_alloc ?_ _)); refine blk_put (cs := #[.int .i64 t304, .int .i64 0, .slice none 0 0]) ?_ 1 _ rfl; (with_reducible repeat (first | refine blk_drewN ?_ _ | refine blk_drew ?_ | refine blk_alloc ?_ _)); refine blk_put (cs := #[.int .i64 0, .int .i64 0, .slice none 0 0]) ?_ 0 _ rfl; (with_reducible repeat (first | refine blk_drewN ?_ _ | refine blk_drew ?_ | refine blk_alloc ?_ _)); exact BK309.out) hb); have n4_ := Aside0.mk (below_step (by repeat (first | (with_reducible first | exact HB.out | apply below_alloc | apply pw_below_drewN | apply below_drew1 | refine below_set ?_ GE303.out | refine below_set ?_ GE309.out) | exact HB.out)) hb); have n5_ := Aside0.mk (hbox); have n6_ := Aside0.mk ((by rw [hg]; exact (below_size (by repeat (first | (with_reducible first | exact HB.out | apply below_alloc | apply pw_below_drewN | apply below_drew1 | refine below_set ?_ GE303.out | refine below_set ?_ GE309.out) | exact HB.out))) : w.heap.size ≤ gb310)); have n7_ := Aside0.mk ((by rw [hg]; exact (below_size (by repeat (first | (with_reducible first | exact HB.out | apply below_alloc | apply pw_below_drewN | apply below_drew1 | refine below_set ?_ GE303.out | refine below_set ?_ GE309.out) | exact HB.out))) : w.heap.size ≤ gb310)); have n8_ := Aside0.mk ((by rw [hg]; exact Nat.ne_of_lt (blk_lt (g := gb303) (o := .cells #[.int .i64 t297, .int .i64 t298, .slice Ao12 t299.length co12] 32 (0, 0)) (by (with_reducible repeat (first | refine blk_drewN ?_ _ | refine blk_drew ?_ | refine blk_alloc ?_ _)); refine blk_far ?_ NB303_309.out _; (with_reducible repeat (first | refine blk_drewN ?_ _ | refine blk_drew ?_ | refine blk_alloc ?_ _)); refine blk_far ?_ NB303_309.out _; (with_reducible repeat (first | refine blk_drewN ?_ _ | refine blk_drew ?_ | refine blk_alloc ?_ _)); refine blk_far ?_ NB303_309.out _; (with_reducible repeat (first | refine blk_drewN ?_ _ | refine blk_drew ?_ | refine blk_alloc ?_ _)); exact BK303.out)) : gb303 ≠ gb310)); have n9_ := Aside0.mk ((by rw [hg]; exact Nat.ne_of_gt (blk_lt (g := gb303) (o := .cells #[.int .i64 t297, .int .i64 t298, .slice Ao12 t299.length co12] 32 (0, 0)) (by (with_reducible repeat (first | refine blk_drewN ?_ _ | refine blk_drew ?_ | refine blk_alloc ?_ _)); refine blk_far ?_ NB303_309.out _; (with_reducible repeat (first | refine blk_drewN ?_ _ | refine blk_drew ?_ | refine blk_alloc ?_ _)); refine blk_far ?_ NB303_309.out _; (with_reducible repeat (first | refine blk_drewN ?_ _ | refine blk_drew ?_ | refine blk_alloc ?_ _)); refine blk_far ?_ NB303_309.out _; (with_reducible repeat (first | refine blk_drewN ?_ _ | refine blk_drew ?_ | refine blk_alloc ?_ _)); exact BK303.out)) : gb310 ≠ gb303)); have n10_ := Aside0.mk ((by rw [hg]; exact Nat.ne_of_lt (blk_lt (g := gb309) (o := .cells #[.int .i64 t304, .int .i64 t305, .slice Ao25 t306.length co25] 32 (0, 0)) (by (with_reducible repeat (first | refine blk_drewN ?_ _ | refine blk_drew ?_ | refine blk_alloc ?_ _)); refine blk_put (cs := #[.int .i64 t304, .int .i64 t305, .slice none 0 0]) ?_ 2 _ rfl; (with_reducible repeat (first | refine blk_drewN ?_ _ | refine blk_drew ?_ | refine blk_alloc ?_ _)); refine blk_put (cs := #[.int .i64 t304, .int .i64 0, .slice none 0 0]) ?_ 1 _ rfl; (with_reducible repeat (first | refine blk_drewN ?_ _ | refine blk_drew ?_ | refine blk_alloc ?_ _)); refine blk_put (cs := #[.int .i64 0, .int .i64 0, .slice none 0 0]) ?_ 0 _ rfl; (with_reducible repeat (first | refine blk_drewN ?_ _ | refine blk_drew ?_ | refine blk_alloc ?_ _)); exact BK309.out)) : gb309 ≠ gb310)); have n11_ := Aside0.mk ((by rw [hg]; exact Nat.ne_of_gt (blk_lt (g := gb309) (o := .cells #[.int .i64 t304, .int .i64 t305, .slice Ao25 t306.length co25] 32 (0, 0)) (by (with_reducible repeat (first | refine blk_drewN ?_ _ | refine blk_drew ?_ | refine blk_alloc ?_ _)); refine blk_put (cs := #[.int .i64 t304, .int .i64 t305, .slice none 0 0]) ?_ 2 _ rfl; (with_reducible repeat (first | refine blk_drewN ?_ _ | refine blk_drew ?_ | refine blk_alloc ?_ _)); refine blk_put (cs := #[.int .i64 t304, .int .i64 0, .slice none 0 0]) ?_ 1 _ rfl; (with_reducible repeat (first | refine blk_drewN ?_ _ | refine blk_drew ?_ | refine blk_alloc ?_ _)); refine blk_put (cs := #[.int .i64 0, .int .i64 0, .slice none 0 0]) ?_ 0 _ rfl; (with_reducible repeat (first | refine blk_drewN ?_ _ | refine blk_drew ?_ | refine blk_alloc ?_ _)); exact BK309.out)) : gb310 ≠ gb309)); clear HO_304002; clear HO308; clear BK303; clear BK309; clear HB; have HO_304002 := n0_; have HO308 := n1_; have BK303 := n2_; have BK309 := n3_; have HB := n4_; have BK310 := n5_; have GW310 := n6_; have GE310 := n7_; have NB303_310 := n8_; have NB310_303 := n9_; have NB309_310 := n10_; have NB310_309 := n11_; clear n0_ n1_ n2_ n3_ n4_ n5_ n6_ n7_ n8_ n9_ n10_ n11_; clear hb hbox hg; have hnb27 := NB310_303.out; have hnc27 := NB303_310.out; have hnb28 := NB310_309.out; have hnc28 := NB309_310.out; have hcz29_0 : w26.cell? ⟨gb310, 0, none⟩ = some (.int .i64 0) := (blk_cell BK310.out 0).trans rfl; have hcz29_1 : w26.cell? ⟨gb310, 1, none⟩ = some (.int .i64 0) := (blk_cell BK310.out 1).trans rfl; have hcz29_2 : w26.cell? ⟨gb310, 2, none⟩ = some (.slice none 0 0) := (blk_cell BK310.out 2).trans rfl; have hfz29_0 := blk_frozen BK310.out 0; have hfz29_1 := blk_frozen BK310.out 1; have hfz29_2 := blk_frozen BK310.out 2))
        go_loopg [14] kj6 (fun kq v14 w' => ∃ (x14_2 : Int) (x311000_2 : Int) (x311001_2 : Int) (x311002_2 : List Int) (u311002 : Value), v14 = .int .i64 x14_2 ∧ Aside0 (gemotlaw9_WatchLimits.l0 kq a0 a1 a2 a3 x14_2 t297 t298 t299 t304 t305 t306 x311000_2 x311001_2 x311002_2 = some r) ∧ Aside0 (kq ≤ kj6) ∧ Aside0 (Kd.V (Kd.int .i64) 3 w' w.heap.size (fun k_ => k_ ≠ gb303 ∧ k_ ≠ gb309 ∧ k_ ≠ gb310) (.slice Ao12 t299.length co12) t299) ∧ Aside0 (Kd.V (Kd.int .i64) 3 w' w.heap.size (fun k_ => k_ ≠ gb303 ∧ k_ ≠ gb309 ∧ k_ ≠ gb310) (.slice Ao25 t306.length co25) t306) ∧ Aside0 (Kd.V (Kd.int .i64) 3 w' w.heap.size (fun k_ => k_ ≠ gb303 ∧ k_ ≠ gb309 ∧ k_ ≠ gb310) u311002 x311002_2) ∧ Aside0 (w'.heap[gb303]? = some (.cells #[.int .i64 t297, .int .i64 t298, (.slice Ao12 t299.length co12)] 32 (0, 0))) ∧ Aside0 (w'.heap[gb309]? = some (.cells #[.int .i64 t304, .int .i64 t305, (.slice Ao25 t306.length co25)] 32 (0, 0))) ∧ Aside0 (w'.heap[gb310]? = some (.cells #[.int .i64 x311000_2, .int .i64 x311001_2, u311002] 32 (0, 0))) ∧ Aside0 (Below w.heap.size w w'))
        case atStart => exact ⟨(0), (t304), (t305), (t306), (.slice Ao25 t306.length co25), (by first | rfl | (simp; done) | (simp [*]; done)), H', ⟨Nat.le_refl _⟩, ⟨by (with_reducible repeat (first | apply Kd.V_alloc | apply Kd.V_drewN | apply Kd.V_drew)); exact Kd.V_mono (Kd.V_far (p := ⟨gb310, 2, none⟩) (Kd.V_far (p := ⟨gb310, 1, none⟩) (Kd.V_far (p := ⟨gb310, 0, none⟩) (Kd.V_mono HO_304002.out (fun k_ hk => (⟨hk, hk.2⟩ : _ ∧ k_ ≠ gb310))) (fun _ hk => hk.2) (.int .i64 t304)) (fun _ hk => hk.2) (.int .i64 t305)) (fun _ hk => hk.2) (.slice Ao25 t306.length co25)) (fun _ hk => ⟨hk.1.1.1, ⟨hk.1.1.2, hk.1.2⟩⟩)⟩, ⟨by (with_reducible repeat (first | apply Kd.V_alloc | apply Kd.V_drewN | apply Kd.V_drew)); exact Kd.V_mono (Kd.V_far (p := ⟨gb310, 2, none⟩) (Kd.V_far (p := ⟨gb310, 1, none⟩) (Kd.V_far (p := ⟨gb310, 0, none⟩) (Kd.V_mono HO308.out (fun k_ hk => (⟨hk, hk.2⟩ : _ ∧ k_ ≠ gb310))) (fun _ hk => hk.2) (.int .i64 t304)) (fun _ hk => hk.2) (.int .i64 t305)) (fun _ hk => hk.2) (.slice Ao25 t306.length co25)) (fun _ hk => ⟨hk.1.1.1, ⟨hk.1.1.2, hk.1.2⟩⟩)⟩, ⟨by (with_reducible repeat (first | apply Kd.V_alloc | apply Kd.V_drewN | apply Kd.V_drew)); exact Kd.V_mono (Kd.V_far (p := ⟨gb310, 2, none⟩) (Kd.V_far (p := ⟨gb310, 1, none⟩) (Kd.V_far (p := ⟨gb310, 0, none⟩) (Kd.V_mono HO308.out (fun k_ hk => (⟨hk, hk.2⟩ : _ ∧ k_ ≠ gb310))) (fun _ hk => hk.2) (.int .i64 t304)) (fun _ hk => hk.2) (.int .i64 t305)) (fun _ hk => hk.2) (.slice Ao25 t306.length co25)) (fun _ hk => ⟨hk.1.1.1, ⟨hk.1.1.2, hk.1.2⟩⟩)⟩, ⟨by (with_reducible repeat (first | refine blk_drewN ?_ _ | refine blk_drew ?_ | refine blk_alloc ?_ _)); refine blk_far ?_ NB303_310.out _; (with_reducible repeat (first | refine blk_drewN ?_ _ | refine blk_drew ?_ | refine blk_alloc ?_ _)); refine blk_far ?_ NB303_310.out _; (with_reducible repeat (first | refine blk_drewN ?_ _ | refine blk_drew ?_ | refine blk_alloc ?_ _)); refine blk_far ?_ NB303_310.out _; (with_reducible repeat (first | refine blk_drewN ?_ _ | refine blk_drew ?_ | refine blk_alloc ?_ _)); exact BK303.out⟩, ⟨by (with_reducible repeat (first | refine blk_drewN ?_ _ | refine blk_drew ?_ | refine blk_alloc ?_ _)); refine blk_far ?_ NB309_310.out _; (with_reducible repeat (first | refine blk_drewN ?_ _ | refine blk_drew ?_ | refine blk_alloc ?_ _)); refine blk_far ?_ NB309_310.out _; (with_reducible repeat (first | refine blk_drewN ?_ _ | refine blk_drew ?_ | refine blk_alloc ?_ _)); refine blk_far ?_ NB309_310.out _; (with_reducible repeat (first | refine blk_drewN ?_ _ | refine blk_drew ?_ | refine blk_alloc ?_ _)); exact BK309.out⟩, ⟨by (with_reducible repeat (first | refine blk_drewN ?_ _ | refine blk_drew ?_ | refine blk_alloc ?_ _)); refine blk_put (cs := #[.int .i64 t304, .int .i64 t305, .slice none 0 0]) ?_ 2 _ rfl; (with_reducible repeat (first | refine blk_drewN ?_ _ | refine blk_drew ?_ | refine blk_alloc ?_ _)); refine blk_put (cs := #[.int .i64 t304, .int .i64 0, .slice none 0 0]) ?_ 1 _ rfl; (with_reducible repeat (first | refine blk_drewN ?_ _ | refine blk_drew ?_ | refine blk_alloc ?_ _)); refine blk_put (cs := #[.int .i64 0, .int .i64 0, .slice none 0 0]) ?_ 0 _ rfl; (with_reducible repeat (first | refine blk_drewN ?_ _ | refine blk_drew ?_ | refine blk_alloc ?_ _)); exact BK310.out⟩, ⟨by repeat (first | (with_reducible first | exact HB.out | apply below_alloc | apply pw_below_drewN | apply below_drew1 | refine below_set ?_ GE303.out | refine below_set ?_ GE309.out | refine below_set ?_ GE310.out) | exact HB.out)⟩⟩
        case round =>
          clear H'
          try clear c1
          try clear c2
          try clear p2
          try clear c6
          try clear c13
          try clear c14
          try clear c14b0
          try clear c14b1
          try clear c15
          try clear c15b0
          try clear c16
          try clear c16b0
          try clear c17
          try clear c17b0
          try clear c18
          try clear c23
          try clear c27
          try clear c28
          try clear hcz11_0
          try clear hcz11_1
          try clear hcz11_2
          try clear hcz20_0
          try clear hcz20_1
          try clear hcz20_2
          try clear hcz24_0
          try clear hcz24_1
          try clear hcz24_2
          try clear hcz29_0
          try clear hcz29_1
          try clear hcz29_2
          try clear hfz11_0
          try clear hfz11_1
          try clear hfz11_2
          try clear hfz20_0
          try clear hfz20_1
          try clear hfz20_2
          try clear hfz24_0
          try clear hfz24_1
          try clear hfz24_2
          try clear hfz29_0
          try clear hfz29_1
          try clear hfz29_2
          try clear p2
          obtain ⟨x14_2, x311000_2, x311001_2, x311002_2, u311002, rfl, HA, HK2, HO_304002, HO_310002, HO_311002, BK303, BK309, BK310, HB⟩ := hrel
          cases gk with
          | zero => exact absurd HA.out (by simp [gemotlaw9_WatchLimits.l0])
          | succ k2 =>
            have H := HA.out
            clear HA
            simp only [gemotlaw9_WatchLimits.l0] at H
            by_cases c30 : x14_2 < a3
            · rw [if_pos c30] at H
              have c30b0 : decide (x14_2 < a3) = true := decide_eq_true c30
              clear c30
              replace H := Option.bind_eq_some_iff.mp H
              obtain ⟨⟨t311, t312, t313⟩, A310, H⟩ := H
              replace H : (gemotlaw9_WatchLimits.l0 k2 a0 a1 a2 a3 (wrap64 (x14_2 + 1)) t297 t298 t299 t304 t305 t306 t311 t312 t313) = some r := H
              have A31 := Aside0.mk A310
              clear A310
              have H' := Aside0.mk H
              clear H
              have hnb32 := NB310_303.out
              have hnc32 := NB303_310.out
              have hnb33 := NB310_309.out
              have hnc33 := NB309_310.out
              have hcz34_0 : wr.cell? ⟨gb310, 0, none⟩ = some (.int .i64 x311000_2) := (blk_cell BK310.out 0).trans rfl
              have hcz34_1 : wr.cell? ⟨gb310, 1, none⟩ = some (.int .i64 x311001_2) := (blk_cell BK310.out 1).trans rfl
              have hcz34_2 : wr.cell? ⟨gb310, 2, none⟩ = some (u311002) := (blk_cell BK310.out 2).trans rfl
              have hfz34_0 := blk_frozen BK310.out 0
              have hfz34_1 := blk_frozen BK310.out 1
              have hfz34_2 := blk_frozen BK310.out 2
              obtain ⟨Ao35, co35, eo35⟩ := Kd.V_slice HO_311002.out
              subst eo35
              go_wp2_with (first | ((with_reducible refine gate_callee (f := 17) rfl ?_); refine goesL_ (some 60) rfl rfl Try.func17 (by kernel_rfl) rfl #[.agg #[.int .i64 x311000_2, .int .i64 x311001_2, .slice Ao35 x311002_2.length co35]] rfl (by (try simp only [List.map_toArray, List.map_cons, List.map_nil]); first | done | rfl | (simp only [List.length_drop, List.length_take]; rfl)) ?_; (with_reducible refine (watch_Tick.calls x311000_2 x311001_2 _ _ x311002_2 t311 t312 t313 _ ?side1 ?side2 A31.out).mono ?_); (case side1 => repeat (first | exact (Kd.V_reads' HO_311002.out).2.2 | (with_reducible refine Kd.C_alloc ?_ _) | (with_reducible refine Kd.C_drewN ?_ _) | (with_reducible refine Kd.C_drew ?_))); (case side2 => exact (Kd.V_reads' HO_311002.out).2.1); rintro e w36 ⟨v314, rfl, ho0, hb⟩; refine ⟨_, rfl, ?_⟩; have n0_ := Aside0.mk (Kd.V_below (by (with_reducible repeat (first | apply Kd.V_alloc | apply Kd.V_drewN | apply Kd.V_drew)); exact HO_304002.out) hb); have n1_ := Aside0.mk (Kd.V_below (by (with_reducible repeat (first | apply Kd.V_alloc | apply Kd.V_drewN | apply Kd.V_drew)); exact HO_310002.out) hb); have n2_ := Aside0.mk (Kd.V_below (by (with_reducible repeat (first | apply Kd.V_alloc | apply Kd.V_drewN | apply Kd.V_drew)); exact HO_311002.out) hb); have n3_ := Aside0.mk (Kd.V_lower (Kd.V_mono (ok' := fun k_ => k_ ≠ gb303 ∧ k_ ≠ gb309 ∧ k_ ≠ gb310) ho0 (fun k_ hk_ => ⟨(Kd.freshB (g := gb303) (o := .cells #[.int .i64 t297, .int .i64 t298, .slice Ao12 t299.length co12] 32 (0, 0)) (by (with_reducible repeat (first | refine blk_drewN ?_ _ | refine blk_drew ?_ | refine blk_alloc ?_ _)); exact BK303.out) k_ hk_), (Kd.freshB (g := gb309) (o := .cells #[.int .i64 t304, .int .i64 t305, .slice Ao25 t306.length co25] 32 (0, 0)) (by (with_reducible repeat (first | refine blk_drewN ?_ _ | refine blk_drew ?_ | refine blk_alloc ?_ _)); exact BK309.out) k_ hk_), (Kd.freshB (g := gb310) (o := .cells #[.int .i64 x311000_2, .int .i64 x311001_2, .slice Ao35 x311002_2.length co35] 32 (0, 0)) (by (with_reducible repeat (first | refine blk_drewN ?_ _ | refine blk_drew ?_ | refine blk_alloc ?_ _)); exact BK310.out) k_ hk_)⟩)) (below_size (by repeat (first | (with_reducible first | exact HB.out | apply below_alloc | apply pw_below_drewN | apply below_drew1 | refine below_set ?_ GE303.out | refine below_set ?_ GE309.out | refine below_set ?_ GE310.out) | exact HB.out)))); have n4_ := Aside0.mk (blk_below (g := gb303) (o := .cells #[.int .i64 t297, .int .i64 t298, .slice Ao12 t299.length co12] 32 (0, 0)) (by (with_reducible repeat (first | refine blk_drewN ?_ _ | refine blk_drew ?_ | refine blk_alloc ?_ _)); exact BK303.out) hb); have n5_ := Aside0.mk (blk_below (g := gb309) (o := .cells #[.int .i64 t304, .int .i64 t305, .slice Ao25 t306.length co25] 32 (0, 0)) (by (with_reducible repeat (first | refine blk_drewN ?_ _ | refine blk_drew ?_ | refine blk_alloc ?_ _)); exact BK309.out) hb); have n6_ := Aside0.mk (blk_below (g := gb310) (o := .cells #[.int .i64 x311000_2, .int .i64 x311001_2, .slice Ao35 x311002_2.length co35] 32 (0, 0)) (by (with_reducible repeat (first | refine blk_drewN ?_ _ | refine blk_drew ?_ | refine blk_alloc ?_ _)); exact BK310.out) hb); have n7_ := Aside0.mk (below_step (by repeat (first | (with_reducible first | exact HB.out | apply below_alloc | apply pw_below_drewN | apply below_drew1 | refine below_set ?_ GE303.out | refine below_set ?_ GE309.out | refine below_set ?_ GE310.out) | exact HB.out)) hb); clear HO_304002; clear HO_310002; clear HO_311002; clear BK303; clear BK309; clear BK310; clear HB; have HO_304002 := n0_; have HO_310002 := n1_; have HO_311002 := n2_; have HO315 := n3_; have BK303 := n4_; have BK309 := n5_; have BK310 := n6_; have HB := n7_; clear n0_ n1_ n2_ n3_ n4_ n5_ n6_ n7_; (try clear hb); (try clear hb2); (try clear hk); (try clear hi); (try clear ho0); have hcz37_0 : w36.cell? ⟨gb310, 0, none⟩ = some (.int .i64 x311000_2) := (blk_cell BK310.out 0).trans rfl; have hcz37_1 : w36.cell? ⟨gb310, 1, none⟩ = some (.int .i64 x311001_2) := (blk_cell BK310.out 1).trans rfl; have hcz37_2 : w36.cell? ⟨gb310, 2, none⟩ = some (.slice Ao35 x311002_2.length co35) := (blk_cell BK310.out 2).trans rfl; have hfz37_0 := blk_frozen BK310.out 0; have hfz37_1 := blk_frozen BK310.out 1; have hfz37_2 := blk_frozen BK310.out 2; obtain ⟨Ao38, co38, eo38⟩ := Kd.V_slice HO315.out; subst eo38))
              go_roundg k2
              case measure => have := HJ6.out; have := HK2.out; omega
              case rel => exact ⟨(wrap64 (x14_2 + 1)), (t311), (t312), (t313), (.slice Ao38 t313.length co38), (by first | rfl | (simp; done) | (simp [*]; done)), H', ⟨by have := HJ6.out; have := HK2.out; omega⟩, ⟨by (with_reducible repeat (first | apply Kd.V_alloc | apply Kd.V_drewN | apply Kd.V_drew)); exact Kd.V_mono (Kd.V_far (p := ⟨gb310, 2, none⟩) (Kd.V_far (p := ⟨gb310, 1, none⟩) (Kd.V_far (p := ⟨gb310, 0, none⟩) (Kd.V_mono HO_304002.out (fun k_ hk => (⟨hk, hk.2.2⟩ : _ ∧ k_ ≠ gb310))) (fun _ hk => hk.2) (.int .i64 t311)) (fun _ hk => hk.2) (.int .i64 t312)) (fun _ hk => hk.2) (.slice Ao38 t313.length co38)) (fun _ hk => ⟨hk.1.1, ⟨hk.1.2.1, hk.1.2.2⟩⟩)⟩, ⟨by (with_reducible repeat (first | apply Kd.V_alloc | apply Kd.V_drewN | apply Kd.V_drew)); exact Kd.V_mono (Kd.V_far (p := ⟨gb310, 2, none⟩) (Kd.V_far (p := ⟨gb310, 1, none⟩) (Kd.V_far (p := ⟨gb310, 0, none⟩) (Kd.V_mono HO_310002.out (fun k_ hk => (⟨hk, hk.2.2⟩ : _ ∧ k_ ≠ gb310))) (fun _ hk => hk.2) (.int .i64 t311)) (fun _ hk => hk.2) (.int .i64 t312)) (fun _ hk => hk.2) (.slice Ao38 t313.length co38)) (fun _ hk => ⟨hk.1.1, ⟨hk.1.2.1, hk.1.2.2⟩⟩)⟩, ⟨by (with_reducible repeat (first | apply Kd.V_alloc | apply Kd.V_drewN | apply Kd.V_drew)); exact Kd.V_mono (Kd.V_far (p := ⟨gb310, 2, none⟩) (Kd.V_far (p := ⟨gb310, 1, none⟩) (Kd.V_far (p := ⟨gb310, 0, none⟩) (Kd.V_mono HO315.out (fun k_ hk => (⟨hk, hk.2.2⟩ : _ ∧ k_ ≠ gb310))) (fun _ hk => hk.2) (.int .i64 t311)) (fun _ hk => hk.2) (.int .i64 t312)) (fun _ hk => hk.2) (.slice Ao38 t313.length co38)) (fun _ hk => ⟨hk.1.1, ⟨hk.1.2.1, hk.1.2.2⟩⟩)⟩, ⟨by (with_reducible repeat (first | refine blk_drewN ?_ _ | refine blk_drew ?_ | refine blk_alloc ?_ _)); refine blk_far ?_ NB303_310.out _; (with_reducible repeat (first | refine blk_drewN ?_ _ | refine blk_drew ?_ | refine blk_alloc ?_ _)); refine blk_far ?_ NB303_310.out _; (with_reducible repeat (first | refine blk_drewN ?_ _ | refine blk_drew ?_ | refine blk_alloc ?_ _)); refine blk_far ?_ NB303_310.out _; (with_reducible repeat (first | refine blk_drewN ?_ _ | refine blk_drew ?_ | refine blk_alloc ?_ _)); exact BK303.out⟩, ⟨by (with_reducible repeat (first | refine blk_drewN ?_ _ | refine blk_drew ?_ | refine blk_alloc ?_ _)); refine blk_far ?_ NB309_310.out _; (with_reducible repeat (first | refine blk_drewN ?_ _ | refine blk_drew ?_ | refine blk_alloc ?_ _)); refine blk_far ?_ NB309_310.out _; (with_reducible repeat (first | refine blk_drewN ?_ _ | refine blk_drew ?_ | refine blk_alloc ?_ _)); refine blk_far ?_ NB309_310.out _; (with_reducible repeat (first | refine blk_drewN ?_ _ | refine blk_drew ?_ | refine blk_alloc ?_ _)); exact BK309.out⟩, ⟨by (with_reducible repeat (first | refine blk_drewN ?_ _ | refine blk_drew ?_ | refine blk_alloc ?_ _)); refine blk_put (cs := #[.int .i64 t311, .int .i64 t312, .slice Ao35 x311002_2.length co35]) ?_ 2 _ rfl; (with_reducible repeat (first | refine blk_drewN ?_ _ | refine blk_drew ?_ | refine blk_alloc ?_ _)); refine blk_put (cs := #[.int .i64 t311, .int .i64 x311001_2, .slice Ao35 x311002_2.length co35]) ?_ 1 _ rfl; (with_reducible repeat (first | refine blk_drewN ?_ _ | refine blk_drew ?_ | refine blk_alloc ?_ _)); refine blk_put (cs := #[.int .i64 x311000_2, .int .i64 x311001_2, .slice Ao35 x311002_2.length co35]) ?_ 0 _ rfl; (with_reducible repeat (first | refine blk_drewN ?_ _ | refine blk_drew ?_ | refine blk_alloc ?_ _)); exact BK310.out⟩, ⟨by repeat (first | (with_reducible first | exact HB.out | apply below_alloc | apply pw_below_drewN | apply below_drew1 | refine below_set ?_ GE303.out | refine below_set ?_ GE309.out | refine below_set ?_ GE310.out) | exact HB.out)⟩⟩
            · rw [if_neg c30] at H
              have c30b0 : decide (x14_2 < a3) = false := decide_eq_false c30
              clear c30
              replace H := Option.bind_eq_some_iff.mp H
              obtain ⟨t316, A390, H⟩ := H
              replace H : (gemotlaw9_WatchLimits.l1 k2 a0 a1 a2 a3 false false t316 0 t297 t298 t299 t304 t305 t306) = some r := H
              have A39 := Aside0.mk A390
              clear A390
              have H' := Aside0.mk H
              clear H
              have hnb40 := NB310_303.out
              have hnc40 := NB303_310.out
              have hnb41 := NB310_309.out
              have hnc41 := NB309_310.out
              have hcz42_0 : wr.cell? ⟨gb310, 0, none⟩ = some (.int .i64 x311000_2) := (blk_cell BK310.out 0).trans rfl
              have hcz42_1 : wr.cell? ⟨gb310, 1, none⟩ = some (.int .i64 x311001_2) := (blk_cell BK310.out 1).trans rfl
              have hcz42_2 : wr.cell? ⟨gb310, 2, none⟩ = some (u311002) := (blk_cell BK310.out 2).trans rfl
              have hfz42_0 := blk_frozen BK310.out 0
              have hfz42_1 := blk_frozen BK310.out 1
              have hfz42_2 := blk_frozen BK310.out 2
              obtain ⟨Ao43, co43, eo43⟩ := Kd.V_slice HO_311002.out
              subst eo43
              go_wp2_with (first | ((with_reducible refine gate_callee (f := 21) rfl ?_); refine goesL_ (some 62) rfl rfl Try.func21 (by kernel_rfl) rfl #[.agg #[.int .i64 x311000_2, .int .i64 x311001_2, .slice Ao43 x311002_2.length co43]] rfl (by (try simp only [List.map_toArray, List.map_cons, List.map_nil]); first | done | rfl | (simp only [List.length_drop, List.length_take]; rfl)) ?_; (with_reducible refine (watch_There.calls x311000_2 x311001_2 _ _ x311002_2 t316 _ ?side1 ?side2 A39.out).mono ?_); (case side1 => repeat (first | exact (Kd.V_reads' HO_311002.out).2.2 | (with_reducible refine Kd.C_alloc ?_ _) | (with_reducible refine Kd.C_drewN ?_ _) | (with_reducible refine Kd.C_drew ?_))); (case side2 => exact (Kd.V_reads' HO_311002.out).2.1); rintro e w44 ⟨v317, rfl, ho0, hb⟩; refine ⟨_, rfl, ?_⟩; have n0_ := Aside0.mk (Kd.V_elder' (by (with_reducible repeat (first | apply Kd.V_alloc | apply Kd.V_drewN | apply Kd.V_drew)); exact HO_304002.out) (Kd.R_base ho0) hb); have n1_ := Aside0.mk (Kd.V_elder' (by (with_reducible repeat (first | apply Kd.V_alloc | apply Kd.V_drewN | apply Kd.V_drew)); exact HO_310002.out) (Kd.R_base ho0) hb); have n2_ := Aside0.mk (Kd.V_elder' (by (with_reducible repeat (first | apply Kd.V_alloc | apply Kd.V_drewN | apply Kd.V_drew)); exact HO_311002.out) (Kd.R_base ho0) hb); have n3_ := Aside0.mk (Kd.R_lower ho0 (below_size (by repeat (first | (with_reducible first | exact HB.out | apply below_alloc | apply pw_below_drewN | apply below_drew1 | refine below_set ?_ GE303.out | refine below_set ?_ GE309.out | refine below_set ?_ GE310.out) | exact HB.out)))); have n4_ := Aside0.mk (blk_below (g := gb303) (o := .cells #[.int .i64 t297, .int .i64 t298, .slice Ao12 t299.length co12] 32 (0, 0)) (by (with_reducible repeat (first | refine blk_drewN ?_ _ | refine blk_drew ?_ | refine blk_alloc ?_ _)); exact BK303.out) hb); have n5_ := Aside0.mk (blk_below (g := gb309) (o := .cells #[.int .i64 t304, .int .i64 t305, .slice Ao25 t306.length co25] 32 (0, 0)) (by (with_reducible repeat (first | refine blk_drewN ?_ _ | refine blk_drew ?_ | refine blk_alloc ?_ _)); exact BK309.out) hb); have n6_ := Aside0.mk (blk_below (g := gb310) (o := .cells #[.int .i64 x311000_2, .int .i64 x311001_2, .slice Ao43 x311002_2.length co43] 32 (0, 0)) (by (with_reducible repeat (first | refine blk_drewN ?_ _ | refine blk_drew ?_ | refine blk_alloc ?_ _)); exact BK310.out) hb); have n7_ := Aside0.mk (below_step (by repeat (first | (with_reducible first | exact HB.out | apply below_alloc | apply pw_below_drewN | apply below_drew1 | refine below_set ?_ GE303.out | refine below_set ?_ GE309.out | refine below_set ?_ GE310.out) | exact HB.out)) hb); clear HO_304002; clear HO_310002; clear HO_311002; clear BK303; clear BK309; clear BK310; clear HB; have HO_304002 := n0_; have HO_310002 := n1_; have HO_311002 := n2_; have HO318 := n3_; have BK303 := n4_; have BK309 := n5_; have BK310 := n6_; have HB := n7_; clear n0_ n1_ n2_ n3_ n4_ n5_ n6_ n7_; (try clear hb); (try clear hb2); (try clear hk); (try clear hi); (try clear ho0)))
              go_loopg [15, 16, 18] k2 (fun kq v15 v16 v18 w' => ∃ (x15_3 : Bool) (x16_3 : Bool) (x18_3 : Int), v15 = .bool x15_3 ∧ v16 = .bool x16_3 ∧ v18 = .int .i64 x18_3 ∧ Aside0 (gemotlaw9_WatchLimits.l1 kq a0 a1 a2 a3 x15_3 x16_3 t316 x18_3 t297 t298 t299 t304 t305 t306 = some r) ∧ Aside0 (kq ≤ k2) ∧ Aside0 (Kd.R (Kd.int .i64) 3 w' w.heap.size (fun _ => True) v317 t316) ∧ Aside0 (Kd.V (Kd.int .i64) 3 w' w.heap.size (fun k_ => some k_ ≠ (v317 : Value).ownBlock ∧ k_ ≠ gb303 ∧ k_ ≠ gb309 ∧ k_ ≠ gb310) (.slice Ao12 t299.length co12) t299) ∧ Aside0 (Kd.V (Kd.int .i64) 3 w' w.heap.size (fun k_ => some k_ ≠ (v317 : Value).ownBlock ∧ k_ ≠ gb303 ∧ k_ ≠ gb309 ∧ k_ ≠ gb310) (.slice Ao25 t306.length co25) t306) ∧ Aside0 (Kd.V (Kd.int .i64) 3 w' w.heap.size (fun k_ => some k_ ≠ (v317 : Value).ownBlock ∧ k_ ≠ gb303 ∧ k_ ≠ gb309 ∧ k_ ≠ gb310) (.slice Ao43 x311002_2.length co43) x311002_2) ∧ Aside0 (w'.heap[gb303]? = some (.cells #[.int .i64 t297, .int .i64 t298, (.slice Ao12 t299.length co12)] 32 (0, 0))) ∧ Aside0 (w'.heap[gb309]? = some (.cells #[.int .i64 t304, .int .i64 t305, (.slice Ao25 t306.length co25)] 32 (0, 0))) ∧ Aside0 (w'.heap[gb310]? = some (.cells #[.int .i64 x311000_2, .int .i64 x311001_2, (.slice Ao43 x311002_2.length co43)] 32 (0, 0))) ∧ Aside0 (Below w.heap.size w w'))
              case atStart => exact ⟨(false), (false), (0), (by first | rfl | (simp; done) | (simp [*]; done)), (by first | rfl | (simp; done) | (simp [*]; done)), (by first | rfl | (simp; done) | (simp [*]; done)), H', ⟨Nat.le_refl _⟩, ⟨by (with_reducible repeat (first | apply Kd.R_alloc | apply Kd.R_drewN | apply Kd.R_drew)); exact HO318.out⟩, ⟨by (with_reducible repeat (first | apply Kd.V_alloc | apply Kd.V_drewN | apply Kd.V_drew)); exact Kd.V_mono HO_304002.out (fun _ hk => ⟨hk.2, ⟨hk.1.1, ⟨hk.1.2.1, hk.1.2.2⟩⟩⟩)⟩, ⟨by (with_reducible repeat (first | apply Kd.V_alloc | apply Kd.V_drewN | apply Kd.V_drew)); exact Kd.V_mono HO_310002.out (fun _ hk => ⟨hk.2, ⟨hk.1.1, ⟨hk.1.2.1, hk.1.2.2⟩⟩⟩)⟩, ⟨by (with_reducible repeat (first | apply Kd.V_alloc | apply Kd.V_drewN | apply Kd.V_drew)); exact Kd.V_mono HO_311002.out (fun _ hk => ⟨hk.2, ⟨hk.1.1, ⟨hk.1.2.1, hk.1.2.2⟩⟩⟩)⟩, ⟨by (with_reducible repeat (first | refine blk_drewN ?_ _ | refine blk_drew ?_ | refine blk_alloc ?_ _)); exact BK303.out⟩, ⟨by (with_reducible repeat (first | refine blk_drewN ?_ _ | refine blk_drew ?_ | refine blk_alloc ?_ _)); exact BK309.out⟩, ⟨by (with_reducible repeat (first | refine blk_drewN ?_ _ | refine blk_drew ?_ | refine blk_alloc ?_ _)); exact BK310.out⟩, ⟨by repeat (first | (with_reducible first | exact HB.out | apply below_alloc | apply pw_below_drewN | apply below_drew1 | refine below_set ?_ GE303.out | refine below_set ?_ GE309.out | refine below_set ?_ GE310.out) | exact HB.out)⟩⟩
              case round =>
                clear H'
                try clear c1
                try clear c2
                try clear p2
                try clear c3
                try clear c4
                try clear c6
                try clear p6
                try clear c13
                try clear c14
                try clear c14b0
                try clear c14b1
                try clear c15
                try clear c15b0
                try clear c16
                try clear c16b0
                try clear c17
                try clear c17b0
                try clear c18
                try clear c21
                try clear c23
                try clear c27
                try clear c28
                try clear c30
                try clear c30b0
                try clear c32
                try clear c33
                try clear c40
                try clear c41
                try clear hcz11_0
                try clear hcz11_1
                try clear hcz11_2
                try clear hcz20_0
                try clear hcz20_1
                try clear hcz20_2
                try clear hcz24_0
                try clear hcz24_1
                try clear hcz24_2
                try clear hcz29_0
                try clear hcz29_1
                try clear hcz29_2
                try clear hcz34_0
                try clear hcz34_1
                try clear hcz34_2
                try clear hcz37_0
                try clear hcz37_1
                try clear hcz37_2
                try clear hcz42_0
                try clear hcz42_1
                try clear hcz42_2
                try clear hfz11_0
                try clear hfz11_1
                try clear hfz11_2
                try clear hfz20_0
                try clear hfz20_1
                try clear hfz20_2
                try clear hfz24_0
                try clear hfz24_1
                try clear hfz24_2
                try clear hfz29_0
                try clear hfz29_1
                try clear hfz29_2
                try clear hfz34_0
                try clear hfz34_1
                try clear hfz34_2
                try clear hfz37_0
                try clear hfz37_1
                try clear hfz37_2
                try clear hfz42_0
                try clear hfz42_1
                try clear hfz42_2
                try clear p2
                obtain ⟨x15_3, x16_3, x18_3, rfl, rfl, rfl, HA, HK3, HO_17, HO_304002, HO_310002, HO_311002, BK303, BK309, BK310, HB⟩ := hrel
                cases gk with
                | zero => exact absurd HA.out (by simp [gemotlaw9_WatchLimits.l1])
                | succ k3 =>
                  have H := HA.out
                  clear HA
                  simp only [gemotlaw9_WatchLimits.l1] at H
                  by_cases c45 : x18_3 < (t316.length : Int)
                  · rw [if_pos c45] at H
                    have c45b0 : decide (x18_3 < (t316.length : Int)) = true := decide_eq_true c45
                    clear c45
                    by_cases c46 : x15_3 = true
                    · subst c46
                      have H1 : (if x16_3 = true then (gemotlaw9_WatchLimits.l1 k3 a0 a1 a2 a3 true true t316 (wrap64 (x18_3 + 1)) t297 t298 t299 t304 t305 t306) else (if 0 ≤ x18_3 then (gemotlaw9_WatchLimits.l1 k3 a0 a1 a2 a3 true ((rd t316 x18_3) == a0) t316 (wrap64 (x18_3 + 1)) t297 t298 t299 t304 t305 t306) else (none))) = some r := by rw [if_pos rfl] at H; exact H
                      clear H
                      have H := H1
                      clear H1
                      by_cases c47 : x16_3 = true
                      · subst c47
                        have H1 : (gemotlaw9_WatchLimits.l1 k3 a0 a1 a2 a3 true true t316 (wrap64 (x18_3 + 1)) t297 t298 t299 t304 t305 t306) = some r := by rw [if_pos rfl] at H; exact H
                        clear H
                        have H := H1
                        clear H1
                        have H' := Aside0.mk H
                        clear H
                        obtain ⟨Ao48, co48, eo48⟩ := Kd.R_slice HO_17.out
                        subst eo48
                        go_wp2
                        go_roundg k3
                        case measure => have := HJ6.out; have := HK2.out; have := HK3.out; omega
                        case rel => exact ⟨(true), (true), (wrap64 (x18_3 + 1)), (by first | rfl | (simp; done) | (simp [*]; done)), (by first | rfl | (simp; done) | (simp [*]; done)), (by first | rfl | (simp; done) | (simp [*]; done)), H', ⟨by have := HJ6.out; have := HK2.out; have := HK3.out; omega⟩, ⟨by (with_reducible repeat (first | apply Kd.R_alloc | apply Kd.R_drewN | apply Kd.R_drew)); exact HO_17.out⟩, ⟨by (with_reducible repeat (first | apply Kd.V_alloc | apply Kd.V_drewN | apply Kd.V_drew)); exact HO_304002.out⟩, ⟨by (with_reducible repeat (first | apply Kd.V_alloc | apply Kd.V_drewN | apply Kd.V_drew)); exact HO_310002.out⟩, ⟨by (with_reducible repeat (first | apply Kd.V_alloc | apply Kd.V_drewN | apply Kd.V_drew)); exact HO_311002.out⟩, ⟨by (with_reducible repeat (first | refine blk_drewN ?_ _ | refine blk_drew ?_ | refine blk_alloc ?_ _)); exact BK303.out⟩, ⟨by (with_reducible repeat (first | refine blk_drewN ?_ _ | refine blk_drew ?_ | refine blk_alloc ?_ _)); exact BK309.out⟩, ⟨by (with_reducible repeat (first | refine blk_drewN ?_ _ | refine blk_drew ?_ | refine blk_alloc ?_ _)); exact BK310.out⟩, ⟨by repeat (first | (with_reducible first | exact HB.out | apply below_alloc | apply pw_below_drewN | apply below_drew1 | refine below_set ?_ GE303.out | refine below_set ?_ GE309.out | refine below_set ?_ GE310.out) | exact HB.out)⟩⟩
                      · replace c47 := Bool.eq_false_iff.mpr c47
                        subst c47
                        have H1 : (if 0 ≤ x18_3 then (gemotlaw9_WatchLimits.l1 k3 a0 a1 a2 a3 true ((rd t316 x18_3) == a0) t316 (wrap64 (x18_3 + 1)) t297 t298 t299 t304 t305 t306) else (none)) = some r := by rw [if_neg (show ¬ (false = true) by decide)] at H; exact H
                        clear H
                        have H := H1
                        clear H1
                        by_cases c49 : 0 ≤ x18_3
                        · rw [if_pos c49] at H
                          have c49b0 : decide (0 ≤ x18_3) = true := decide_eq_true c49
                          clear c49
                          have H' := Aside0.mk H
                          clear H
                          obtain ⟨Ao50, co50, eo50⟩ := Kd.R_slice HO_17.out
                          subst eo50
                          have p319 : 0 ≤ (x18_3 : Int) := of_decide_eq_true (by first | (with_reducible assumption) | assumption)
                          have q319 : x18_3 < (t316.length : Int) := of_decide_eq_true (by first | (with_reducible assumption) | assumption)
                          obtain ⟨ad319, e319, hx319_0⟩ := Kd.at_int (Kd.R_reads' HO_17.out).2.2 x18_3 p319 q319
                          cases e319
                          replace p319 := eq_true p319
                          replace q319 := eq_true q319
                          go_wp2
                          go_roundg k3
                          case measure => have := HJ6.out; have := HK2.out; have := HK3.out; omega
                          case rel => exact ⟨(true), (((rd t316 x18_3) == a0)), (wrap64 (x18_3 + 1)), (by first | rfl | (simp; done) | (simp [*]; done)), (by first | rfl | (simp; done) | (simp [*]; done)), (by first | rfl | (simp; done) | (simp [*]; done)), H', ⟨by have := HJ6.out; have := HK2.out; have := HK3.out; omega⟩, ⟨by (with_reducible repeat (first | apply Kd.R_alloc | apply Kd.R_drewN | apply Kd.R_drew)); exact HO_17.out⟩, ⟨by (with_reducible repeat (first | apply Kd.V_alloc | apply Kd.V_drewN | apply Kd.V_drew)); exact HO_304002.out⟩, ⟨by (with_reducible repeat (first | apply Kd.V_alloc | apply Kd.V_drewN | apply Kd.V_drew)); exact HO_310002.out⟩, ⟨by (with_reducible repeat (first | apply Kd.V_alloc | apply Kd.V_drewN | apply Kd.V_drew)); exact HO_311002.out⟩, ⟨by (with_reducible repeat (first | refine blk_drewN ?_ _ | refine blk_drew ?_ | refine blk_alloc ?_ _)); exact BK303.out⟩, ⟨by (with_reducible repeat (first | refine blk_drewN ?_ _ | refine blk_drew ?_ | refine blk_alloc ?_ _)); exact BK309.out⟩, ⟨by (with_reducible repeat (first | refine blk_drewN ?_ _ | refine blk_drew ?_ | refine blk_alloc ?_ _)); exact BK310.out⟩, ⟨by repeat (first | (with_reducible first | exact HB.out | apply below_alloc | apply pw_below_drewN | apply below_drew1 | refine below_set ?_ GE303.out | refine below_set ?_ GE309.out | refine below_set ?_ GE310.out) | exact HB.out)⟩⟩
                        · rw [if_neg c49] at H
                          exact absurd H (by simp)
                    · replace c46 := Bool.eq_false_iff.mpr c46
                      subst c46
                      have H1 : (if 0 ≤ x18_3 then (if x16_3 = true then (gemotlaw9_WatchLimits.l1 k3 a0 a1 a2 a3 ((rd t316 x18_3) == a2) true t316 (wrap64 (x18_3 + 1)) t297 t298 t299 t304 t305 t306) else (gemotlaw9_WatchLimits.l1 k3 a0 a1 a2 a3 ((rd t316 x18_3) == a2) ((rd t316 x18_3) == a0) t316 (wrap64 (x18_3 + 1)) t297 t298 t299 t304 t305 t306)) else (none)) = some r := by rw [if_neg (show ¬ (false = true) by decide)] at H; exact H
                      clear H
                      have H := H1
                      clear H1
                      by_cases c51 : 0 ≤ x18_3
                      · rw [if_pos c51] at H
                        have c51b0 : decide (0 ≤ x18_3) = true := decide_eq_true c51
                        clear c51
                        by_cases c52 : x16_3 = true
                        · subst c52
                          have H1 : (gemotlaw9_WatchLimits.l1 k3 a0 a1 a2 a3 ((rd t316 x18_3) == a2) true t316 (wrap64 (x18_3 + 1)) t297 t298 t299 t304 t305 t306) = some r := by rw [if_pos rfl] at H; exact H
                          clear H
                          have H := H1
                          clear H1
                          have H' := Aside0.mk H
                          clear H
                          obtain ⟨Ao53, co53, eo53⟩ := Kd.R_slice HO_17.out
                          subst eo53
                          have p320 : 0 ≤ (x18_3 : Int) := of_decide_eq_true (by first | (with_reducible assumption) | assumption)
                          have q320 : x18_3 < (t316.length : Int) := of_decide_eq_true (by first | (with_reducible assumption) | assumption)
                          obtain ⟨ad320, e320, hx320_0⟩ := Kd.at_int (Kd.R_reads' HO_17.out).2.2 x18_3 p320 q320
                          cases e320
                          replace p320 := eq_true p320
                          replace q320 := eq_true q320
                          go_wp2
                          go_roundg k3
                          case measure => have := HJ6.out; have := HK2.out; have := HK3.out; omega
                          case rel => exact ⟨(((rd t316 x18_3) == a2)), (true), (wrap64 (x18_3 + 1)), (by first | rfl | (simp; done) | (simp [*]; done)), (by first | rfl | (simp; done) | (simp [*]; done)), (by first | rfl | (simp; done) | (simp [*]; done)), H', ⟨by have := HJ6.out; have := HK2.out; have := HK3.out; omega⟩, ⟨by (with_reducible repeat (first | apply Kd.R_alloc | apply Kd.R_drewN | apply Kd.R_drew)); exact HO_17.out⟩, ⟨by (with_reducible repeat (first | apply Kd.V_alloc | apply Kd.V_drewN | apply Kd.V_drew)); exact HO_304002.out⟩, ⟨by (with_reducible repeat (first | apply Kd.V_alloc | apply Kd.V_drewN | apply Kd.V_drew)); exact HO_310002.out⟩, ⟨by (with_reducible repeat (first | apply Kd.V_alloc | apply Kd.V_drewN | apply Kd.V_drew)); exact HO_311002.out⟩, ⟨by (with_reducible repeat (first | refine blk_drewN ?_ _ | refine blk_drew ?_ | refine blk_alloc ?_ _)); exact BK303.out⟩, ⟨by (with_reducible repeat (first | refine blk_drewN ?_ _ | refine blk_drew ?_ | refine blk_alloc ?_ _)); exact BK309.out⟩, ⟨by (with_reducible repeat (first | refine blk_drewN ?_ _ | refine blk_drew ?_ | refine blk_alloc ?_ _)); exact BK310.out⟩, ⟨by repeat (first | (with_reducible first | exact HB.out | apply below_alloc | apply pw_below_drewN | apply below_drew1 | refine below_set ?_ GE303.out | refine below_set ?_ GE309.out | refine below_set ?_ GE310.out) | exact HB.out)⟩⟩
                        · replace c52 := Bool.eq_false_iff.mpr c52
                          subst c52
                          have H1 : (gemotlaw9_WatchLimits.l1 k3 a0 a1 a2 a3 ((rd t316 x18_3) == a2) ((rd t316 x18_3) == a0) t316 (wrap64 (x18_3 + 1)) t297 t298 t299 t304 t305 t306) = some r := by rw [if_neg (show ¬ (false = true) by decide)] at H; exact H
                          clear H
                          have H := H1
                          clear H1
                          have H' := Aside0.mk H
                          clear H
                          obtain ⟨Ao54, co54, eo54⟩ := Kd.R_slice HO_17.out
                          subst eo54
                          have p320 : 0 ≤ (x18_3 : Int) := of_decide_eq_true (by first | (with_reducible assumption) | assumption)
                          have q320 : x18_3 < (t316.length : Int) := of_decide_eq_true (by first | (with_reducible assumption) | assumption)
                          obtain ⟨ad320, e320, hx320_0⟩ := Kd.at_int (Kd.R_reads' HO_17.out).2.2 x18_3 p320 q320
                          cases e320
                          replace p320 := eq_true p320
                          replace q320 := eq_true q320
                          have p321 : 0 ≤ (x18_3 : Int) := of_decide_eq_true (by first | (with_reducible assumption) | assumption)
                          have q321 : x18_3 < (t316.length : Int) := of_decide_eq_true (by first | (with_reducible assumption) | assumption)
                          obtain ⟨ad321, e321, hx321_0⟩ := Kd.at_int (Kd.R_reads' HO_17.out).2.2 x18_3 p321 q321
                          obtain rfl : ad320 = ad321 := (by injection e321)
                          replace p321 := eq_true p321
                          replace q321 := eq_true q321
                          go_wp2
                          go_roundg k3
                          case measure => have := HJ6.out; have := HK2.out; have := HK3.out; omega
                          case rel => exact ⟨(((rd t316 x18_3) == a2)), (((rd t316 x18_3) == a0)), (wrap64 (x18_3 + 1)), (by first | rfl | (simp; done) | (simp [*]; done)), (by first | rfl | (simp; done) | (simp [*]; done)), (by first | rfl | (simp; done) | (simp [*]; done)), H', ⟨by have := HJ6.out; have := HK2.out; have := HK3.out; omega⟩, ⟨by (with_reducible repeat (first | apply Kd.R_alloc | apply Kd.R_drewN | apply Kd.R_drew)); exact HO_17.out⟩, ⟨by (with_reducible repeat (first | apply Kd.V_alloc | apply Kd.V_drewN | apply Kd.V_drew)); exact HO_304002.out⟩, ⟨by (with_reducible repeat (first | apply Kd.V_alloc | apply Kd.V_drewN | apply Kd.V_drew)); exact HO_310002.out⟩, ⟨by (with_reducible repeat (first | apply Kd.V_alloc | apply Kd.V_drewN | apply Kd.V_drew)); exact HO_311002.out⟩, ⟨by (with_reducible repeat (first | refine blk_drewN ?_ _ | refine blk_drew ?_ | refine blk_alloc ?_ _)); exact BK303.out⟩, ⟨by (with_reducible repeat (first | refine blk_drewN ?_ _ | refine blk_drew ?_ | refine blk_alloc ?_ _)); exact BK309.out⟩, ⟨by (with_reducible repeat (first | refine blk_drewN ?_ _ | refine blk_drew ?_ | refine blk_alloc ?_ _)); exact BK310.out⟩, ⟨by repeat (first | (with_reducible first | exact HB.out | apply below_alloc | apply pw_below_drewN | apply below_drew1 | refine below_set ?_ GE303.out | refine below_set ?_ GE309.out | refine below_set ?_ GE310.out) | exact HB.out)⟩⟩
                      · rw [if_neg c51] at H
                        exact absurd H (by simp)
                  · rw [if_neg c45] at H
                    have c45b0 : decide (x18_3 < (t316.length : Int)) = false := decide_eq_false c45
                    clear c45
                    replace H := Option.bind_eq_some_iff.mp H
                    obtain ⟨t322, A550, H⟩ := H
                    have A55 := Aside0.mk A550
                    clear A550
                    replace H := Option.bind_eq_some_iff.mp H
                    obtain ⟨t325, A590, H⟩ := H
                    have A59 := Aside0.mk A590
                    clear A590
                    by_cases hh : x16_3 = true ∧ x15_3 = (decide (a2 = a0) || decide (a3 ≤ a1)) ∧ t325.length = 1 ∧ (t322.length = 2 ↔ a2 ≠ a0) ∧ t306.length = 8 ∧ 1 ≤ a2 ∧ a2 ≤ 8 ∧ rd t306 (a2 - 1) = 0
                    case neg => rw [if_neg hh] at H; exact absurd H (by simp)
                    rw [if_pos hh] at H
                    obtain ⟨h16, h15, h325, h322, h306, hp1, hp8, hrd⟩ := hh
                    obtain rfl := Option.some.inj H
                    subst h16
                    clear H
                    have g325a : ((t325.length : Int) == 1) = true := by rw [h325]; rfl
                    have g325b : (t325.length == 1) = true := by rw [h325]; rfl
                    have g306a : ((t306.length : Int) == 8) = true := by rw [h306]; rfl
                    have g306b : (t306.length == 8) = true := by rw [h306]; rfl
                    have hw63 : wrap64 (a2 - 1) = a2 - 1 := by unfold wrap64; omega
                    obtain ⟨ji63, hji63⟩ : ∃ j_ : Int, a2 - 1 = j_ := ⟨_, rfl⟩
                    have hji63w : (IntKind.i64.wrap (a2 - 1)) = ji63 := ((i64_w _).trans hw63).trans hji63
                    rw [hji63] at hrd
                    have p328 : 0 ≤ ji63 := by omega
                    have q328 : ji63 < (t306.length : Int) := by omega
                    have p328b : decide (0 ≤ ji63) = true := decide_eq_true p328
                    have q328b : decide (ji63 < (t306.length : Int)) = true := decide_eq_true q328
                    have HRD := Aside0.mk hrd
                    clear hp1 hp8 hw63 hji63
                    obtain ⟨Ao66, co66, eo66⟩ := Kd.R_slice HO_17.out
                    subst eo66
                    have hnb67 := NB309_303.out
                    have hnc67 := NB303_309.out
                    have hnb68 := NB309_310.out
                    have hnc68 := NB310_309.out
                    have hcz69_0 : wr.cell? ⟨gb309, 0, none⟩ = some (.int .i64 t304) := (blk_cell BK309.out 0).trans rfl
                    have hcz69_1 : wr.cell? ⟨gb309, 1, none⟩ = some (.int .i64 t305) := (blk_cell BK309.out 1).trans rfl
                    have hcz69_2 : wr.cell? ⟨gb309, 2, none⟩ = some (.slice Ao25 t306.length co25) := (blk_cell BK309.out 2).trans rfl
                    have hfz69_0 := blk_frozen BK309.out 0
                    have hfz69_1 := blk_frozen BK309.out 1
                    have hfz69_2 := blk_frozen BK309.out 2
                    by_cases c57 : a2 = a0
                    · have c57b0 : (a2 == a0) = true := beq_iff_eq.mpr c57
                      have c57b1 : (a2 != a0) = false := bne_eq_false_iff_eq.mpr c57
                      have hx15 : x15_3 = true := by rw [h15, decide_eq_true c57]; rfl
                      subst hx15
                      have g322 : ¬ t322.length = 2 := fun h => (h322.mp h) c57
                      have g322a : ((t322.length : Int) == 2) = false := by rw [beq_eq_false_iff_ne]; omega
                      have g322b : (t322.length == 2) = false := by rw [beq_eq_false_iff_ne]; omega
                      clear h15 h322 h325 h306 c57
                      go_wp2_with (first | ((with_reducible refine gate_callee (f := 21) rfl ?_); refine goesL_ (some 88) rfl rfl Try.func21 (by kernel_rfl) rfl #[.agg #[.int .i64 t304, .int .i64 t305, .slice Ao25 t306.length co25]] rfl (by (try simp only [List.map_toArray, List.map_cons, List.map_nil]); first | done | rfl | (simp only [List.length_drop, List.length_take]; rfl)) ?_; (with_reducible refine (watch_There.calls t304 t305 _ _ t306 t322 _ ?side1 ?side2 A55.out).mono ?_); (case side1 => repeat (first | exact (Kd.V_reads' HO_310002.out).2.2 | (with_reducible refine Kd.C_alloc ?_ _) | (with_reducible refine Kd.C_drewN ?_ _) | (with_reducible refine Kd.C_drew ?_))); (case side2 => exact (Kd.V_reads' HO_310002.out).2.1); rintro e w70 ⟨v323, rfl, ho0, hb⟩; refine ⟨_, rfl, ?_⟩; have n0_ := Aside0.mk (Kd.R_elder' (by (with_reducible repeat (first | apply Kd.R_alloc | apply Kd.R_drewN | apply Kd.R_drew)); exact HO_17.out) (Kd.R_base ho0) hb); have n1_ := Aside0.mk (Kd.V_elder' (by (with_reducible repeat (first | apply Kd.V_alloc | apply Kd.V_drewN | apply Kd.V_drew)); exact HO_304002.out) (Kd.R_base ho0) hb); have n2_ := Aside0.mk (Kd.V_elder' (by (with_reducible repeat (first | apply Kd.V_alloc | apply Kd.V_drewN | apply Kd.V_drew)); exact HO_310002.out) (Kd.R_base ho0) hb); have n3_ := Aside0.mk (Kd.V_elder' (by (with_reducible repeat (first | apply Kd.V_alloc | apply Kd.V_drewN | apply Kd.V_drew)); exact HO_311002.out) (Kd.R_base ho0) hb); have n4_ := Aside0.mk (Kd.R_lower (Kd.R_new' ho0 (Kd.R_lt (by (with_reducible repeat (first | apply Kd.R_alloc | apply Kd.R_drewN | apply Kd.R_drew)); exact HO_17.out))) (below_size (by repeat (first | (with_reducible first | exact HB.out | apply below_alloc | apply pw_below_drewN | apply below_drew1 | refine below_set ?_ GE303.out | refine below_set ?_ GE309.out | refine below_set ?_ GE310.out) | exact HB.out)))); have n5_ := Aside0.mk (blk_below (g := gb303) (o := .cells #[.int .i64 t297, .int .i64 t298, .slice Ao12 t299.length co12] 32 (0, 0)) (by (with_reducible repeat (first | refine blk_drewN ?_ _ | refine blk_drew ?_ | refine blk_alloc ?_ _)); exact BK303.out) hb); have n6_ := Aside0.mk (blk_below (g := gb309) (o := .cells #[.int .i64 t304, .int .i64 t305, .slice Ao25 t306.length co25] 32 (0, 0)) (by (with_reducible repeat (first | refine blk_drewN ?_ _ | refine blk_drew ?_ | refine blk_alloc ?_ _)); exact BK309.out) hb); have n7_ := Aside0.mk (blk_below (g := gb310) (o := .cells #[.int .i64 x311000_2, .int .i64 x311001_2, .slice Ao43 x311002_2.length co43] 32 (0, 0)) (by (with_reducible repeat (first | refine blk_drewN ?_ _ | refine blk_drew ?_ | refine blk_alloc ?_ _)); exact BK310.out) hb); have n8_ := Aside0.mk (below_step (by repeat (first | (with_reducible first | exact HB.out | apply below_alloc | apply pw_below_drewN | apply below_drew1 | refine below_set ?_ GE303.out | refine below_set ?_ GE309.out | refine below_set ?_ GE310.out) | exact HB.out)) hb); clear HO_17; clear HO_304002; clear HO_310002; clear HO_311002; clear BK303; clear BK309; clear BK310; clear HB; have HO_17 := n0_; have HO_304002 := n1_; have HO_310002 := n2_; have HO_311002 := n3_; have HO324 := n4_; have BK303 := n5_; have BK309 := n6_; have BK310 := n7_; have HB := n8_; clear n0_ n1_ n2_ n3_ n4_ n5_ n6_ n7_ n8_; (try clear hb); (try clear hb2); (try clear hk); (try clear hi); (try clear ho0); obtain ⟨Ao71, co71, eo71⟩ := Kd.R_slice HO324.out; subst eo71; have hnb72 := NB303_310.out; have hnc72 := NB310_303.out; have hcz73_0 : w70.cell? ⟨gb303, 0, none⟩ = some (.int .i64 t297) := (blk_cell BK303.out 0).trans rfl; have hcz73_1 : w70.cell? ⟨gb303, 1, none⟩ = some (.int .i64 t298) := (blk_cell BK303.out 1).trans rfl; have hcz73_2 : w70.cell? ⟨gb303, 2, none⟩ = some (.slice Ao12 t299.length co12) := (blk_cell BK303.out 2).trans rfl; have hfz73_0 := blk_frozen BK303.out 0; have hfz73_1 := blk_frozen BK303.out 1; have hfz73_2 := blk_frozen BK303.out 2) | (go_at_call 21; (with_reducible refine (watch_There.calls t297 t298 _ _ t299 t325 _ ?side1 ?side2 A59.out).mono ?_); (case side1 => repeat (first | exact (Kd.V_reads' HO_304002.out).2.2 | (with_reducible refine Kd.C_alloc ?_ _) | (with_reducible refine Kd.C_drewN ?_ _) | (with_reducible refine Kd.C_drew ?_))); (case side2 => exact (Kd.V_reads' HO_304002.out).2.1); rintro e w74 ⟨v326, rfl, ho0, hb⟩; have n0_ := Aside0.mk (Kd.R_elder' (by (with_reducible repeat (first | apply Kd.R_alloc | apply Kd.R_drewN | apply Kd.R_drew)); exact HO_17.out) (Kd.R_base ho0) hb); have n1_ := Aside0.mk (Kd.V_elder' (by (with_reducible repeat (first | apply Kd.V_alloc | apply Kd.V_drewN | apply Kd.V_drew)); exact HO_304002.out) (Kd.R_base ho0) hb); have n2_ := Aside0.mk (Kd.V_elder' (by (with_reducible repeat (first | apply Kd.V_alloc | apply Kd.V_drewN | apply Kd.V_drew)); exact HO_310002.out) (Kd.R_base ho0) hb); have n3_ := Aside0.mk (Kd.V_elder' (by (with_reducible repeat (first | apply Kd.V_alloc | apply Kd.V_drewN | apply Kd.V_drew)); exact HO_311002.out) (Kd.R_base ho0) hb); have n4_ := Aside0.mk (Kd.R_elder' (by (with_reducible repeat (first | apply Kd.R_alloc | apply Kd.R_drewN | apply Kd.R_drew)); exact HO324.out) (Kd.R_base ho0) hb); have n5_ := Aside0.mk (Kd.R_lower (Kd.R_new' (Kd.R_new' ho0 (Kd.R_lt (by (with_reducible repeat (first | apply Kd.R_alloc | apply Kd.R_drewN | apply Kd.R_drew)); exact HO_17.out))) (Kd.R_lt (by (with_reducible repeat (first | apply Kd.R_alloc | apply Kd.R_drewN | apply Kd.R_drew)); exact HO324.out))) (below_size (by repeat (first | (with_reducible first | exact HB.out | apply below_alloc | apply pw_below_drewN | apply below_drew1 | refine below_set ?_ GE303.out | refine below_set ?_ GE309.out | refine below_set ?_ GE310.out) | exact HB.out)))); have n6_ := Aside0.mk (blk_below (g := gb303) (o := .cells #[.int .i64 t297, .int .i64 t298, .slice Ao12 t299.length co12] 32 (0, 0)) (by (with_reducible repeat (first | refine blk_drewN ?_ _ | refine blk_drew ?_ | refine blk_alloc ?_ _)); exact BK303.out) hb); have n7_ := Aside0.mk (blk_below (g := gb309) (o := .cells #[.int .i64 t304, .int .i64 t305, .slice Ao25 t306.length co25] 32 (0, 0)) (by (with_reducible repeat (first | refine blk_drewN ?_ _ | refine blk_drew ?_ | refine blk_alloc ?_ _)); exact BK309.out) hb); have n8_ := Aside0.mk (blk_below (g := gb310) (o := .cells #[.int .i64 x311000_2, .int .i64 x311001_2, .slice Ao43 x311002_2.length co43] 32 (0, 0)) (by (with_reducible repeat (first | refine blk_drewN ?_ _ | refine blk_drew ?_ | refine blk_alloc ?_ _)); exact BK310.out) hb); have n9_ := Aside0.mk (below_step (by repeat (first | (with_reducible first | exact HB.out | apply below_alloc | apply pw_below_drewN | apply below_drew1 | refine below_set ?_ GE303.out | refine below_set ?_ GE309.out | refine below_set ?_ GE310.out) | exact HB.out)) hb); clear HO_17; clear HO_304002; clear HO_310002; clear HO_311002; clear HO324; clear BK303; clear BK309; clear BK310; clear HB; have HO_17 := n0_; have HO_304002 := n1_; have HO_310002 := n2_; have HO_311002 := n3_; have HO324 := n4_; have HO327 := n5_; have BK303 := n6_; have BK309 := n7_; have BK310 := n8_; have HB := n9_; clear n0_ n1_ n2_ n3_ n4_ n5_ n6_ n7_ n8_ n9_; (try clear hb); (try clear hb2); (try clear hk); (try clear hi); (try clear ho0); obtain ⟨Ao75, co75, eo75⟩ := Kd.R_slice HO327.out; subst eo75; have hcz76_0 : w74.cell? ⟨gb309, 0, none⟩ = some (.int .i64 t304) := (blk_cell BK309.out 0).trans rfl; have hcz76_1 : w74.cell? ⟨gb309, 1, none⟩ = some (.int .i64 t305) := (blk_cell BK309.out 1).trans rfl; have hcz76_2 : w74.cell? ⟨gb309, 2, none⟩ = some (.slice Ao25 t306.length co25) := (blk_cell BK309.out 2).trans rfl; have hfz76_0 := blk_frozen BK309.out 0; have hfz76_1 := blk_frozen BK309.out 1; have hfz76_2 := blk_frozen BK309.out 2; have HC := Aside0.mk (Kd.at_int (Kd.V_reads' HO_310002.out).2.2 ji63 p328 q328); obtain ⟨ad328, e328, hx328_0⟩ := HC.out; cases e328; rw [HRD.out] at hx328_0; clear HC; replace p328 := eq_true p328; replace q328 := eq_true q328))
                      go_ret
                      exact ⟨by first | rfl | (simp; done) | (simp [*]; done), by repeat (first | (with_reducible first | exact HB.out | apply below_alloc | apply pw_below_drewN | apply below_drew1 | refine below_set ?_ GE303.out | refine below_set ?_ GE309.out | refine below_set ?_ GE310.out) | exact HB.out)⟩
                    · have c57b0 : (a2 == a0) = false := beq_eq_false_iff_ne.mpr c57
                      have c57b1 : (a2 != a0) = true := bne_iff_ne.mpr c57
                      have hx15 : x15_3 = decide (a3 ≤ a1) := by rw [h15, decide_eq_false c57]; rfl
                      have g322 : t322.length = 2 := h322.mpr c57
                      have g322a : ((t322.length : Int) == 2) = true := by rw [g322]; rfl
                      have g322b : (t322.length == 2) = true := by rw [g322]; rfl
                      clear h15 h322 h325 h306 g322
                      obtain ⟨q, hq⟩ : ∃ q, decide (a3 ≤ a1) = q := ⟨_, rfl⟩
                      rw [hq] at hx15
                      subst hx15
                      cases x15_3
                      · go_wp2_with (first | ((with_reducible refine gate_callee (f := 21) rfl ?_); refine goesL_ (some 88) rfl rfl Try.func21 (by kernel_rfl) rfl #[.agg #[.int .i64 t304, .int .i64 t305, .slice Ao25 t306.length co25]] rfl (by (try simp only [List.map_toArray, List.map_cons, List.map_nil]); first | done | rfl | (simp only [List.length_drop, List.length_take]; rfl)) ?_; (with_reducible refine (watch_There.calls t304 t305 _ _ t306 t322 _ ?side1 ?side2 A55.out).mono ?_); (case side1 => repeat (first | exact (Kd.V_reads' HO_310002.out).2.2 | (with_reducible refine Kd.C_alloc ?_ _) | (with_reducible refine Kd.C_drewN ?_ _) | (with_reducible refine Kd.C_drew ?_))); (case side2 => exact (Kd.V_reads' HO_310002.out).2.1); rintro e w70 ⟨v323, rfl, ho0, hb⟩; refine ⟨_, rfl, ?_⟩; have n0_ := Aside0.mk (Kd.R_elder' (by (with_reducible repeat (first | apply Kd.R_alloc | apply Kd.R_drewN | apply Kd.R_drew)); exact HO_17.out) (Kd.R_base ho0) hb); have n1_ := Aside0.mk (Kd.V_elder' (by (with_reducible repeat (first | apply Kd.V_alloc | apply Kd.V_drewN | apply Kd.V_drew)); exact HO_304002.out) (Kd.R_base ho0) hb); have n2_ := Aside0.mk (Kd.V_elder' (by (with_reducible repeat (first | apply Kd.V_alloc | apply Kd.V_drewN | apply Kd.V_drew)); exact HO_310002.out) (Kd.R_base ho0) hb); have n3_ := Aside0.mk (Kd.V_elder' (by (with_reducible repeat (first | apply Kd.V_alloc | apply Kd.V_drewN | apply Kd.V_drew)); exact HO_311002.out) (Kd.R_base ho0) hb); have n4_ := Aside0.mk (Kd.R_lower (Kd.R_new' ho0 (Kd.R_lt (by (with_reducible repeat (first | apply Kd.R_alloc | apply Kd.R_drewN | apply Kd.R_drew)); exact HO_17.out))) (below_size (by repeat (first | (with_reducible first | exact HB.out | apply below_alloc | apply pw_below_drewN | apply below_drew1 | refine below_set ?_ GE303.out | refine below_set ?_ GE309.out | refine below_set ?_ GE310.out) | exact HB.out)))); have n5_ := Aside0.mk (blk_below (g := gb303) (o := .cells #[.int .i64 t297, .int .i64 t298, .slice Ao12 t299.length co12] 32 (0, 0)) (by (with_reducible repeat (first | refine blk_drewN ?_ _ | refine blk_drew ?_ | refine blk_alloc ?_ _)); exact BK303.out) hb); have n6_ := Aside0.mk (blk_below (g := gb309) (o := .cells #[.int .i64 t304, .int .i64 t305, .slice Ao25 t306.length co25] 32 (0, 0)) (by (with_reducible repeat (first | refine blk_drewN ?_ _ | refine blk_drew ?_ | refine blk_alloc ?_ _)); exact BK309.out) hb); have n7_ := Aside0.mk (blk_below (g := gb310) (o := .cells #[.int .i64 x311000_2, .int .i64 x311001_2, .slice Ao43 x311002_2.length co43] 32 (0, 0)) (by (with_reducible repeat (first | refine blk_drewN ?_ _ | refine blk_drew ?_ | refine blk_alloc ?_ _)); exact BK310.out) hb); have n8_ := Aside0.mk (below_step (by repeat (first | (with_reducible first | exact HB.out | apply below_alloc | apply pw_below_drewN | apply below_drew1 | refine below_set ?_ GE303.out | refine below_set ?_ GE309.out | refine below_set ?_ GE310.out) | exact HB.out)) hb); clear HO_17; clear HO_304002; clear HO_310002; clear HO_311002; clear BK303; clear BK309; clear BK310; clear HB; have HO_17 := n0_; have HO_304002 := n1_; have HO_310002 := n2_; have HO_311002 := n3_; have HO324 := n4_; have BK303 := n5_; have BK309 := n6_; have BK310 := n7_; have HB := n8_; clear n0_ n1_ n2_ n3_ n4_ n5_ n6_ n7_ n8_; (try clear hb); (try clear hb2); (try clear hk); (try clear hi); (try clear ho0); obtain ⟨Ao71, co71, eo71⟩ := Kd.R_slice HO324.out; subst eo71; have hnb72 := NB303_310.out; have hnc72 := NB310_303.out; have hcz73_0 : w70.cell? ⟨gb303, 0, none⟩ = some (.int .i64 t297) := (blk_cell BK303.out 0).trans rfl; have hcz73_1 : w70.cell? ⟨gb303, 1, none⟩ = some (.int .i64 t298) := (blk_cell BK303.out 1).trans rfl; have hcz73_2 : w70.cell? ⟨gb303, 2, none⟩ = some (.slice Ao12 t299.length co12) := (blk_cell BK303.out 2).trans rfl; have hfz73_0 := blk_frozen BK303.out 0; have hfz73_1 := blk_frozen BK303.out 1; have hfz73_2 := blk_frozen BK303.out 2) | (go_at_call 21; (with_reducible refine (watch_There.calls t297 t298 _ _ t299 t325 _ ?side1 ?side2 A59.out).mono ?_); (case side1 => repeat (first | exact (Kd.V_reads' HO_304002.out).2.2 | (with_reducible refine Kd.C_alloc ?_ _) | (with_reducible refine Kd.C_drewN ?_ _) | (with_reducible refine Kd.C_drew ?_))); (case side2 => exact (Kd.V_reads' HO_304002.out).2.1); rintro e w74 ⟨v326, rfl, ho0, hb⟩; have n0_ := Aside0.mk (Kd.R_elder' (by (with_reducible repeat (first | apply Kd.R_alloc | apply Kd.R_drewN | apply Kd.R_drew)); exact HO_17.out) (Kd.R_base ho0) hb); have n1_ := Aside0.mk (Kd.V_elder' (by (with_reducible repeat (first | apply Kd.V_alloc | apply Kd.V_drewN | apply Kd.V_drew)); exact HO_304002.out) (Kd.R_base ho0) hb); have n2_ := Aside0.mk (Kd.V_elder' (by (with_reducible repeat (first | apply Kd.V_alloc | apply Kd.V_drewN | apply Kd.V_drew)); exact HO_310002.out) (Kd.R_base ho0) hb); have n3_ := Aside0.mk (Kd.V_elder' (by (with_reducible repeat (first | apply Kd.V_alloc | apply Kd.V_drewN | apply Kd.V_drew)); exact HO_311002.out) (Kd.R_base ho0) hb); have n4_ := Aside0.mk (Kd.R_elder' (by (with_reducible repeat (first | apply Kd.R_alloc | apply Kd.R_drewN | apply Kd.R_drew)); exact HO324.out) (Kd.R_base ho0) hb); have n5_ := Aside0.mk (Kd.R_lower (Kd.R_new' (Kd.R_new' ho0 (Kd.R_lt (by (with_reducible repeat (first | apply Kd.R_alloc | apply Kd.R_drewN | apply Kd.R_drew)); exact HO_17.out))) (Kd.R_lt (by (with_reducible repeat (first | apply Kd.R_alloc | apply Kd.R_drewN | apply Kd.R_drew)); exact HO324.out))) (below_size (by repeat (first | (with_reducible first | exact HB.out | apply below_alloc | apply pw_below_drewN | apply below_drew1 | refine below_set ?_ GE303.out | refine below_set ?_ GE309.out | refine below_set ?_ GE310.out) | exact HB.out)))); have n6_ := Aside0.mk (blk_below (g := gb303) (o := .cells #[.int .i64 t297, .int .i64 t298, .slice Ao12 t299.length co12] 32 (0, 0)) (by (with_reducible repeat (first | refine blk_drewN ?_ _ | refine blk_drew ?_ | refine blk_alloc ?_ _)); exact BK303.out) hb); have n7_ := Aside0.mk (blk_below (g := gb309) (o := .cells #[.int .i64 t304, .int .i64 t305, .slice Ao25 t306.length co25] 32 (0, 0)) (by (with_reducible repeat (first | refine blk_drewN ?_ _ | refine blk_drew ?_ | refine blk_alloc ?_ _)); exact BK309.out) hb); have n8_ := Aside0.mk (blk_below (g := gb310) (o := .cells #[.int .i64 x311000_2, .int .i64 x311001_2, .slice Ao43 x311002_2.length co43] 32 (0, 0)) (by (with_reducible repeat (first | refine blk_drewN ?_ _ | refine blk_drew ?_ | refine blk_alloc ?_ _)); exact BK310.out) hb); have n9_ := Aside0.mk (below_step (by repeat (first | (with_reducible first | exact HB.out | apply below_alloc | apply pw_below_drewN | apply below_drew1 | refine below_set ?_ GE303.out | refine below_set ?_ GE309.out | refine below_set ?_ GE310.out) | exact HB.out)) hb); clear HO_17; clear HO_304002; clear HO_310002; clear HO_311002; clear HO324; clear BK303; clear BK309; clear BK310; clear HB; have HO_17 := n0_; have HO_304002 := n1_; have HO_310002 := n2_; have HO_311002 := n3_; have HO324 := n4_; have HO327 := n5_; have BK303 := n6_; have BK309 := n7_; have BK310 := n8_; have HB := n9_; clear n0_ n1_ n2_ n3_ n4_ n5_ n6_ n7_ n8_ n9_; (try clear hb); (try clear hb2); (try clear hk); (try clear hi); (try clear ho0); obtain ⟨Ao75, co75, eo75⟩ := Kd.R_slice HO327.out; subst eo75; have hcz76_0 : w74.cell? ⟨gb309, 0, none⟩ = some (.int .i64 t304) := (blk_cell BK309.out 0).trans rfl; have hcz76_1 : w74.cell? ⟨gb309, 1, none⟩ = some (.int .i64 t305) := (blk_cell BK309.out 1).trans rfl; have hcz76_2 : w74.cell? ⟨gb309, 2, none⟩ = some (.slice Ao25 t306.length co25) := (blk_cell BK309.out 2).trans rfl; have hfz76_0 := blk_frozen BK309.out 0; have hfz76_1 := blk_frozen BK309.out 1; have hfz76_2 := blk_frozen BK309.out 2; have HC := Aside0.mk (Kd.at_int (Kd.V_reads' HO_310002.out).2.2 ji63 p328 q328); obtain ⟨ad328, e328, hx328_0⟩ := HC.out; cases e328; rw [HRD.out] at hx328_0; clear HC; replace p328 := eq_true p328; replace q328 := eq_true q328))
                        go_ret
                        exact ⟨by first | rfl | (simp; done) | (simp [*]; done), by repeat (first | (with_reducible first | exact HB.out | apply below_alloc | apply pw_below_drewN | apply below_drew1 | refine below_set ?_ GE303.out | refine below_set ?_ GE309.out | refine below_set ?_ GE310.out) | exact HB.out)⟩
                      · go_wp2_with (first | ((with_reducible refine gate_callee (f := 21) rfl ?_); refine goesL_ (some 88) rfl rfl Try.func21 (by kernel_rfl) rfl #[.agg #[.int .i64 t304, .int .i64 t305, .slice Ao25 t306.length co25]] rfl (by (try simp only [List.map_toArray, List.map_cons, List.map_nil]); first | done | rfl | (simp only [List.length_drop, List.length_take]; rfl)) ?_; (with_reducible refine (watch_There.calls t304 t305 _ _ t306 t322 _ ?side1 ?side2 A55.out).mono ?_); (case side1 => repeat (first | exact (Kd.V_reads' HO_310002.out).2.2 | (with_reducible refine Kd.C_alloc ?_ _) | (with_reducible refine Kd.C_drewN ?_ _) | (with_reducible refine Kd.C_drew ?_))); (case side2 => exact (Kd.V_reads' HO_310002.out).2.1); rintro e w70 ⟨v323, rfl, ho0, hb⟩; refine ⟨_, rfl, ?_⟩; have n0_ := Aside0.mk (Kd.R_elder' (by (with_reducible repeat (first | apply Kd.R_alloc | apply Kd.R_drewN | apply Kd.R_drew)); exact HO_17.out) (Kd.R_base ho0) hb); have n1_ := Aside0.mk (Kd.V_elder' (by (with_reducible repeat (first | apply Kd.V_alloc | apply Kd.V_drewN | apply Kd.V_drew)); exact HO_304002.out) (Kd.R_base ho0) hb); have n2_ := Aside0.mk (Kd.V_elder' (by (with_reducible repeat (first | apply Kd.V_alloc | apply Kd.V_drewN | apply Kd.V_drew)); exact HO_310002.out) (Kd.R_base ho0) hb); have n3_ := Aside0.mk (Kd.V_elder' (by (with_reducible repeat (first | apply Kd.V_alloc | apply Kd.V_drewN | apply Kd.V_drew)); exact HO_311002.out) (Kd.R_base ho0) hb); have n4_ := Aside0.mk (Kd.R_lower (Kd.R_new' ho0 (Kd.R_lt (by (with_reducible repeat (first | apply Kd.R_alloc | apply Kd.R_drewN | apply Kd.R_drew)); exact HO_17.out))) (below_size (by repeat (first | (with_reducible first | exact HB.out | apply below_alloc | apply pw_below_drewN | apply below_drew1 | refine below_set ?_ GE303.out | refine below_set ?_ GE309.out | refine below_set ?_ GE310.out) | exact HB.out)))); have n5_ := Aside0.mk (blk_below (g := gb303) (o := .cells #[.int .i64 t297, .int .i64 t298, .slice Ao12 t299.length co12] 32 (0, 0)) (by (with_reducible repeat (first | refine blk_drewN ?_ _ | refine blk_drew ?_ | refine blk_alloc ?_ _)); exact BK303.out) hb); have n6_ := Aside0.mk (blk_below (g := gb309) (o := .cells #[.int .i64 t304, .int .i64 t305, .slice Ao25 t306.length co25] 32 (0, 0)) (by (with_reducible repeat (first | refine blk_drewN ?_ _ | refine blk_drew ?_ | refine blk_alloc ?_ _)); exact BK309.out) hb); have n7_ := Aside0.mk (blk_below (g := gb310) (o := .cells #[.int .i64 x311000_2, .int .i64 x311001_2, .slice Ao43 x311002_2.length co43] 32 (0, 0)) (by (with_reducible repeat (first | refine blk_drewN ?_ _ | refine blk_drew ?_ | refine blk_alloc ?_ _)); exact BK310.out) hb); have n8_ := Aside0.mk (below_step (by repeat (first | (with_reducible first | exact HB.out | apply below_alloc | apply pw_below_drewN | apply below_drew1 | refine below_set ?_ GE303.out | refine below_set ?_ GE309.out | refine below_set ?_ GE310.out) | exact HB.out)) hb); clear HO_17; clear HO_304002; clear HO_310002; clear HO_311002; clear BK303; clear BK309; clear BK310; clear HB; have HO_17 := n0_; have HO_304002 := n1_; have HO_310002 := n2_; have HO_311002 := n3_; have HO324 := n4_; have BK303 := n5_; have BK309 := n6_; have BK310 := n7_; have HB := n8_; clear n0_ n1_ n2_ n3_ n4_ n5_ n6_ n7_ n8_; (try clear hb); (try clear hb2); (try clear hk); (try clear hi); (try clear ho0); obtain ⟨Ao71, co71, eo71⟩ := Kd.R_slice HO324.out; subst eo71; have hnb72 := NB303_310.out; have hnc72 := NB310_303.out; have hcz73_0 : w70.cell? ⟨gb303, 0, none⟩ = some (.int .i64 t297) := (blk_cell BK303.out 0).trans rfl; have hcz73_1 : w70.cell? ⟨gb303, 1, none⟩ = some (.int .i64 t298) := (blk_cell BK303.out 1).trans rfl; have hcz73_2 : w70.cell? ⟨gb303, 2, none⟩ = some (.slice Ao12 t299.length co12) := (blk_cell BK303.out 2).trans rfl; have hfz73_0 := blk_frozen BK303.out 0; have hfz73_1 := blk_frozen BK303.out 1; have hfz73_2 := blk_frozen BK303.out 2) | (go_at_call 21; (with_reducible refine (watch_There.calls t297 t298 _ _ t299 t325 _ ?side1 ?side2 A59.out).mono ?_); (case side1 => repeat (first | exact (Kd.V_reads' HO_304002.out).2.2 | (with_reducible refine Kd.C_alloc ?_ _) | (with_reducible refine Kd.C_drewN ?_ _) | (with_reducible refine Kd.C_drew ?_))); (case side2 => exact (Kd.V_reads' HO_304002.out).2.1); rintro e w74 ⟨v326, rfl, ho0, hb⟩; have n0_ := Aside0.mk (Kd.R_elder' (by (with_reducible repeat (first | apply Kd.R_alloc | apply Kd.R_drewN | apply Kd.R_drew)); exact HO_17.out) (Kd.R_base ho0) hb); have n1_ := Aside0.mk (Kd.V_elder' (by (with_reducible repeat (first | apply Kd.V_alloc | apply Kd.V_drewN | apply Kd.V_drew)); exact HO_304002.out) (Kd.R_base ho0) hb); have n2_ := Aside0.mk (Kd.V_elder' (by (with_reducible repeat (first | apply Kd.V_alloc | apply Kd.V_drewN | apply Kd.V_drew)); exact HO_310002.out) (Kd.R_base ho0) hb); have n3_ := Aside0.mk (Kd.V_elder' (by (with_reducible repeat (first | apply Kd.V_alloc | apply Kd.V_drewN | apply Kd.V_drew)); exact HO_311002.out) (Kd.R_base ho0) hb); have n4_ := Aside0.mk (Kd.R_elder' (by (with_reducible repeat (first | apply Kd.R_alloc | apply Kd.R_drewN | apply Kd.R_drew)); exact HO324.out) (Kd.R_base ho0) hb); have n5_ := Aside0.mk (Kd.R_lower (Kd.R_new' (Kd.R_new' ho0 (Kd.R_lt (by (with_reducible repeat (first | apply Kd.R_alloc | apply Kd.R_drewN | apply Kd.R_drew)); exact HO_17.out))) (Kd.R_lt (by (with_reducible repeat (first | apply Kd.R_alloc | apply Kd.R_drewN | apply Kd.R_drew)); exact HO324.out))) (below_size (by repeat (first | (with_reducible first | exact HB.out | apply below_alloc | apply pw_below_drewN | apply below_drew1 | refine below_set ?_ GE303.out | refine below_set ?_ GE309.out | refine below_set ?_ GE310.out) | exact HB.out)))); have n6_ := Aside0.mk (blk_below (g := gb303) (o := .cells #[.int .i64 t297, .int .i64 t298, .slice Ao12 t299.length co12] 32 (0, 0)) (by (with_reducible repeat (first | refine blk_drewN ?_ _ | refine blk_drew ?_ | refine blk_alloc ?_ _)); exact BK303.out) hb); have n7_ := Aside0.mk (blk_below (g := gb309) (o := .cells #[.int .i64 t304, .int .i64 t305, .slice Ao25 t306.length co25] 32 (0, 0)) (by (with_reducible repeat (first | refine blk_drewN ?_ _ | refine blk_drew ?_ | refine blk_alloc ?_ _)); exact BK309.out) hb); have n8_ := Aside0.mk (blk_below (g := gb310) (o := .cells #[.int .i64 x311000_2, .int .i64 x311001_2, .slice Ao43 x311002_2.length co43] 32 (0, 0)) (by (with_reducible repeat (first | refine blk_drewN ?_ _ | refine blk_drew ?_ | refine blk_alloc ?_ _)); exact BK310.out) hb); have n9_ := Aside0.mk (below_step (by repeat (first | (with_reducible first | exact HB.out | apply below_alloc | apply pw_below_drewN | apply below_drew1 | refine below_set ?_ GE303.out | refine below_set ?_ GE309.out | refine below_set ?_ GE310.out) | exact HB.out)) hb); clear HO_17; clear HO_304002; clear HO_310002; clear HO_311002; clear HO324; clear BK303; clear BK309; clear BK310; clear HB; have HO_17 := n0_; have HO_304002 := n1_; have HO_310002 := n2_; have HO_311002 := n3_; have HO324 := n4_; have HO327 := n5_; have BK303 := n6_; have BK309 := n7_; have BK310 := n8_; have HB := n9_; clear n0_ n1_ n2_ n3_ n4_ n5_ n6_ n7_ n8_ n9_; (try clear hb); (try clear hb2); (try clear hk); (try clear hi); (try clear ho0); obtain ⟨Ao75, co75, eo75⟩ := Kd.R_slice HO327.out; subst eo75; have hcz76_0 : w74.cell? ⟨gb309, 0, none⟩ = some (.int .i64 t304) := (blk_cell BK309.out 0).trans rfl; have hcz76_1 : w74.cell? ⟨gb309, 1, none⟩ = some (.int .i64 t305) := (blk_cell BK309.out 1).trans rfl; have hcz76_2 : w74.cell? ⟨gb309, 2, none⟩ = some (.slice Ao25 t306.length co25) := (blk_cell BK309.out 2).trans rfl; have hfz76_0 := blk_frozen BK309.out 0; have hfz76_1 := blk_frozen BK309.out 1; have hfz76_2 := blk_frozen BK309.out 2; have HC := Aside0.mk (Kd.at_int (Kd.V_reads' HO_310002.out).2.2 ji63 p328 q328); obtain ⟨ad328, e328, hx328_0⟩ := HC.out; cases e328; rw [HRD.out] at hx328_0; clear HC; replace p328 := eq_true p328; replace q328 := eq_true q328))
                        go_ret
                        exact ⟨by first | rfl | (simp; done) | (simp [*]; done), by repeat (first | (with_reducible first | exact HB.out | apply below_alloc | apply pw_below_drewN | apply below_drew1 | refine below_set ?_ GE303.out | refine below_set ?_ GE309.out | refine below_set ?_ GE310.out) | exact HB.out)⟩

end Go.Proofs.Ytenmlpkgodnjnaa.F
