-- Laid by mk.py (a program of this session) over the seat's translation.
import Derived.Test.YtiofobdmkkbmlaaDoorF0
import Derived.Test.YtiofobdmkkbmlaaDoorF23
import Derived.Test.YtiofobdmkkbmlaaDoorF24
import Derived.Test.YtiofobdmkkbmlaaDoorF25
import Derived.Test.YtiofobdmkkbmlaaDoorF26
import Derived.Test.YtiofobdmkkbmlaaDoorF9
namespace Go.Proofs.YtiofobdmkkbmlaaDoor.F
open Go.RowKit Go.Proofs.YtiofobdmkkbmlaaDoorW.PrintWords Go.Proofs.YtiofobdmkkbmlaaDoorW.PrintLast Go.Proofs.YtiofobdmkkbmlaaDoorW.PrintMore
attribute [local go_sem] max2_int min2_int max_two min_two max_three min_three max_four min_four
set_option linter.unusedVariables false
set_option linter.unusedSimpArgs false

/-! ### gemotlaw13_TreeMerges: function 4 -/
def gemotlaw13_TreeMerges.j0 : Nat → ByteArray → ByteArray → List Int → Bool → Bool → Option (Bool)
  | 0, _, _, _, _, _ => none
  | k + 1, x0, x1, x2, x7, x33 => if x33 = true then (some x7) else ((tree_Merge.f x0 x1).bind fun bt1002 => ((gemotref13_Merge.f k x0 x1).bind fun bt1004 => ((tree_Build.f k x2).bind fun bt1006 => ((gemotref13_Build.f k x2).bind fun bt1008 => (if bt1002.1.toList = bt1004.1.toList then (if bt1002.2 = bt1004.2 then (if bt1006.1.toList = bt1008.1.toList then (some (bt1006.2 == bt1008.2)) else (none)) else (none)) else (none))))))
def gemotlaw13_TreeMerges.f (k : Nat) (a0 : ByteArray) (a1 : ByteArray) (l2 : List Int) : Option (Bool) := (gemotlaw13_shown.f k).bind fun t1001 => (if t1001 = true then (if (a0.size : Int) > 90 then (gemotlaw13_TreeMerges.j0 k a0 a1 l2 t1001 true) else (if (a1.size : Int) > 90 then (gemotlaw13_TreeMerges.j0 k a0 a1 l2 t1001 true) else (gemotlaw13_TreeMerges.j0 k a0 a1 l2 t1001 (decide ((l2.length : Int) > 30))))) else (gemotlaw13_TreeMerges.j0 k a0 a1 l2 t1001 true))
theorem gemotlaw13_TreeMerges.mono_l : ∀ k, (∀ y0 y1 y2 y3 y4, LeO (gemotlaw13_TreeMerges.j0 k y0 y1 y2 y3 y4) (gemotlaw13_TreeMerges.j0 (k + 1) y0 y1 y2 y3 y4))
  | 0 => fun _ _ _ _ _ r h => by simp [gemotlaw13_TreeMerges.j0] at h
  | k + 1 => by
    have ih0 := gemotlaw13_TreeMerges.mono_l k
    · intro y0 y1 y2 y3 y4; unfold gemotlaw13_TreeMerges.j0
      repeat' first
      | (with_reducible exact ih0 _ _ _ _ _)
      | (with_reducible exact gemotlaw13_shown.mono _)
      | (with_reducible exact gemotref13_Build.mono _ _)
      | (with_reducible exact gemotref13_Merge.mono _ _ _)
      | (with_reducible exact tree_Build.mono _ _)
      | (with_reducible exact LeO.refl _)
      | (with_reducible exact LeO.none _)
      | (with_reducible refine LeO.ite ?_ ?_)
      | (with_reducible refine LeO.bind ?_ (fun _ => ?_))
      | exact ih0 _ _ _ _ _
      | exact gemotlaw13_shown.mono _
      | exact gemotref13_Build.mono _ _
      | exact gemotref13_Merge.mono _ _ _
      | exact tree_Build.mono _ _
      | exact LeO.none _
      | refine LeO.ite ?_ ?_
      | refine LeO.bind ?_ (fun _ => ?_)
theorem gemotlaw13_TreeMerges.mono : ∀ a0 a1 a2 k, LeO (gemotlaw13_TreeMerges.f k a0 a1 a2) (gemotlaw13_TreeMerges.f (k + 1) a0 a1 a2) := by
  intro a0 a1 a2 k; have ih0 := gemotlaw13_TreeMerges.mono_l k
  unfold gemotlaw13_TreeMerges.f
  repeat' first
      | (with_reducible exact ih0 _ _ _ _ _)
      | (with_reducible exact gemotlaw13_shown.mono _)
      | (with_reducible exact gemotref13_Build.mono _ _)
      | (with_reducible exact gemotref13_Merge.mono _ _ _)
      | (with_reducible exact tree_Build.mono _ _)
      | (with_reducible exact LeO.refl _)
      | (with_reducible exact LeO.none _)
      | (with_reducible refine LeO.ite ?_ ?_)
      | (with_reducible refine LeO.bind ?_ (fun _ => ?_))
      | exact ih0 _ _ _ _ _
      | exact gemotlaw13_shown.mono _
      | exact gemotref13_Build.mono _ _
      | exact gemotref13_Merge.mono _ _ _
      | exact tree_Build.mono _ _
      | exact LeO.none _
      | refine LeO.ite ?_ ?_
      | refine LeO.bind ?_ (fun _ => ?_)
set_option maxHeartbeats 8000000 in
set_option maxRecDepth 100000 in
theorem gemotlaw13_TreeMerges.calls (k : Nat) (a0 : ByteArray) (a1 : ByteArray) (A2 : Option Addr) (c2 : Nat) (l2 : List Int) (r : Bool) (w : World) (hr2 : Kd.C (Kd.int .i64) w A2 l2.length l2) (hc2 : l2.length ≤ c2) (h : gemotlaw13_TreeMerges.f k a0 a1 l2 = some r) :
    Calls Tryd.prog 4 #[.string a0, .string a1, .slice A2 l2.length c2] w fun e w' => e = .returned (.bool r) ∧ Below w.heap.size w w' := by
  have HR2 := Aside0.mk hr2
  have HC2 := Aside0.mk hc2
  clear hr2 hc2; have HB := Aside0.mk (Below.refl w.heap.size w)
  have H : ((gemotlaw13_shown.f k).bind fun t1001 => (if t1001 = true then (if (a0.size : Int) > 90 then (gemotlaw13_TreeMerges.j0 k a0 a1 l2 t1001 true) else (if (a1.size : Int) > 90 then (gemotlaw13_TreeMerges.j0 k a0 a1 l2 t1001 true) else (gemotlaw13_TreeMerges.j0 k a0 a1 l2 t1001 (decide ((l2.length : Int) > 30))))) else (gemotlaw13_TreeMerges.j0 k a0 a1 l2 t1001 true))) = some r := h
  clear h; replace H := Option.bind_eq_some_iff.mp H
  obtain ⟨t1001, A40, H⟩ := H; replace H : (if t1001 = true then (if (a0.size : Int) > 90 then (gemotlaw13_TreeMerges.j0 k a0 a1 l2 t1001 true) else (if (a1.size : Int) > 90 then (gemotlaw13_TreeMerges.j0 k a0 a1 l2 t1001 true) else (gemotlaw13_TreeMerges.j0 k a0 a1 l2 t1001 (decide ((l2.length : Int) > 30))))) else (gemotlaw13_TreeMerges.j0 k a0 a1 l2 t1001 true)) = some r := H
  have A4 := Aside0.mk A40
  clear A40; have HC5 := Aside0.mk H
  clear H; go_enter Tryd.func4, Tryd.ntmps4
  go_upto_region 2 with (first | ((with_reducible refine gate_callee (f := 9) rfl ?_); refine goesL_ (some 16) rfl rfl Tryd.func9 (by kernel_rfl) rfl #[] rfl (by simp only [List.map_toArray, List.map_cons, List.map_nil] <;> rfl) ?_; (with_reducible refine (gemotlaw13_shown.calls k  t1001 _ A4.out).mono ?_); rintro e w6 ⟨rfl, hb⟩; refine ⟨_, rfl, ?_⟩; have n0_ := Aside0.mk (below_step (by repeat with_reducible first | exact HB.out | apply below_alloc | apply pw_below_drewN | apply below_drew1) hb); clear HB; have HB := n0_; clear n0_; (try clear hb)))
  (try simp only [Act.put, List.setIfInBounds_toArray, List.set_cons_zero, List.set_cons_succ]); go_cut [33] (fun v33 wc => ∃ (kq : Nat) (x33_4 : Bool), v33 = .bool x33_4 ∧ Aside0 (gemotlaw13_TreeMerges.j0 kq a0 a1 l2 t1001 x33_4 = some r) ∧ Aside0 (kq ≤ k) ∧ Aside0 (Below w.heap.size w wc))
  case first =>
    have H := HC5.out; clear HC5; by_cases c7 : t1001 = true
    · subst c7; have H1 : (if (a0.size : Int) > 90 then (gemotlaw13_TreeMerges.j0 k a0 a1 l2 true true) else (if (a1.size : Int) > 90 then (gemotlaw13_TreeMerges.j0 k a0 a1 l2 true true) else (gemotlaw13_TreeMerges.j0 k a0 a1 l2 true (decide ((l2.length : Int) > 30))))) = some r := by rw [if_pos rfl] at H; exact H
      clear H; have H := H1; clear H1; by_cases c8 : (a0.size : Int) > 90
      · rw [if_pos c8] at H
        have c8b0 : decide (90 < (a0.size : Int)) = true := decide_eq_true c8
        have c8b1 : decide (90 < a0.size) = true := decide_eq_true (by omega)
        clear c8; (first | rw [c8b0] | (simp only [i64_w, i32_w]; rw [c8b0]) | skip); have H' := Aside0.mk H
        clear H; go_wp2; go_meet
        case rel => exact ⟨_, (true), (by first | rfl | (simp; done) | (simp [*]; done)), H', ⟨by first | omega | exact Nat.le_refl _⟩, ⟨by repeat (first | (with_reducible first | exact HB.out | apply below_alloc | apply pw_below_drewN | apply below_drew1) | exact HB.out)⟩⟩
      · rw [if_neg c8] at H
        have c8b0 : decide (90 < (a0.size : Int)) = false := decide_eq_false c8
        have c8b1 : decide (90 < a0.size) = false := decide_eq_false (by omega)
        clear c8; (first | rw [c8b0] | (simp only [i64_w, i32_w]; rw [c8b0]) | skip); by_cases c9 : (a1.size : Int) > 90
        · rw [if_pos c9] at H
          have c9b0 : decide (90 < (a1.size : Int)) = true := decide_eq_true c9
          have c9b1 : decide (90 < a1.size) = true := decide_eq_true (by omega)
          clear c9; have H' := Aside0.mk H
          clear H; go_wp2; go_meet
          case rel => exact ⟨_, (true), (by first | rfl | (simp; done) | (simp [*]; done)), H', ⟨by first | omega | exact Nat.le_refl _⟩, ⟨by repeat (first | (with_reducible first | exact HB.out | apply below_alloc | apply pw_below_drewN | apply below_drew1) | exact HB.out)⟩⟩
        · rw [if_neg c9] at H
          have c9b0 : decide (90 < (a1.size : Int)) = false := decide_eq_false c9
          have c9b1 : decide (90 < a1.size) = false := decide_eq_false (by omega)
          clear c9; have H' := Aside0.mk H
          clear H; go_wp2; go_meet
          case rel => exact ⟨_, (decide ((l2.length : Int) > 30)), (by first | rfl | (simp; done) | (simp [*]; done)), H', ⟨by first | omega | exact Nat.le_refl _⟩, ⟨by repeat (first | (with_reducible first | exact HB.out | apply below_alloc | apply pw_below_drewN | apply below_drew1) | exact HB.out)⟩⟩
    · replace c7 := Bool.eq_false_iff.mpr c7
      subst c7; have H1 : (gemotlaw13_TreeMerges.j0 k a0 a1 l2 false true) = some r := by rw [if_neg (show ¬ (false = true) by decide)] at H; exact H
      clear H; have H := H1; clear H1; have H' := Aside0.mk H
      clear H; go_wp2; go_meet
      case rel => exact ⟨_, (true), (by first | rfl | (simp; done) | (simp [*]; done)), H', ⟨by first | omega | exact Nat.le_refl _⟩, ⟨by repeat (first | (with_reducible first | exact HB.out | apply below_alloc | apply pw_below_drewN | apply below_drew1) | exact HB.out)⟩⟩
  case rest =>
    clear HC5; try clear c2
    try clear p2
    try clear c4
    try clear c7
    try clear c8
    try clear c8b0
    try clear c8b1
    try clear c9
    try clear c9b0
    try clear c9b1
    obtain ⟨kq, x33_4, rfl, HA, HJ4, HB⟩ := hcut; cases kq with
    | zero => exact absurd HA.out (by simp [gemotlaw13_TreeMerges.j0])
    | succ kj4 =>
      have H := HA.out; clear HA; simp only [gemotlaw13_TreeMerges.j0] at H; by_cases c10 : x33_4 = true
      · subst c10; have H1 : (some t1001) = some r := by rw [if_pos rfl] at H; exact H
        clear H; have H := H1; clear H1; obtain rfl := Option.some.inj H
        go_wp2; go_ret
        exact ⟨by first | rfl | (simp [errW_none, errW_some] <;> rfl) | (simp [*, errW_none, errW_some] <;> rfl), by repeat (first | (with_reducible first | exact HB.out | apply below_alloc | apply pw_below_drewN | apply below_drew1) | exact HB.out)⟩
      · replace c10 := Bool.eq_false_iff.mpr c10
        subst c10; have H1 : ((tree_Merge.f a0 a1).bind fun bt1002 => ((gemotref13_Merge.f kj4 a0 a1).bind fun bt1004 => ((tree_Build.f kj4 l2).bind fun bt1006 => ((gemotref13_Build.f kj4 l2).bind fun bt1008 => (if bt1002.1.toList = bt1004.1.toList then (if bt1002.2 = bt1004.2 then (if bt1006.1.toList = bt1008.1.toList then (some (bt1006.2 == bt1008.2)) else (none)) else (none)) else (none)))))) = some r := by rw [if_neg (show ¬ (false = true) by decide)] at H; exact H
        clear H; have H := H1; clear H1; replace H := Option.bind_eq_some_iff.mp H
        obtain ⟨⟨t1002, t1003⟩, A110, H⟩ := H
        replace H : ((gemotref13_Merge.f kj4 a0 a1).bind fun bt1004 => ((tree_Build.f kj4 l2).bind fun bt1006 => ((gemotref13_Build.f kj4 l2).bind fun bt1008 => (if t1002.toList = bt1004.1.toList then (if t1003 = bt1004.2 then (if bt1006.1.toList = bt1008.1.toList then (some (bt1006.2 == bt1008.2)) else (none)) else (none)) else (none))))) = some r := H
        have A11 := Aside0.mk A110
        clear A110; replace H := Option.bind_eq_some_iff.mp H
        obtain ⟨⟨t1004, t1005⟩, A120, H⟩ := H
        replace H : ((tree_Build.f kj4 l2).bind fun bt1006 => ((gemotref13_Build.f kj4 l2).bind fun bt1008 => (if t1002.toList = t1004.toList then (if t1003 = t1005 then (if bt1006.1.toList = bt1008.1.toList then (some (bt1006.2 == bt1008.2)) else (none)) else (none)) else (none)))) = some r := H
        have A12 := Aside0.mk A120
        clear A120; replace H := Option.bind_eq_some_iff.mp H
        obtain ⟨⟨t1006, t1007⟩, A130, H⟩ := H
        replace H : ((gemotref13_Build.f kj4 l2).bind fun bt1008 => (if t1002.toList = t1004.toList then (if t1003 = t1005 then (if t1006.toList = bt1008.1.toList then (some (t1007 == bt1008.2)) else (none)) else (none)) else (none))) = some r := H
        have A13 := Aside0.mk A130
        clear A130; replace H := Option.bind_eq_some_iff.mp H
        obtain ⟨⟨t1008, t1009⟩, A140, H⟩ := H
        replace H : (if t1002.toList = t1004.toList then (if t1003 = t1005 then (if t1006.toList = t1008.toList then (some (t1007 == t1009)) else (none)) else (none)) else (none)) = some r := H
        have A14 := Aside0.mk A140
        clear A140; by_cases c15 : t1002.toList = t1004.toList
        · rw [if_pos c15] at H
          have c15b0 : (t1002.toList == t1004.toList) = true := beq_iff_eq.mpr c15
          have c15b1 : (t1002.toList != t1004.toList) = false := bne_eq_false_iff_eq.mpr c15
          clear c15; by_cases c16 : t1003 = t1005
          · rw [if_pos c16] at H
            have c16b0 : (t1003 == t1005) = true := beq_iff_eq.mpr c16
            have c16b1 : (t1003 != t1005) = false := bne_eq_false_iff_eq.mpr c16
            clear c16; by_cases c17 : t1006.toList = t1008.toList
            · rw [if_pos c17] at H
              have c17b0 : (t1006.toList == t1008.toList) = true := beq_iff_eq.mpr c17
              have c17b1 : (t1006.toList != t1008.toList) = false := bne_eq_false_iff_eq.mpr c17
              clear c17; obtain rfl := Option.some.inj H
              go_wp2_with (first | ((with_reducible refine gate_callee (f := 23) rfl ?_); refine goesL_ (some 38) rfl rfl Tryd.func23 (by kernel_rfl) rfl #[.string a0, .string a1] rfl (by simp only [List.map_toArray, List.map_cons, List.map_nil] <;> rfl) ?_; (with_reducible refine (tree_Merge.calls a0 a1 t1002 t1003 _ A11.out).mono ?_); rintro e w18 ⟨rfl, hb⟩; refine ⟨_, rfl, ?_⟩; have n0_ := Aside0.mk (below_step (by repeat with_reducible first | exact HB.out | apply below_alloc | apply pw_below_drewN | apply below_drew1) hb); clear HB; have HB := n0_; clear n0_; (try clear hb)) | ((with_reducible refine gate_callee (f := 24) rfl ?_); refine goesL_ (some 44) rfl rfl Tryd.func24 (by kernel_rfl) rfl #[.string a0, .string a1] rfl (by simp only [List.map_toArray, List.map_cons, List.map_nil] <;> rfl) ?_; (with_reducible refine (gemotref13_Merge.calls kj4 a0 a1 t1004 t1005 _ A12.out).mono ?_); rintro e w19 ⟨rfl, hb⟩; refine ⟨_, rfl, ?_⟩; have n0_ := Aside0.mk (below_step (by repeat with_reducible first | exact HB.out | apply below_alloc | apply pw_below_drewN | apply below_drew1) hb); clear HB; have HB := n0_; clear n0_; (try clear hb)) | ((with_reducible refine gate_callee (f := 25) rfl ?_); refine goesL_ (some 49) rfl rfl Tryd.func25 (by kernel_rfl) rfl #[.slice A2 l2.length c2] rfl (by simp only [List.map_toArray, List.map_cons, List.map_nil] <;> rfl) ?_; (with_reducible refine (tree_Build.calls kj4 _ _ l2 t1006 t1007 _ ?side1 ?side2 A13.out).mono ?_); (case side1 => repeat (first | exact (Kd.C_below HR2.out HB.out) | (with_reducible refine Kd.C_alloc ?_ _) | (with_reducible refine Kd.C_drewN ?_ _) | (with_reducible refine Kd.C_drew ?_))); (case side2 => exact HC2.out); rintro e w20 ⟨rfl, hb⟩; refine ⟨_, rfl, ?_⟩; have n0_ := Aside0.mk (below_step (by repeat with_reducible first | exact HB.out | apply below_alloc | apply pw_below_drewN | apply below_drew1) hb); clear HB; have HB := n0_; clear n0_; (try clear hb)) | ((with_reducible refine gate_callee (f := 26) rfl ?_); refine goesL_ (some 54) rfl rfl Tryd.func26 (by kernel_rfl) rfl #[.slice A2 l2.length c2] rfl (by simp only [List.map_toArray, List.map_cons, List.map_nil] <;> rfl) ?_; (with_reducible refine (gemotref13_Build.calls kj4 _ _ l2 t1008 t1009 _ ?side1 ?side2 A14.out).mono ?_); (case side1 => repeat (first | exact (Kd.C_below HR2.out HB.out) | (with_reducible refine Kd.C_alloc ?_ _) | (with_reducible refine Kd.C_drewN ?_ _) | (with_reducible refine Kd.C_drew ?_))); (case side2 => exact HC2.out); rintro e w21 ⟨rfl, hb⟩; refine ⟨_, rfl, ?_⟩; have n0_ := Aside0.mk (below_step (by repeat with_reducible first | exact HB.out | apply below_alloc | apply pw_below_drewN | apply below_drew1) hb); clear HB; have HB := n0_; clear n0_; (try clear hb)))
              go_ret
              exact ⟨by first | rfl | (simp [errW_none, errW_some] <;> rfl) | (simp [*, errW_none, errW_some] <;> rfl), by repeat (first | (with_reducible first | exact HB.out | apply below_alloc | apply pw_below_drewN | apply below_drew1) | exact HB.out)⟩
            · rw [if_neg c17] at H
              exact absurd H (by simp)
          · rw [if_neg c16] at H
            exact absurd H (by simp)
        · rw [if_neg c15] at H
          exact absurd H (by simp)

/-- THE ONE PURE STATEMENT of gemotlaw13_TreeMerges: yours. -/
def gemotlaw13_TreeMerges.Pure : Prop := ∀ (a0 : ByteArray) (a1 : ByteArray) (l2 : List Int), a0.size ≤ 140737488351232 → a1.size ≤ 140737488351232 → l2.length ≤ maxLen → l2.length * 8 ≤ 140737488351232 → (∀ x ∈ l2, (Lit.int .i64 x).wf = true) → ∃ k, gemotlaw13_TreeMerges.f k a0 a1 l2 = some true
theorem gemotlaw13_TreeMerges.walk (P : gemotlaw13_TreeMerges.Pure) (a0 : ByteArray) (a1 : ByteArray) (a2 : Option Addr) (len2 cap2 : Nat) (z2 : List Int) (w : World) (w0 : a0.size ≤ 140737488351232) (w1 : a1.size ≤ 140737488351232) (w2 : (a2 = none ∧ len2 = 0 ∧ cap2 = 0 ∧ z2 = []) ∨ ∃ x, a2 = some x ∧ len2 ≤ cap2 ∧ cap2 ≤ maxLen ∧ z2.length = cap2 ∧ (∀ i, i < z2.length → w.cell? (x.add i) = some (.int .i64 (z2.getD i 0))) ∧ ∀ n ∈ z2, (Lit.int .i64 n).wf = true) (y2 : len2 * 8 ≤ 140737488351232) :
    Calls Tryd.prog 4 #[.string a0, .string a1, .slice a2 len2 cap2] w fun e w' => e = .returned (.bool true) ∧ Below w.heap.size w w' := by
  obtain ⟨l2, rfl, hr2, hm2, hw2, hc2⟩ := ReadsInt.ofRowC w2; obtain ⟨k, h⟩ := P a0 a1 l2 w0 w1 hm2 y2 hw2
  refine (gemotlaw13_TreeMerges.calls k a0 a1 _ _ l2 true w (Kd.C_of_reads (d := (0 : Int)) (h1 := fun _ => rfl) hr2) hc2 h).mono ?_
  rintro e w' ⟨rfl, hd⟩; exact ⟨rfl, hd⟩

end Go.Proofs.YtiofobdmkkbmlaaDoor.F
