-- Laid by mk.py (a program of this session) over the seat's translation.
import Derived.Test.YtiofobdmkkbmlaaDoorWX
import Derived.Test.YtiofobdmkkbmlaaDoorF0
import Derived.Test.YtiofobdmkkbmlaaDoorF10
import Derived.Test.YtiofobdmkkbmlaaDoorF14
import Derived.Test.YtiofobdmkkbmlaaDoorF51
namespace Go.Proofs.YtiofobdmkkbmlaaDoor.F
open Go.RowKit Go.Proofs.YtiofobdmkkbmlaaDoorW.PrintWords Go.Proofs.YtiofobdmkkbmlaaDoorW.PrintLast Go.Proofs.YtiofobdmkkbmlaaDoorW.PrintMore
attribute [local go_sem] max2_int min2_int max_two min_two max_three min_three max_four min_four
set_option linter.unusedVariables false
set_option linter.unusedSimpArgs false

/-! ### tree_Build: function 25 -/
def tree_Build.l0 : Nat → ByteArray → List Int → Int → Int → Option (ByteArray × Int)
  | 0, _, _, _, _ => none
  | k + 1, x4, x19, x20, x21 => if x21 < x20 then (if 0 ≤ x21 then (if x21 < (x19.length : Int) then ((tree_Join.f x4 (rd x19 x21)).bind fun bt1007 => (if bt1007.2 = 0 then (tree_Build.l0 k bt1007.1 x19 x20 (wrap64 (x21 + 1))) else (some ((⟨#[]⟩ : ByteArray), bt1007.2)))) else (none)) else (none)) else (some (x4, 0))
def tree_Build.f (k : Nat) (l0 : List Int) : Option (ByteArray × Int) := (view_Row.f l0).bind fun t1001 => (if t1001 = true then (if 0 < (l0.length : Int) then ((tree_Leaf.f (rd l0 0)).bind fun bt1003 => (if 1 ≤ (l0.length : Int) then (tree_Build.l0 k bt1003.1 (l0.drop 1) ((l0.drop 1).length : Int) 0) else (none))) else (none)) else (some ((⟨#[]⟩ : ByteArray), 1)))
theorem tree_Build.mono_l : ∀ k, (∀ y0 y1 y2 y3, LeO (tree_Build.l0 k y0 y1 y2 y3) (tree_Build.l0 (k + 1) y0 y1 y2 y3))
  | 0 => fun _ _ _ _ r h => by simp [tree_Build.l0] at h
  | k + 1 => by
    have ih0 := tree_Build.mono_l k
    · intro y0 y1 y2 y3; unfold tree_Build.l0
      repeat' first
      | (with_reducible exact ih0 _ _ _ _)
      | (with_reducible exact LeO.refl _)
      | (with_reducible exact LeO.none _)
      | (with_reducible refine LeO.ite ?_ ?_)
      | (with_reducible refine LeO.bind ?_ (fun _ => ?_))
      | exact ih0 _ _ _ _
      | exact LeO.none _
      | refine LeO.ite ?_ ?_
      | refine LeO.bind ?_ (fun _ => ?_)
theorem tree_Build.mono : ∀ a0 k, LeO (tree_Build.f k a0) (tree_Build.f (k + 1) a0) := by
  intro a0 k; have ih0 := tree_Build.mono_l k
  unfold tree_Build.f
  repeat' first
      | (with_reducible exact ih0 _ _ _ _)
      | (with_reducible exact LeO.refl _)
      | (with_reducible exact LeO.none _)
      | (with_reducible refine LeO.ite ?_ ?_)
      | (with_reducible refine LeO.bind ?_ (fun _ => ?_))
      | exact ih0 _ _ _ _
      | exact LeO.none _
      | refine LeO.ite ?_ ?_
      | refine LeO.bind ?_ (fun _ => ?_)
set_option maxHeartbeats 8000000 in
set_option maxRecDepth 100000 in
theorem tree_Build.calls (k : Nat) (A0 : Option Addr) (c0 : Nat) (l0 : List Int) (r1 : ByteArray) (r2 : Int) (w : World) (hr0 : Kd.C (Kd.int .i64) w A0 l0.length l0) (hc0 : l0.length ≤ c0) (h : tree_Build.f k l0 = some (r1, r2)) :
    Calls Tryd.prog 25 #[.slice A0 l0.length c0] w fun e w' => e = .returned (.tuple #[.string r1, .int .i64 r2]) ∧ Below w.heap.size w w' := by
  have HR0 := Aside0.mk hr0
  have HC0 := Aside0.mk hc0
  clear hr0 hc0; have HB := Aside0.mk (Below.refl w.heap.size w)
  have H : ((view_Row.f l0).bind fun t1001 => (if t1001 = true then (if 0 < (l0.length : Int) then ((tree_Leaf.f (rd l0 0)).bind fun bt1003 => (if 1 ≤ (l0.length : Int) then (tree_Build.l0 k bt1003.1 (l0.drop 1) ((l0.drop 1).length : Int) 0) else (none))) else (none)) else (some ((⟨#[]⟩ : ByteArray), 1)))) = some (r1, r2) := h
  clear h; replace H := Option.bind_eq_some_iff.mp H
  obtain ⟨t1001, A20, H⟩ := H; replace H : (if t1001 = true then (if 0 < (l0.length : Int) then ((tree_Leaf.f (rd l0 0)).bind fun bt1003 => (if 1 ≤ (l0.length : Int) then (tree_Build.l0 k bt1003.1 (l0.drop 1) ((l0.drop 1).length : Int) 0) else (none))) else (none)) else (some ((⟨#[]⟩ : ByteArray), 1))) = some (r1, r2) := H
  have A2 := Aside0.mk A20
  clear A20; by_cases c3 : t1001 = true
  · subst c3; have H1 : (if 0 < (l0.length : Int) then ((tree_Leaf.f (rd l0 0)).bind fun bt1003 => (if 1 ≤ (l0.length : Int) then (tree_Build.l0 k bt1003.1 (l0.drop 1) ((l0.drop 1).length : Int) 0) else (none))) else (none)) = some (r1, r2) := by rw [if_pos rfl] at H; exact H
    clear H; have H := H1; clear H1; by_cases c4 : 0 < (l0.length : Int)
    · rw [if_pos c4] at H
      have c4b0 : decide (0 < (l0.length : Int)) = true := decide_eq_true c4
      have c4b1 : decide (0 < l0.length) = true := decide_eq_true (by omega)
      clear c4; replace H := Option.bind_eq_some_iff.mp H
      obtain ⟨⟨t1003, t1004⟩, A50, H⟩ := H
      replace H : (if 1 ≤ (l0.length : Int) then (tree_Build.l0 k t1003 (l0.drop 1) ((l0.drop 1).length : Int) 0) else (none)) = some (r1, r2) := H
      have A5 := Aside0.mk A50
      clear A50; by_cases c6 : 1 ≤ (l0.length : Int)
      · rw [if_pos c6] at H
        have c6b0 := eq_true c6
        have c6b1 : decide (1 ≤ (l0.length : Int)) = true := decide_eq_true c6
        clear c6; have H' := Aside0.mk H
        clear H; generalize hl1 : l0.drop 1 = l1 at H'
        have hdrop : ∀ A : Option Addr, ∃ A' : Option Addr, (∀ W : World, (Instr.slice 34 (.slice A l0.length c0) (some (.int .i64 1)) none none).run Tryd.prog W = .ok (.slice A' l1.length (c0 - 1)) W) ∧ (∀ w : World, ReadsOf (Value.int .i64) 0 w A l0.length l0 → ReadsOf (Value.int .i64) 0 w A' l1.length l1) ∧ l1.length ≤ c0 - 1 := by
          obtain ⟨i07, hi07, _, hsz7, _⟩ := info_parts info3; intro A; rw [← hl1]
          exact print_drop_of (P := Tryd.prog) (Value.int .i64) 0 34 3 .i64 Tryd.underlying34 hi07 hsz7 A c0 l0 1 (by omega) (of_decide_eq_true (by assumption)) HC0.out
        clear hl1; go_enter Tryd.func25, Tryd.ntmps25
        go_wp2_with (first | ((with_reducible refine gate_callee (f := 51) rfl ?_); refine goesL_ (some 9) rfl rfl Tryd.func51 (by kernel_rfl) rfl #[.slice A0 l0.length c0] rfl (by simp only [List.map_toArray, List.map_cons, List.map_nil] <;> rfl) ?_; (with_reducible refine (view_Row.calls _ _ l0 true _ ?side1 ?side2 A2.out).mono ?_); (case side1 => repeat (first | exact HR0.out | (with_reducible refine Kd.C_alloc ?_ _) | (with_reducible refine Kd.C_drewN ?_ _) | (with_reducible refine Kd.C_drew ?_))); (case side2 => exact HC0.out); rintro e w' ⟨rfl, ⟨nd, rfl⟩⟩; refine ⟨_, rfl, ?_⟩; have p1002 : 0 ≤ (0 : Int) := (by omega); have q1002 : 0 < (l0.length : Int) := of_decide_eq_true (by assumption); obtain ⟨ad1002, e1002, hx1002_0⟩ := Kd.at_int HR0.out 0 p1002 q1002; cases e1002; have qi1002 : (0 < l0.length) = True := eq_true (by omega); (try rw [show ((0 : Int)).toNat = 0 from rfl] at hx1002_0); (try rw [Addr.add_zero'] at hx1002_0); replace p1002 := eq_true p1002; replace q1002 := eq_true q1002) | ((with_reducible refine gate_callee (f := 14) rfl ?_); refine goesL_ (some 15) rfl rfl Tryd.func14 (by kernel_rfl) rfl #[.int .i64 (rd l0 0)] rfl (by simp only [List.map_toArray, List.map_cons, List.map_nil] <;> rfl) ?_; (with_reducible refine (tree_Leaf.calls (rd l0 0) t1003 t1004 _ A5.out).mono ?_); rintro e w' ⟨rfl, ⟨nd, rfl⟩⟩; refine ⟨_, rfl, ?_⟩; obtain ⟨A7, hcut7, hA7, hC7⟩ := hdrop (some ad1002); have HR1005 := Aside0.mk (Kd.C_of_reads (h1 := fun _ => rfl) (hA7 _ (Kd.reads_of_C HR0.out))); have HC1005 := Aside0.mk hC7; clear hA7 hC7))
        go_loopg [4, 21] k (fun kq v4 v21 w' => ∃ (x4_1 : ByteArray) (x21_1 : Int), v4 = .string x4_1 ∧ v21 = .int .i64 x21_1 ∧ Aside0 (tree_Build.l0 kq x4_1 l1 (l1.length : Int) x21_1 = some (r1, r2)) ∧ Aside0 (kq ≤ k) ∧ Aside0 (Below w.heap.size w w'))
        case atStart => exact ⟨(t1003), (0), (by first | rfl | (simp; done) | (simp [*]; done)), (by first | rfl | (simp; done) | (simp [*]; done)), H', ⟨Nat.le_refl _⟩, ⟨by repeat (first | (with_reducible first | exact HB.out | apply below_alloc | apply pw_below_drewN | apply below_drew1) | exact HB.out)⟩⟩
        case round =>
          clear H'; try clear c1
          try clear p1
          try clear q1
          try clear hx1
          try clear qi1
          try clear c2
          try clear p2
          try clear c3
          try clear c4
          try clear c4b0
          try clear c4b1
          try clear c5
          try clear c6
          try clear c6b0
          try clear c6b1
          try clear hx1002_0
          try clear p1002
          try clear q1002
          obtain ⟨x4_1, x21_1, rfl, rfl, HA, HK1, HB⟩ := hrel; cases gk with
          | zero => exact absurd HA.out (by simp [tree_Build.l0])
          | succ k1 =>
            have H := HA.out; clear HA; simp only [tree_Build.l0] at H; by_cases c8 : x21_1 < (l1.length : Int)
            · rw [if_pos c8] at H
              have c8b0 : decide (x21_1 < (l1.length : Int)) = true := decide_eq_true c8
              clear c8; by_cases c9 : 0 ≤ x21_1
              · rw [if_pos c9] at H
                have c9b0 : decide (0 ≤ x21_1) = true := decide_eq_true c9
                clear c9; by_cases c10 : x21_1 < (l1.length : Int)
                · rw [if_pos c10] at H
                  have c10b0 : decide (x21_1 < (l1.length : Int)) = true := decide_eq_true c10
                  clear c10; replace H := Option.bind_eq_some_iff.mp H
                  obtain ⟨⟨t1007, t1008⟩, A110, H⟩ := H
                  replace H : (if t1008 = 0 then (tree_Build.l0 k1 t1007 l1 (l1.length : Int) (wrap64 (x21_1 + 1))) else (some ((⟨#[]⟩ : ByteArray), t1008))) = some (r1, r2) := H
                  have A11 := Aside0.mk A110
                  clear A110; by_cases c12 : t1008 = 0
                  · rw [if_pos c12] at H
                    have c12b0 : (t1008 == 0) = true := beq_iff_eq.mpr c12
                    have c12b1 : (t1008 != 0) = false := bne_eq_false_iff_eq.mpr c12
                    clear c12; have H' := Aside0.mk H
                    clear H; have p1006 : 0 ≤ (x21_1 : Int) := of_decide_eq_true (by first | (with_reducible assumption) | assumption)
                    have q1006 : x21_1 < (l1.length : Int) := of_decide_eq_true (by first | (with_reducible assumption) | assumption)
                    obtain ⟨ad1006, e1006, hx1006_0⟩ := Kd.at_int HR1005.out x21_1 p1006 q1006
                    cases e1006
                    replace hx1006_0 := (HB.out.cell (World.block_lt_of_cell? w _ hx1006_0)).trans hx1006_0
                    replace p1006 := eq_true p1006
                    replace q1006 := eq_true q1006
                    go_wp2_with (first | ((with_reducible refine gate_callee (f := 10) rfl ?_); refine goesL_ (some 28) rfl rfl Tryd.func10 (by kernel_rfl) rfl #[.string x4_1, .int .i64 (rd l1 x21_1)] rfl (by simp only [List.map_toArray, List.map_cons, List.map_nil] <;> rfl) ?_; (with_reducible refine (tree_Join.calls x4_1 (rd l1 x21_1) t1007 t1008 _ A11.out).mono ?_); rintro e w13 ⟨rfl, hb⟩; refine ⟨_, rfl, ?_⟩; have n0_ := Aside0.mk (below_step (by repeat with_reducible first | exact HB.out | apply below_alloc | apply pw_below_drewN | apply below_drew1) hb); clear HB; have HB := n0_; clear n0_; (try clear hb)))
                    go_roundg k1
                    case measure => have := HK1.out; omega
                    case rel => exact ⟨(t1007), (wrap64 (x21_1 + 1)), (by first | rfl | (simp; done) | (simp [*]; done)), (by first | rfl | (simp; done) | (simp [*]; done)), H', ⟨by have := HK1.out; omega⟩, ⟨by repeat (first | (with_reducible first | exact HB.out | apply below_alloc | apply pw_below_drewN | apply below_drew1) | exact HB.out)⟩⟩
                  · rw [if_neg c12] at H
                    have c12b0 : (t1008 == 0) = false := beq_eq_false_iff_ne.mpr c12
                    have c12b1 : (t1008 != 0) = true := bne_iff_ne.mpr c12
                    simp only [Option.some.injEq, Prod.mk.injEq] at H; obtain ⟨rfl, rfl⟩ := H; have p1006 : 0 ≤ (x21_1 : Int) := of_decide_eq_true (by first | (with_reducible assumption) | assumption)
                    have q1006 : x21_1 < (l1.length : Int) := of_decide_eq_true (by first | (with_reducible assumption) | assumption)
                    obtain ⟨ad1006, e1006, hx1006_0⟩ := Kd.at_int HR1005.out x21_1 p1006 q1006
                    cases e1006
                    replace hx1006_0 := (HB.out.cell (World.block_lt_of_cell? w _ hx1006_0)).trans hx1006_0
                    replace p1006 := eq_true p1006
                    replace q1006 := eq_true q1006
                    go_wp2_with (first | ((with_reducible refine gate_callee (f := 10) rfl ?_); refine goesL_ (some 28) rfl rfl Tryd.func10 (by kernel_rfl) rfl #[.string x4_1, .int .i64 (rd l1 x21_1)] rfl (by simp only [List.map_toArray, List.map_cons, List.map_nil] <;> rfl) ?_; (with_reducible refine (tree_Join.calls x4_1 (rd l1 x21_1) t1007 t1008 _ A11.out).mono ?_); rintro e w14 ⟨rfl, hb⟩; refine ⟨_, rfl, ?_⟩; have n0_ := Aside0.mk (below_step (by repeat with_reducible first | exact HB.out | apply below_alloc | apply pw_below_drewN | apply below_drew1) hb); clear HB; have HB := n0_; clear n0_; (try clear hb)))
                    go_ret2
                    exact ⟨by first | rfl | (simp [errW_none, errW_some] <;> rfl) | (simp [*, errW_none, errW_some] <;> rfl), by repeat (first | (with_reducible first | exact HB.out | apply below_alloc | apply pw_below_drewN | apply below_drew1) | exact HB.out)⟩
                · rw [if_neg c10] at H
                  exact absurd H (by simp)
              · rw [if_neg c9] at H
                exact absurd H (by simp)
            · rw [if_neg c8] at H
              have c8b0 : decide (x21_1 < (l1.length : Int)) = false := decide_eq_false c8
              clear c8; simp only [Option.some.injEq, Prod.mk.injEq] at H; obtain ⟨rfl, rfl⟩ := H; go_wp2; go_ret2
              exact ⟨by first | rfl | (simp [errW_none, errW_some] <;> rfl) | (simp [*, errW_none, errW_some] <;> rfl), by repeat (first | (with_reducible first | exact HB.out | apply below_alloc | apply pw_below_drewN | apply below_drew1) | exact HB.out)⟩
      · rw [if_neg c6] at H
        exact absurd H (by simp)
    · rw [if_neg c4] at H
      exact absurd H (by simp)
  · replace c3 := Bool.eq_false_iff.mpr c3
    subst c3; have H1 : (some ((⟨#[]⟩ : ByteArray), 1)) = some (r1, r2) := by rw [if_neg (show ¬ (false = true) by decide)] at H; exact H
    clear H; have H := H1; clear H1; simp only [Option.some.injEq, Prod.mk.injEq] at H; obtain ⟨rfl, rfl⟩ := H; go_enter Tryd.func25, Tryd.ntmps25
    go_wp2_with (first | ((with_reducible refine gate_callee (f := 51) rfl ?_); refine goesL_ (some 9) rfl rfl Tryd.func51 (by kernel_rfl) rfl #[.slice A0 l0.length c0] rfl (by simp only [List.map_toArray, List.map_cons, List.map_nil] <;> rfl) ?_; (with_reducible refine (view_Row.calls _ _ l0 false _ ?side1 ?side2 A2.out).mono ?_); (case side1 => repeat (first | exact HR0.out | (with_reducible refine Kd.C_alloc ?_ _) | (with_reducible refine Kd.C_drewN ?_ _) | (with_reducible refine Kd.C_drew ?_))); (case side2 => exact HC0.out); rintro e w' ⟨rfl, ⟨nd, rfl⟩⟩; refine ⟨_, rfl, ?_⟩))
    go_ret2
    exact ⟨by first | rfl | (simp [errW_none, errW_some] <;> rfl) | (simp [*, errW_none, errW_some] <;> rfl), by repeat (first | (with_reducible first | exact HB.out | apply below_alloc | apply pw_below_drewN | apply below_drew1) | exact HB.out)⟩

end Go.Proofs.YtiofobdmkkbmlaaDoor.F
