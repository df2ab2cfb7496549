import Derived.Test.YtpfpmjdifnoeoaaMListPacksF0
import Derived.Test.YtpfpmjdifnoeoaaMListPacksB3
namespace Go.Proofs.Ytpfpmjdifnoeoaa.F
open Go.RowKit Go.Proofs.YtpfpmjdifnoeoaaW.PrintWords Go.Proofs.YtpfpmjdifnoeoaaW.PrintLast Go.Proofs.YtpfpmjdifnoeoaaW.PrintMore
attribute [local go_sem] max2_int min2_int max_two min_two max_three min_three max_four min_four
set_option linter.unusedVariables false
set_option linter.unusedSimpArgs false
def list_numbers_p.l0 : Nat → List Int → List ByteArray → Int → Int → Option (List Int × Bool)
  | 0, _, _, _, _ => none
  | k + 1, x4, x9, x10, x11 => if x11 < x10 then (if 0 ≤ x11 then (if x11 < (x9.length : Int) then ((parts_Value.f (rdOf ByteArray.empty x9 x11)).bind fun bt1002 => (if bt1002.2 = true then (if bt1002.1 > 2147483647 then (some (([] : List Int), false)) else ((parts_Kind.f (rdOf ByteArray.empty x9 x11)).bind fun t1004 => (if t1004 = 117 then (if x4.length < 17592186044416 then (list_numbers_p.l0 k (x4 ++ [wrap64 (bt1002.1)]) x9 x10 (wrap64 (x11 + 1))) else (none)) else (some (([] : List Int), false))))) else (some (([] : List Int), false)))) else (none)) else (none)) else (some (x4, true))
def list_numbers_p.f (k : Nat) (l0 : List ByteArray) : Option (List Int × Bool) := list_numbers_p.l0 k ([] : List Int) l0 (l0.length : Int) 0
set_option maxHeartbeats 8000000 in
set_option maxRecDepth 100000 in
theorem list_numbers_p.calls (k : Nat) (A0 : Option Addr) (c0 : Nat) (l0 : List ByteArray) (r1 : List Int) (r2 : Bool) (w : World) (hr0 : Kd.C Kd.string w A0 l0.length l0) (hc0 : l0.length ≤ c0) (h : list_numbers_p.f k l0 = some (r1, r2)) :
    Calls Try.prog 115 #[.slice A0 l0.length c0] w fun e w' => ∃ v0_ : Value, e = .returned (.tuple #[v0_, .bool r2]) ∧ Kd.R (Kd.int .i64) 3 w' w.heap.size (fun _ => True) v0_ r1 ∧ Below w.heap.size w w' := by
  have HR0 := Aside0.mk hr0
  have HC0 := Aside0.mk hc0
  clear hr0 hc0; have HB := Aside0.mk (Below.refl w.heap.size w)
  have H : (list_numbers_p.l0 k ([] : List Int) l0 (l0.length : Int) 0) = some (r1, r2) := h
  clear h; have H' := Aside0.mk H
  clear H; go_enter Try.func115, Try.ntmps115
  go_wp2; go_loopg [4, 11] k (fun kq v4 v11 w' => ∃ (x4_1 : List Int) (x11_1 : Int), v11 = .int .i64 x11_1 ∧ Aside0 (list_numbers_p.l0 kq x4_1 l0 (l0.length : Int) x11_1 = some (r1, r2)) ∧ Aside0 (kq ≤ k) ∧ Aside0 (Kd.R (Kd.int .i64) 3 w' w.heap.size (fun _ => True) v4 x4_1) ∧ Aside0 (Below w.heap.size w w'))
  case atStart => exact ⟨(([] : List Int)), (0), (by first | rfl | (simp; done) | (simp [*]; done)), H', ⟨Nat.le_refl _⟩, ⟨by first | exact Kd.R_nil _ _ _ _ _ | exact Kd.N_nil _ _ _ _ _ | exact Kd.V_nil _ _ _ _ _ | exact Kd.Q_nil _ _ _ _ _ | exact Kd.S_nil _ _ _ _ _⟩, ⟨by repeat (first | (with_reducible first | exact HB.out | apply below_alloc | apply pw_below_drewN | apply below_drew1) | exact HB.out)⟩⟩
  case round =>
    clear H'; try clear c1
    obtain ⟨x4_1, x11_1, rfl, HA, HK1, HO_4, HB⟩ := hrel; cases gk with
    | zero => exact absurd HA.out (by simp [list_numbers_p.l0])
    | succ k1 =>
      have H := HA.out; clear HA; simp only [list_numbers_p.l0] at H; by_cases c2 : x11_1 < (l0.length : Int)
      · rw [if_pos c2] at H
        have c2b0 : decide (x11_1 < (l0.length : Int)) = true := decide_eq_true c2
        clear c2; by_cases c3 : 0 ≤ x11_1
        · rw [if_pos c3] at H
          have c3b0 : decide (0 ≤ x11_1) = true := decide_eq_true c3
          clear c3; by_cases c4 : x11_1 < (l0.length : Int)
          · rw [if_pos c4] at H
            have c4b0 : decide (x11_1 < (l0.length : Int)) = true := decide_eq_true c4
            clear c4; replace H := Option.bind_eq_some_iff.mp H
            obtain ⟨⟨t1002, t1003⟩, A50, H⟩ := H
            replace H : (if t1003 = true then (if t1002 > 2147483647 then (some (([] : List Int), false)) else ((parts_Kind.f (rdOf ByteArray.empty l0 x11_1)).bind fun t1004 => (if t1004 = 117 then (if x4_1.length < 17592186044416 then (list_numbers_p.l0 k1 (x4_1 ++ [wrap64 (t1002)]) l0 (l0.length : Int) (wrap64 (x11_1 + 1))) else (none)) else (some (([] : List Int), false))))) else (some (([] : List Int), false))) = some (r1, r2) := H
            have A5 := Aside0.mk A50
            clear A50; by_cases c6 : t1003 = true
            · subst c6; have H1 : (if t1002 > 2147483647 then (some (([] : List Int), false)) else ((parts_Kind.f (rdOf ByteArray.empty l0 x11_1)).bind fun t1004 => (if t1004 = 117 then (if x4_1.length < 17592186044416 then (list_numbers_p.l0 k1 (x4_1 ++ [wrap64 (t1002)]) l0 (l0.length : Int) (wrap64 (x11_1 + 1))) else (none)) else (some (([] : List Int), false))))) = some (r1, r2) := by rw [if_pos rfl] at H; exact H
              clear H; have H := H1; clear H1; by_cases c7 : t1002 > 2147483647
              · rw [if_pos c7] at H
                have c7b0 : decide (2147483647 < t1002) = true := decide_eq_true c7
                clear c7; simp only [Option.some.injEq, Prod.mk.injEq] at H; obtain ⟨rfl, rfl⟩ := H; have p1001 : 0 ≤ (x11_1 : Int) := of_decide_eq_true (by first | (with_reducible assumption) | assumption)
                have q1001 : x11_1 < (l0.length : Int) := of_decide_eq_true (by first | (with_reducible assumption) | assumption)
                obtain ⟨ad1001, e1001, hx1001_0⟩ := Kd.at_string HR0.out x11_1 p1001 q1001
                cases e1001
                replace hx1001_0 := (HB.out.cell (World.block_lt_of_cell? w _ hx1001_0)).trans hx1001_0
                replace p1001 := eq_true p1001
                replace q1001 := eq_true q1001
                go_wp2_with (first | ((with_reducible refine gate_callee (f := 67) rfl ?_); refine goesL_ (some 17) rfl rfl Try.func67 (by kernel_rfl) rfl #[.string (rdOf ByteArray.empty l0 x11_1)] rfl (by simp only [List.map_toArray, List.map_cons, List.map_nil] <;> rfl) ?_; (with_reducible refine (parts_Value.calls (rdOf ByteArray.empty l0 x11_1) t1002 true _ A5.out).mono ?_); rintro e w8 ⟨rfl, hb⟩; refine ⟨_, rfl, ?_⟩; have n0_ := Aside0.mk (Kd.R_below (by (with_reducible repeat (first | apply Kd.R_alloc | apply Kd.R_drewN | apply Kd.R_drew)); exact HO_4.out) hb); have n1_ := Aside0.mk (below_step (by repeat with_reducible first | exact HB.out | apply below_alloc | apply pw_below_drewN | apply below_drew1) hb); clear HO_4; clear HB; have HO_4 := n0_; have HB := n1_; clear n0_ n1_; (try clear hb)))
                go_ret2
                exact ⟨_, by first | rfl | (simp [errW_none, errW_some] <;> rfl) | (simp [*, errW_none, errW_some] <;> rfl), by first | exact Kd.R_nil _ _ _ _ _ | exact Kd.N_nil _ _ _ _ _ | exact Kd.V_nil _ _ _ _ _ | exact Kd.Q_nil _ _ _ _ _ | exact Kd.S_nil _ _ _ _ _, by repeat (first | (with_reducible first | exact HB.out | apply below_alloc | apply pw_below_drewN | apply below_drew1) | exact HB.out)⟩
              · rw [if_neg c7] at H
                have c7b0 : decide (2147483647 < t1002) = false := decide_eq_false c7
                clear c7; replace H := Option.bind_eq_some_iff.mp H
                obtain ⟨t1004, A90, H⟩ := H; replace H : (if t1004 = 117 then (if x4_1.length < 17592186044416 then (list_numbers_p.l0 k1 (x4_1 ++ [wrap64 (t1002)]) l0 (l0.length : Int) (wrap64 (x11_1 + 1))) else (none)) else (some (([] : List Int), false))) = some (r1, r2) := H
                have A9 := Aside0.mk A90
                clear A90; by_cases c10 : t1004 = 117
                · rw [if_pos c10] at H
                  have c10b0 : (t1004 == 117) = true := beq_iff_eq.mpr c10
                  have c10b1 : (t1004 != 117) = false := bne_eq_false_iff_eq.mpr c10
                  clear c10; by_cases c11 : x4_1.length < 17592186044416
                  · rw [if_pos c11] at H
                    have LMc11 := Aside0.mk c11
                    clear c11; obtain ⟨y1005, hy1005⟩ : ∃ y_ : List Int, y_ = (x4_1 ++ [wrap64 (t1002)]) := ⟨_, rfl⟩
                    replace H : (list_numbers_p.l0 k1 y1005 l0 (l0.length : Int) (wrap64 (x11_1 + 1))) = some (r1, r2) := by first | (rw [hy1005]; with_reducible exact H) | (have H2_ := (Option.bind_some _ _).symm.trans H; rw [hy1005]; with_reducible exact H2_) | (have H2_ := (Option.bind_some _ _).symm.trans H; with_reducible exact H2_) | with_reducible exact H | (rw [hy1005]; exact H) | exact H
                    have Ny1005 := Aside0.mk hy1005
                    clear hy1005; have H' := Aside0.mk H
                    clear H; have p1001 : 0 ≤ (x11_1 : Int) := of_decide_eq_true (by first | (with_reducible assumption) | assumption)
                    have q1001 : x11_1 < (l0.length : Int) := of_decide_eq_true (by first | (with_reducible assumption) | assumption)
                    obtain ⟨ad1001, e1001, hx1001_0⟩ := Kd.at_string HR0.out x11_1 p1001 q1001
                    cases e1001
                    replace hx1001_0 := (HB.out.cell (World.block_lt_of_cell? w _ hx1001_0)).trans hx1001_0
                    replace p1001 := eq_true p1001
                    replace q1001 := eq_true q1001
                    go_wp2_with (first | ((with_reducible refine gate_callee (f := 67) rfl ?_); refine goesL_ (some 17) rfl rfl Try.func67 (by kernel_rfl) rfl #[.string (rdOf ByteArray.empty l0 x11_1)] rfl (by simp only [List.map_toArray, List.map_cons, List.map_nil] <;> rfl) ?_; (with_reducible refine (parts_Value.calls (rdOf ByteArray.empty l0 x11_1) t1002 true _ A5.out).mono ?_); rintro e w12 ⟨rfl, hb⟩; refine ⟨_, rfl, ?_⟩; have n0_ := Aside0.mk (Kd.R_below (by (with_reducible repeat (first | apply Kd.R_alloc | apply Kd.R_drewN | apply Kd.R_drew)); exact HO_4.out) hb); have n1_ := Aside0.mk (below_step (by repeat with_reducible first | exact HB.out | apply below_alloc | apply pw_below_drewN | apply below_drew1) hb); clear HO_4; clear HB; have HO_4 := n0_; have HB := n1_; clear n0_ n1_; (try clear hb)) | (go_at_call 71; (with_reducible refine (parts_Kind.calls (rdOf ByteArray.empty l0 x11_1) t1004 _ A9.out).mono ?_); rintro e w13 ⟨rfl, hb⟩; have n0_ := Aside0.mk (Kd.R_below (by (with_reducible repeat (first | apply Kd.R_alloc | apply Kd.R_drewN | apply Kd.R_drew)); exact HO_4.out) hb); have n1_ := Aside0.mk (below_step (by repeat with_reducible first | exact HB.out | apply below_alloc | apply pw_below_drewN | apply below_drew1) hb); clear HO_4; clear HB; have HO_4 := n0_; have HB := n1_; clear n0_ n1_; (try clear hb)) | ((with_reducible refine gate_builtin (b := .append) (xs := #[.tmp 31, .tmp 34]) rfl ?_); at_builtin; refine Kd.R_append (Kd.int .i64) (w0 := w) w.heap.size rfl (.tmp 31) (.tmp 34) 36 3 (.int .i64 0) 8 rfl Try.underlying36 info3 rfl (by decide) (by omega) u4 x4_1 (wrap64 (t1002)) [.int .i64 (wrap64 (t1002))] (fun _ => True) (fun _ => False) rfl rfl ?aP (fun _ hk => hk.elim) ?aF ?aO ?aB ?aS ?aL ?_; (case aP => exact rfl); (case aB => exact (by repeat with_reducible first | exact HB.out | apply below_alloc | apply pw_below_drewN | apply below_drew1)); (case aF => exact (fun _ _ => trivial)); (case aO => exact (by (with_reducible repeat (first | apply Kd.R_alloc | apply Kd.R_drewN | apply Kd.R_drew)); exact HO_4.out)); (case aS => exact (below_size (by repeat with_reducible first | exact HB.out | apply below_alloc | apply pw_below_drewN | apply below_drew1))); (case aL => have := LMc11.out; omega); intro v1006 w14 ho hb hg hat; rw [← Ny1005.out] at ho; have n0_ := Aside0.mk (hb); have n1_ := Aside0.mk (ho); clear HB; clear HO_4; have HB := n0_; have HO1007 := n1_; clear n0_ n1_; clear ho hb hg hat))
                    go_roundg k1
                    case measure => have := HK1.out; omega
                    case rel => exact ⟨(y1005), (wrap64 (x11_1 + 1)), (by first | rfl | (simp; done) | (simp [*]; done)), H', ⟨by have := HK1.out; omega⟩, ⟨by (with_reducible repeat (first | apply Kd.R_alloc | apply Kd.R_drewN | apply Kd.R_drew)); exact HO1007.out⟩, ⟨by repeat (first | (with_reducible first | exact HB.out | apply below_alloc | apply pw_below_drewN | apply below_drew1) | exact HB.out)⟩⟩
                  · rw [if_neg c11] at H
                    exact absurd H (by simp)
                · rw [if_neg c10] at H
                  have c10b0 : (t1004 == 117) = false := beq_eq_false_iff_ne.mpr c10
                  have c10b1 : (t1004 != 117) = true := bne_iff_ne.mpr c10
                  simp only [Option.some.injEq, Prod.mk.injEq] at H; obtain ⟨rfl, rfl⟩ := H; have p1001 : 0 ≤ (x11_1 : Int) := of_decide_eq_true (by first | (with_reducible assumption) | assumption)
                  have q1001 : x11_1 < (l0.length : Int) := of_decide_eq_true (by first | (with_reducible assumption) | assumption)
                  obtain ⟨ad1001, e1001, hx1001_0⟩ := Kd.at_string HR0.out x11_1 p1001 q1001
                  cases e1001
                  replace hx1001_0 := (HB.out.cell (World.block_lt_of_cell? w _ hx1001_0)).trans hx1001_0
                  replace p1001 := eq_true p1001
                  replace q1001 := eq_true q1001
                  go_wp2_with (first | ((with_reducible refine gate_callee (f := 67) rfl ?_); refine goesL_ (some 17) rfl rfl Try.func67 (by kernel_rfl) rfl #[.string (rdOf ByteArray.empty l0 x11_1)] rfl (by simp only [List.map_toArray, List.map_cons, List.map_nil] <;> rfl) ?_; (with_reducible refine (parts_Value.calls (rdOf ByteArray.empty l0 x11_1) t1002 true _ A5.out).mono ?_); rintro e w15 ⟨rfl, hb⟩; refine ⟨_, rfl, ?_⟩; have n0_ := Aside0.mk (Kd.R_below (by (with_reducible repeat (first | apply Kd.R_alloc | apply Kd.R_drewN | apply Kd.R_drew)); exact HO_4.out) hb); have n1_ := Aside0.mk (below_step (by repeat with_reducible first | exact HB.out | apply below_alloc | apply pw_below_drewN | apply below_drew1) hb); clear HO_4; clear HB; have HO_4 := n0_; have HB := n1_; clear n0_ n1_; (try clear hb)) | (go_at_call 71; (with_reducible refine (parts_Kind.calls (rdOf ByteArray.empty l0 x11_1) t1004 _ A9.out).mono ?_); rintro e w16 ⟨rfl, hb⟩; have n0_ := Aside0.mk (Kd.R_below (by (with_reducible repeat (first | apply Kd.R_alloc | apply Kd.R_drewN | apply Kd.R_drew)); exact HO_4.out) hb); have n1_ := Aside0.mk (below_step (by repeat with_reducible first | exact HB.out | apply below_alloc | apply pw_below_drewN | apply below_drew1) hb); clear HO_4; clear HB; have HO_4 := n0_; have HB := n1_; clear n0_ n1_; (try clear hb)))
                  go_ret2
                  exact ⟨_, by first | rfl | (simp [errW_none, errW_some] <;> rfl) | (simp [*, errW_none, errW_some] <;> rfl), by first | exact Kd.R_nil _ _ _ _ _ | exact Kd.N_nil _ _ _ _ _ | exact Kd.V_nil _ _ _ _ _ | exact Kd.Q_nil _ _ _ _ _ | exact Kd.S_nil _ _ _ _ _, by repeat (first | (with_reducible first | exact HB.out | apply below_alloc | apply pw_below_drewN | apply below_drew1) | exact HB.out)⟩
            · replace c6 := Bool.eq_false_iff.mpr c6
              subst c6; have H1 : (some (([] : List Int), false)) = some (r1, r2) := by rw [if_neg (show ¬ (false = true) by decide)] at H; exact H
              clear H; have H := H1; clear H1; simp only [Option.some.injEq, Prod.mk.injEq] at H; obtain ⟨rfl, rfl⟩ := H; have p1001 : 0 ≤ (x11_1 : Int) := of_decide_eq_true (by first | (with_reducible assumption) | assumption)
              have q1001 : x11_1 < (l0.length : Int) := of_decide_eq_true (by first | (with_reducible assumption) | assumption)
              obtain ⟨ad1001, e1001, hx1001_0⟩ := Kd.at_string HR0.out x11_1 p1001 q1001
              cases e1001
              replace hx1001_0 := (HB.out.cell (World.block_lt_of_cell? w _ hx1001_0)).trans hx1001_0
              replace p1001 := eq_true p1001
              replace q1001 := eq_true q1001
              go_wp2_with (first | ((with_reducible refine gate_callee (f := 67) rfl ?_); refine goesL_ (some 17) rfl rfl Try.func67 (by kernel_rfl) rfl #[.string (rdOf ByteArray.empty l0 x11_1)] rfl (by simp only [List.map_toArray, List.map_cons, List.map_nil] <;> rfl) ?_; (with_reducible refine (parts_Value.calls (rdOf ByteArray.empty l0 x11_1) t1002 false _ A5.out).mono ?_); rintro e w17 ⟨rfl, hb⟩; refine ⟨_, rfl, ?_⟩; have n0_ := Aside0.mk (Kd.R_below (by (with_reducible repeat (first | apply Kd.R_alloc | apply Kd.R_drewN | apply Kd.R_drew)); exact HO_4.out) hb); have n1_ := Aside0.mk (below_step (by repeat with_reducible first | exact HB.out | apply below_alloc | apply pw_below_drewN | apply below_drew1) hb); clear HO_4; clear HB; have HO_4 := n0_; have HB := n1_; clear n0_ n1_; (try clear hb)))
              go_ret2
              exact ⟨_, by first | rfl | (simp [errW_none, errW_some] <;> rfl) | (simp [*, errW_none, errW_some] <;> rfl), by first | exact Kd.R_nil _ _ _ _ _ | exact Kd.N_nil _ _ _ _ _ | exact Kd.V_nil _ _ _ _ _ | exact Kd.Q_nil _ _ _ _ _ | exact Kd.S_nil _ _ _ _ _, by repeat (first | (with_reducible first | exact HB.out | apply below_alloc | apply pw_below_drewN | apply below_drew1) | exact HB.out)⟩
          · rw [if_neg c4] at H
            exact absurd H (by simp)
        · rw [if_neg c3] at H
          exact absurd H (by simp)
      · rw [if_neg c2] at H
        have c2b0 : decide (x11_1 < (l0.length : Int)) = false := decide_eq_false c2
        clear c2; simp only [Option.some.injEq, Prod.mk.injEq] at H; obtain ⟨rfl, rfl⟩ := H; go_wp2; go_ret2
        exact ⟨_, by first | rfl | (simp [errW_none, errW_some] <;> rfl) | (simp [*, errW_none, errW_some] <;> rfl), by (with_reducible repeat (first | apply Kd.R_alloc | apply Kd.R_drewN | apply Kd.R_drew)); exact HO_4.out, by repeat (first | (with_reducible first | exact HB.out | apply below_alloc | apply pw_below_drewN | apply below_drew1) | exact HB.out)⟩
def numK : List ByteArray → List Int × Bool
  | [] => ([], true)
  | t :: l => if (valF t).2 = true ∧ (valF t).1 ≤ 2147483647 ∧ kindF t = 117 then (if (numK l).2 = true then ((valF t).1 :: (numK l).1, true) else ([], false)) else ([], false)
def onK (out : List Int) (l : List ByteArray) : List Int × Bool := if (numK l).2 = true then (out ++ (numK l).1, true) else ([], false)
def list_numbers.f (l : List ByteArray) : Option (List Int × Bool) := if l.length < 1099511627776 ∧ ∀ x ∈ l, x.size < 9223372036854775808 then some (numK l) else none
theorem valF_pos (t : ByteArray) : 0 ≤ (valF t).1 := by
  unfold valF
  split
  · exact (decK_bound t 8).1
  · exact Int.le_refl _
theorem onK_bad (out : List Int) (t : ByteArray) (l : List ByteArray) (h : ¬ ((valF t).2 = true ∧ (valF t).1 ≤ 2147483647 ∧ kindF t = 117)) : onK out (t :: l) = ([], false) := by
  unfold onK
  rw [numK, if_neg h]
  rfl
theorem onK_step (out : List Int) (t : ByteArray) (l : List ByteArray) (h : (valF t).2 = true ∧ (valF t).1 ≤ 2147483647 ∧ kindF t = 117) : onK out (t :: l) = onK (out ++ [(valF t).1]) l := by
  unfold onK
  rw [numK, if_pos h]
  by_cases c : (numK l).2 = true
  · rw [if_pos c, if_pos c, if_pos rfl, List.append_assoc]
    rfl
  · rw [if_neg c, if_neg c]
    rfl
theorem list_numbers.loop (l : List ByteArray) (hl : l.length < 1099511627776) (hs : ∀ x ∈ l, x.size < 9223372036854775808) : ∀ (d k i : Nat) (out : List Int), i + d = l.length → d < k → out.length = i →
    list_numbers_p.l0 k out l l.length i = some (onK out (l.drop i)) := by
  intro d; induction d with
  | zero =>
    intro k i out hi hk ho; obtain ⟨k, rfl⟩ : ∃ m, k = m + 1 := ⟨k - 1, by omega⟩
    simp only [list_numbers_p.l0]; rw [if_neg (by omega), List.drop_of_length_le (by omega), onK, numK, if_pos rfl, List.append_nil]
  | succ d ih =>
    intro k i out hi hk ho; obtain ⟨k, rfl⟩ : ∃ m, k = m + 1 := ⟨k - 1, by omega⟩
    have hlt : i < l.length := by omega
    have hd : l.drop i = rdOf ByteArray.empty l i :: l.drop (i + 1) := by
      rw [List.drop_eq_getElem_cons hlt]
      simp [rdOf, List.getD_eq_getElem?_getD, hlt]
    have hx : rdOf ByteArray.empty l i ∈ l := by
      have : rdOf ByteArray.empty l i = l[i] := by simp [rdOf, List.getD_eq_getElem?_getD, hlt]
      rw [this]; exact List.getElem_mem _
    have hxs := hs _ hx
    have hw : wrap64 ((i : Int) + 1) = ((i + 1 : Nat) : Int) := by unfold wrap64; omega
    simp only [list_numbers_p.l0]; rw [if_pos (by omega), if_pos (by omega), if_pos (by omega), hd]
    generalize rdOf ByteArray.empty l i = t at hxs
    have hv := valF_pos t
    unfold parts_Value.f parts_Kind.f
    rw [if_pos hxs, if_pos hxs]
    simp only [Option.bind_some]; by_cases c1 : (valF t).2 = true
    · rw [if_pos c1]
      by_cases c2 : (valF t).1 > 2147483647
      · rw [if_pos c2, onK_bad out t _ (fun h => by omega)]
      · rw [if_neg c2]
        by_cases c3 : kindF t = 117
        · have hw2 : wrap64 (valF t).1 = (valF t).1 := by unfold wrap64; omega
          rw [if_pos c3, if_pos (by omega), hw, hw2, onK_step out t _ ⟨c1, by omega, c3⟩]
          exact ih k (i + 1) _ (by omega) (by omega) (by simp; omega)
        · rw [if_neg c3, onK_bad out t _ (fun h => c3 h.2.2)]
    · rw [if_neg c1, onK_bad out t _ (fun h => c1 h.1)]
theorem list_numbers.calls (A0 : Option Addr) (c0 : Nat) (l0 : List ByteArray) (r1 : List Int) (r2 : Bool) (w : World) (hr0 : Kd.C Kd.string w A0 l0.length l0) (hc0 : l0.length ≤ c0) (h : list_numbers.f l0 = some (r1, r2)) :
    Calls Try.prog 115 #[.slice A0 l0.length c0] w fun e w' => ∃ v0_ : Value, e = .returned (.tuple #[v0_, .bool r2]) ∧ Kd.R (Kd.int .i64) 3 w' w.heap.size (fun _ => True) v0_ r1 ∧ Below w.heap.size w w' := by
  unfold list_numbers.f at h
  split at h
  case isFalse => cases h
  rename_i hs
  refine list_numbers_p.calls (l0.length + 1) A0 c0 l0 r1 r2 w hr0 hc0 ?_
  rw [← h]
  unfold list_numbers_p.f
  have := list_numbers.loop l0 hs.1 hs.2 l0.length (l0.length + 1) 0 [] (by omega) (by omega) rfl
  rw [List.drop_zero] at this
  refine this.trans ?_
  unfold onK
  by_cases c : (numK l0).2 = true
  · rw [if_pos c, List.nil_append]
    exact congrArg some (Prod.ext rfl c.symm)
  · rw [if_neg c]
    congr 1
    cases l0 with
    | nil => exact absurd rfl c
    | cons t l =>
      rw [numK] at c ⊢
      by_cases d : (valF t).2 = true ∧ (valF t).1 ≤ 2147483647 ∧ kindF t = 117
      · rw [if_pos d] at c ⊢
        by_cases e : (numK l).2 = true
        · rw [if_pos e] at c; exact absurd rfl c
        · rw [if_neg e]
      · rw [if_neg d]
end Go.Proofs.Ytpfpmjdifnoeoaa.F
