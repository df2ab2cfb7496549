import Derived.Test.YtpfpmjdifnoeoaaMListPacksF0
import Derived.Test.YtpfpmjdifnoeoaaMListPacksF48
import Derived.Test.YtpfpmjdifnoeoaaMListPacksB3
import Derived.Test.YtpfpmjdifnoeoaaMListPacksB5
import Derived.Test.YtpfpmjdifnoeoaaMListPacksB1
import Derived.Test.YtpfpmjdifnoeoaaMListPacksB4
namespace Go.Proofs.Ytpfpmjdifnoeoaa.F
open Go.RowKit Go.Proofs.YtpfpmjdifnoeoaaW.PrintWords Go.Proofs.YtpfpmjdifnoeoaaW.PrintLast Go.Proofs.YtpfpmjdifnoeoaaW.PrintMore
attribute [local go_sem] max2_int min2_int max_two min_two max_three min_three max_four min_four
set_option linter.unusedVariables false
set_option linter.unusedSimpArgs false
def gemotref4_Take_p.l0 : Nat → List ByteArray → ByteArray → Option (List ByteArray × Int)
  | 0, _, _ => none
  | k + 1, x4, x5 => (gemotref1_Number.f 0).bind fun t1001 => (if x5.toList = t1001.toList then (some (x4, 0)) else ((gemotref2_Of.f x5).bind fun t1002 => ((gemotref2_Kind.f x5).bind fun t1005 => (if t1005 = 112 then (if (x4.length : Int) = 150 then (some (([] : List ByteArray), 2)) else (if 0 < (t1002.length : Int) then (if x4.length < 8796093022208 then (if 1 < (t1002.length : Int) then (gemotref4_Take_p.l0 k (x4 ++ [rdOf ByteArray.empty t1002 0]) (rdOf ByteArray.empty t1002 1)) else (none)) else (none)) else (none))) else (some (([] : List ByteArray), 2))))))
def gemotref4_Take_p.f (k : Nat) (a0 : ByteArray) : Option (List ByteArray × Int) := gemotref4_Take_p.l0 k ([] : List ByteArray) a0
set_option maxHeartbeats 8000000 in
set_option maxRecDepth 100000 in
theorem gemotref4_Take_p.calls (k : Nat) (a0 : ByteArray) (r1 : List ByteArray) (r2 : Int) (w : World) (h : gemotref4_Take_p.f k a0 = some (r1, r2)) :
    Calls Try.prog 49 #[.string a0] w fun e w' => ∃ v0_ : Value, e = .returned (.tuple #[v0_, .int .i64 r2]) ∧ Kd.R Kd.string 9 w' w.heap.size (fun _ => True) v0_ r1 ∧ Below w.heap.size w w' := by
  have HB := Aside0.mk (Below.refl w.heap.size w)
  have H : (gemotref4_Take_p.l0 k ([] : List ByteArray) a0) = some (r1, r2) := h
  clear h; have H' := Aside0.mk H
  clear H; go_enter Try.func49, Try.ntmps49
  go_wp2; go_loopg [4, 5] k (fun kq v4 v5 w' => ∃ (x4_1 : List ByteArray) (x5_1 : ByteArray), v5 = .string x5_1 ∧ Aside0 (gemotref4_Take_p.l0 kq x4_1 x5_1 = some (r1, r2)) ∧ Aside0 (kq ≤ k) ∧ Aside0 (Kd.R Kd.string 9 w' w.heap.size (fun _ => True) v4 x4_1) ∧ Aside0 (Below w.heap.size w w'))
  case atStart => exact ⟨(([] : List ByteArray)), (a0), (by first | rfl | (simp; done) | (simp [*]; done)), H', ⟨Nat.le_refl _⟩, ⟨by first | exact Kd.R_nil _ _ _ _ _ | exact Kd.N_nil _ _ _ _ _ | exact Kd.V_nil _ _ _ _ _ | exact Kd.Q_nil _ _ _ _ _ | exact Kd.S_nil _ _ _ _ _⟩, ⟨by repeat (first | (with_reducible first | exact HB.out | apply below_alloc | apply pw_below_drewN | apply below_drew1) | exact HB.out)⟩⟩
  case round =>
    clear H'; obtain ⟨x4_1, x5_1, rfl, HA, HK1, HO_4, HB⟩ := hrel; cases gk with
    | zero => exact absurd HA.out (by simp [gemotref4_Take_p.l0])
    | succ k1 =>
      have H := HA.out; clear HA; simp only [gemotref4_Take_p.l0] at H; replace H := Option.bind_eq_some_iff.mp H
      obtain ⟨t1001, A20, H⟩ := H; replace H : (if x5_1.toList = t1001.toList then (some (x4_1, 0)) else ((gemotref2_Of.f x5_1).bind fun t1002 => ((gemotref2_Kind.f x5_1).bind fun t1005 => (if t1005 = 112 then (if (x4_1.length : Int) = 150 then (some (([] : List ByteArray), 2)) else (if 0 < (t1002.length : Int) then (if x4_1.length < 8796093022208 then (if 1 < (t1002.length : Int) then (gemotref4_Take_p.l0 k1 (x4_1 ++ [rdOf ByteArray.empty t1002 0]) (rdOf ByteArray.empty t1002 1)) else (none)) else (none)) else (none))) else (some (([] : List ByteArray), 2)))))) = some (r1, r2) := H
      have A2 := Aside0.mk A20
      clear A20; by_cases c3 : x5_1.toList = t1001.toList
      · rw [if_pos c3] at H
        have c3b0 : (x5_1.toList == t1001.toList) = true := beq_iff_eq.mpr c3
        have c3b1 : (x5_1.toList != t1001.toList) = false := bne_eq_false_iff_eq.mpr c3
        clear c3; simp only [Option.some.injEq, Prod.mk.injEq] at H; obtain ⟨rfl, rfl⟩ := H; go_wp2_with (first | ((with_reducible refine gate_callee (f := 85) rfl ?_); refine goesL_ (some 9) rfl rfl Try.func85 (by kernel_rfl) rfl #[.int .u64 0] rfl (by simp only [List.map_toArray, List.map_cons, List.map_nil] <;> rfl) ?_; (with_reducible refine (gemotref1_Number.calls 0 t1001 _ A2.out).mono ?_); rintro e w4 ⟨rfl, hb⟩; refine ⟨_, rfl, ?_⟩; have n0_ := Aside0.mk (Kd.R_below (by (with_reducible repeat (first | apply Kd.R_alloc | apply Kd.R_drewN | apply Kd.R_drew)); exact HO_4.out) hb); have n1_ := Aside0.mk (below_step (by repeat with_reducible first | exact HB.out | apply below_alloc | apply pw_below_drewN | apply below_drew1) hb); clear HO_4; clear HB; have HO_4 := n0_; have HB := n1_; clear n0_ n1_; (try clear hb)))
        go_ret2
        exact ⟨_, by first | rfl | (simp [errW_none, errW_some] <;> rfl) | (simp [*, errW_none, errW_some] <;> rfl), by (with_reducible repeat (first | apply Kd.R_alloc | apply Kd.R_drewN | apply Kd.R_drew)); exact HO_4.out, by repeat (first | (with_reducible first | exact HB.out | apply below_alloc | apply pw_below_drewN | apply below_drew1) | exact HB.out)⟩
      · rw [if_neg c3] at H
        have c3b0 : (x5_1.toList == t1001.toList) = false := beq_eq_false_iff_ne.mpr c3
        have c3b1 : (x5_1.toList != t1001.toList) = true := bne_iff_ne.mpr c3
        replace H := Option.bind_eq_some_iff.mp H
        obtain ⟨t1002, A50, H⟩ := H; replace H : ((gemotref2_Kind.f x5_1).bind fun t1005 => (if t1005 = 112 then (if (x4_1.length : Int) = 150 then (some (([] : List ByteArray), 2)) else (if 0 < (t1002.length : Int) then (if x4_1.length < 8796093022208 then (if 1 < (t1002.length : Int) then (gemotref4_Take_p.l0 k1 (x4_1 ++ [rdOf ByteArray.empty t1002 0]) (rdOf ByteArray.empty t1002 1)) else (none)) else (none)) else (none))) else (some (([] : List ByteArray), 2)))) = some (r1, r2) := H
        have A5 := Aside0.mk A50
        clear A50; replace H := Option.bind_eq_some_iff.mp H
        obtain ⟨t1005, A60, H⟩ := H; replace H : (if t1005 = 112 then (if (x4_1.length : Int) = 150 then (some (([] : List ByteArray), 2)) else (if 0 < (t1002.length : Int) then (if x4_1.length < 8796093022208 then (if 1 < (t1002.length : Int) then (gemotref4_Take_p.l0 k1 (x4_1 ++ [rdOf ByteArray.empty t1002 0]) (rdOf ByteArray.empty t1002 1)) else (none)) else (none)) else (none))) else (some (([] : List ByteArray), 2))) = some (r1, r2) := H
        have A6 := Aside0.mk A60
        clear A60; by_cases c7 : t1005 = 112
        · rw [if_pos c7] at H
          have c7b0 : (t1005 == 112) = true := beq_iff_eq.mpr c7
          have c7b1 : (t1005 != 112) = false := bne_eq_false_iff_eq.mpr c7
          clear c7; by_cases c8 : (x4_1.length : Int) = 150
          · rw [if_pos c8] at H
            have c8b0 : ((x4_1.length : Int) == 150) = true := beq_iff_eq.mpr c8
            have c8b1 : ((x4_1.length : Int) != 150) = false := bne_eq_false_iff_eq.mpr c8
            clear c8; simp only [Option.some.injEq, Prod.mk.injEq] at H; obtain ⟨rfl, rfl⟩ := H; go_wp2_with (first | ((with_reducible refine gate_callee (f := 85) rfl ?_); refine goesL_ (some 9) rfl rfl Try.func85 (by kernel_rfl) rfl #[.int .u64 0] rfl (by simp only [List.map_toArray, List.map_cons, List.map_nil] <;> rfl) ?_; (with_reducible refine (gemotref1_Number.calls 0 t1001 _ A2.out).mono ?_); rintro e w9 ⟨rfl, hb⟩; refine ⟨_, rfl, ?_⟩; have n0_ := Aside0.mk (Kd.R_below (by (with_reducible repeat (first | apply Kd.R_alloc | apply Kd.R_drewN | apply Kd.R_drew)); exact HO_4.out) hb); have n1_ := Aside0.mk (below_step (by repeat with_reducible first | exact HB.out | apply below_alloc | apply pw_below_drewN | apply below_drew1) hb); clear HO_4; clear HB; have HO_4 := n0_; have HB := n1_; clear n0_ n1_; (try clear hb)) | ((with_reducible refine gate_callee (f := 75) rfl ?_); refine goesL_ (some 12) rfl rfl Try.func75 (by kernel_rfl) rfl #[.string x5_1] rfl (by simp only [List.map_toArray, List.map_cons, List.map_nil] <;> rfl) ?_; (with_reducible refine (gemotref2_Of.calls x5_1 t1002 _ A5.out).mono ?_); rintro e w10 ⟨v1003, rfl, ho0, hb⟩; refine ⟨_, rfl, ?_⟩; have n0_ := Aside0.mk (Kd.R_elder' (by (with_reducible repeat (first | apply Kd.R_alloc | apply Kd.R_drewN | apply Kd.R_drew)); exact HO_4.out) (Kd.R_base ho0) hb); have n1_ := Aside0.mk (Kd.R_lower (Kd.R_new' ho0 (Kd.R_lt (by (with_reducible repeat (first | apply Kd.R_alloc | apply Kd.R_drewN | apply Kd.R_drew)); exact HO_4.out))) (below_size (by repeat with_reducible first | exact HB.out | apply below_alloc | apply pw_below_drewN | apply below_drew1))); have n2_ := Aside0.mk (below_step (by repeat with_reducible first | exact HB.out | apply below_alloc | apply pw_below_drewN | apply below_drew1) hb); clear HO_4; clear HB; have HO_4 := n0_; have HO1004 := n1_; have HB := n2_; clear n0_ n1_ n2_; (try clear hb); (try clear ho0)) | ((with_reducible refine gate_callee (f := 72) rfl ?_); refine goesL_ (some 14) rfl rfl Try.func72 (by kernel_rfl) rfl #[.string x5_1] rfl (by simp only [List.map_toArray, List.map_cons, List.map_nil] <;> rfl) ?_; (with_reducible refine (gemotref2_Kind.calls x5_1 t1005 _ A6.out).mono ?_); rintro e w11 ⟨rfl, hb⟩; refine ⟨_, rfl, ?_⟩; have n0_ := Aside0.mk (Kd.R_below (by (with_reducible repeat (first | apply Kd.R_alloc | apply Kd.R_drewN | apply Kd.R_drew)); exact HO_4.out) hb); have n1_ := Aside0.mk (Kd.R_below (by (with_reducible repeat (first | apply Kd.R_alloc | apply Kd.R_drewN | apply Kd.R_drew)); exact HO1004.out) hb); have n2_ := Aside0.mk (below_step (by repeat with_reducible first | exact HB.out | apply below_alloc | apply pw_below_drewN | apply below_drew1) hb); clear HO_4; clear HO1004; clear HB; have HO_4 := n0_; have HO1004 := n1_; have HB := n2_; clear n0_ n1_ n2_; (try clear hb); obtain ⟨Ao12, co12, eo12⟩ := Kd.R_slice HO_4.out; subst eo12))
            go_ret2
            exact ⟨_, by first | rfl | (simp [errW_none, errW_some] <;> rfl) | (simp [*, errW_none, errW_some] <;> rfl), by first | exact Kd.R_nil _ _ _ _ _ | exact Kd.N_nil _ _ _ _ _ | exact Kd.V_nil _ _ _ _ _ | exact Kd.Q_nil _ _ _ _ _ | exact Kd.S_nil _ _ _ _ _, by repeat (first | (with_reducible first | exact HB.out | apply below_alloc | apply pw_below_drewN | apply below_drew1) | exact HB.out)⟩
          · rw [if_neg c8] at H
            have c8b0 : ((x4_1.length : Int) == 150) = false := beq_eq_false_iff_ne.mpr c8
            have c8b1 : ((x4_1.length : Int) != 150) = true := bne_iff_ne.mpr c8
            by_cases c13 : 0 < (t1002.length : Int)
            · rw [if_pos c13] at H
              have c13b0 : decide (0 < (t1002.length : Int)) = true := decide_eq_true c13
              have c13b1 : decide (0 < t1002.length) = true := decide_eq_true (by omega)
              clear c13; by_cases c14 : x4_1.length < 8796093022208
              · rw [if_pos c14] at H
                have LMc14 := Aside0.mk c14
                clear c14; obtain ⟨y1007, hy1007⟩ : ∃ y_ : List ByteArray, y_ = (x4_1 ++ [rdOf ByteArray.empty t1002 0]) := ⟨_, rfl⟩
                replace H : (if 1 < (t1002.length : Int) then (gemotref4_Take_p.l0 k1 y1007 (rdOf ByteArray.empty t1002 1)) else (none)) = some (r1, r2) := by first | (rw [hy1007]; with_reducible exact H) | (have H2_ := (Option.bind_some _ _).symm.trans H; rw [hy1007]; with_reducible exact H2_) | (have H2_ := (Option.bind_some _ _).symm.trans H; with_reducible exact H2_) | with_reducible exact H | (rw [hy1007]; exact H) | exact H
                have Ny1007 := Aside0.mk hy1007
                clear hy1007; by_cases c15 : 1 < (t1002.length : Int)
                · rw [if_pos c15] at H
                  have c15b0 : decide (1 < (t1002.length : Int)) = true := decide_eq_true c15
                  have c15b1 : decide (1 < t1002.length) = true := decide_eq_true (by omega)
                  clear c15; have H' := Aside0.mk H
                  clear H; go_wp2_with (first | ((with_reducible refine gate_callee (f := 85) rfl ?_); refine goesL_ (some 9) rfl rfl Try.func85 (by kernel_rfl) rfl #[.int .u64 0] rfl (by simp only [List.map_toArray, List.map_cons, List.map_nil] <;> rfl) ?_; (with_reducible refine (gemotref1_Number.calls 0 t1001 _ A2.out).mono ?_); rintro e w16 ⟨rfl, hb⟩; refine ⟨_, rfl, ?_⟩; have n0_ := Aside0.mk (Kd.R_below (by (with_reducible repeat (first | apply Kd.R_alloc | apply Kd.R_drewN | apply Kd.R_drew)); exact HO_4.out) hb); have n1_ := Aside0.mk (below_step (by repeat with_reducible first | exact HB.out | apply below_alloc | apply pw_below_drewN | apply below_drew1) hb); clear HO_4; clear HB; have HO_4 := n0_; have HB := n1_; clear n0_ n1_; (try clear hb)) | ((with_reducible refine gate_callee (f := 75) rfl ?_); refine goesL_ (some 12) rfl rfl Try.func75 (by kernel_rfl) rfl #[.string x5_1] rfl (by simp only [List.map_toArray, List.map_cons, List.map_nil] <;> rfl) ?_; (with_reducible refine (gemotref2_Of.calls x5_1 t1002 _ A5.out).mono ?_); rintro e w17 ⟨v1003, rfl, ho0, hb⟩; refine ⟨_, rfl, ?_⟩; have n0_ := Aside0.mk (Kd.R_elder' (by (with_reducible repeat (first | apply Kd.R_alloc | apply Kd.R_drewN | apply Kd.R_drew)); exact HO_4.out) (Kd.R_base ho0) hb); have n1_ := Aside0.mk (Kd.R_lower (Kd.R_new' ho0 (Kd.R_lt (by (with_reducible repeat (first | apply Kd.R_alloc | apply Kd.R_drewN | apply Kd.R_drew)); exact HO_4.out))) (below_size (by repeat with_reducible first | exact HB.out | apply below_alloc | apply pw_below_drewN | apply below_drew1))); have n2_ := Aside0.mk (below_step (by repeat with_reducible first | exact HB.out | apply below_alloc | apply pw_below_drewN | apply below_drew1) hb); clear HO_4; clear HB; have HO_4 := n0_; have HO1004 := n1_; have HB := n2_; clear n0_ n1_ n2_; (try clear hb); (try clear ho0)) | ((with_reducible refine gate_callee (f := 72) rfl ?_); refine goesL_ (some 14) rfl rfl Try.func72 (by kernel_rfl) rfl #[.string x5_1] rfl (by simp only [List.map_toArray, List.map_cons, List.map_nil] <;> rfl) ?_; (with_reducible refine (gemotref2_Kind.calls x5_1 t1005 _ A6.out).mono ?_); rintro e w18 ⟨rfl, hb⟩; refine ⟨_, rfl, ?_⟩; have n0_ := Aside0.mk (Kd.R_below (by (with_reducible repeat (first | apply Kd.R_alloc | apply Kd.R_drewN | apply Kd.R_drew)); exact HO_4.out) hb); have n1_ := Aside0.mk (Kd.R_below (by (with_reducible repeat (first | apply Kd.R_alloc | apply Kd.R_drewN | apply Kd.R_drew)); exact HO1004.out) hb); have n2_ := Aside0.mk (below_step (by repeat with_reducible first | exact HB.out | apply below_alloc | apply pw_below_drewN | apply below_drew1) hb); clear HO_4; clear HO1004; clear HB; have HO_4 := n0_; have HO1004 := n1_; have HB := n2_; clear n0_ n1_ n2_; (try clear hb); obtain ⟨Ao19, co19, eo19⟩ := Kd.R_slice HO_4.out; subst eo19; obtain ⟨Ao20, co20, eo20⟩ := Kd.R_slice HO1004.out; subst eo20; have p1006 : 0 ≤ (0 : Int) := (by omega); have q1006 : 0 < (t1002.length : Int) := of_decide_eq_true (by assumption); obtain ⟨ad1006, e1006, hx1006_0⟩ := Kd.at_string (Kd.R_reads' HO1004.out).2.2 0 p1006 q1006; cases e1006; have qi1006 : (0 < t1002.length) = True := eq_true (by omega); (try rw [show ((0 : Int)).toNat = 0 from rfl] at hx1006_0); (try rw [Addr.add_zero'] at hx1006_0); replace p1006 := eq_true p1006; replace q1006 := eq_true q1006) | ((with_reducible refine gate_builtin (b := .append) (xs := #[.tmp 21, .tmp 25]) rfl ?_); at_builtin; refine Kd.R_append Kd.string (w0 := w) w.heap.size rfl (.tmp 21) (.tmp 25) 43 9 (.string ⟨#[]⟩) 16 rfl Try.underlying43 info9 rfl (by decide) (by omega) (.slice Ao19 x4_1.length co19) x4_1 (rdOf ByteArray.empty t1002 0) [.string (rdOf ByteArray.empty t1002 0)] (fun k_ => some k_ ≠ (.slice (some ad1006) t1002.length co20 : Value).ownBlock) (fun _ => False) rfl rfl ?aP (fun _ hk => hk.elim) ?aF ?aO ?aB ?aS ?aL ?_; (case aP => exact rfl); (case aB => exact (by repeat with_reducible first | exact HB.out | apply below_alloc | apply pw_below_drewN | apply below_drew1)); (case aF => exact (fun k_ hk => Kd.fresh' (Kd.R_lt (by (with_reducible repeat (first | apply Kd.R_alloc | apply Kd.R_drewN | apply Kd.R_drew)); exact HO1004.out)) k_ hk)); (case aO => exact (by (with_reducible repeat (first | apply Kd.R_alloc | apply Kd.R_drewN | apply Kd.R_drew)); exact Kd.R_mono HO_4.out (fun _ hk => hk.2))); (case aS => exact (below_size (by repeat with_reducible first | exact HB.out | apply below_alloc | apply pw_below_drewN | apply below_drew1))); (case aL => have := LMc14.out; omega); intro v1008 w21 ho hb hg hat; rw [← Ny1007.out] at ho; have n0_ := Aside0.mk (Kd.R_after (ok := (fun _ => True)) (by (with_reducible repeat (first | apply Kd.R_alloc | apply Kd.R_drewN | apply Kd.R_drew)); exact HO1004.out) hg hat); have n1_ := Aside0.mk (hb); have n2_ := Aside0.mk (ho); clear HO1004; clear HB; clear HO_4; have HO1004 := n0_; have HB := n1_; have HO1009 := n2_; clear n0_ n1_ n2_; clear ho hb hg hat; have p1010 : 0 ≤ (1 : Int) := (by omega); have q1010 : 1 < (t1002.length : Int) := of_decide_eq_true (by assumption); obtain ⟨ad1010, e1010, hx1010_0⟩ := Kd.at_string (Kd.R_reads' HO1004.out).2.2 1 p1010 q1010; obtain rfl : ad1006 = ad1010 := (by injection e1010); (try simp only [show (1 : Int).toNat = 1 from rfl, Nat.reduceMul, Nat.reduceEqDiff, Go.Addr.add, ↓reduceIte] at hx1010_0); have qi1010 : (1 < t1002.length) = True := eq_true (by omega); (try rw [show ((1 : Int)).toNat = 1 from rfl] at hx1010_0); replace p1010 := eq_true p1010; replace q1010 := eq_true q1010))
                  go_roundg k1
                  case measure => have := HK1.out; omega
                  case rel => exact ⟨(y1007), (rdOf ByteArray.empty t1002 1), (by first | rfl | (simp; done) | (simp [*]; done)), H', ⟨by have := HK1.out; omega⟩, ⟨by (with_reducible repeat (first | apply Kd.R_alloc | apply Kd.R_drewN | apply Kd.R_drew)); exact Kd.R_mono HO1009.out (fun _ hk => trivial)⟩, ⟨by repeat (first | (with_reducible first | exact HB.out | apply below_alloc | apply pw_below_drewN | apply below_drew1) | exact HB.out)⟩⟩
                · rw [if_neg c15] at H
                  exact absurd H (by simp)
              · rw [if_neg c14] at H
                exact absurd H (by simp)
            · rw [if_neg c13] at H
              exact absurd H (by simp)
        · rw [if_neg c7] at H
          have c7b0 : (t1005 == 112) = false := beq_eq_false_iff_ne.mpr c7
          have c7b1 : (t1005 != 112) = true := bne_iff_ne.mpr c7
          simp only [Option.some.injEq, Prod.mk.injEq] at H; obtain ⟨rfl, rfl⟩ := H; go_wp2_with (first | ((with_reducible refine gate_callee (f := 85) rfl ?_); refine goesL_ (some 9) rfl rfl Try.func85 (by kernel_rfl) rfl #[.int .u64 0] rfl (by simp only [List.map_toArray, List.map_cons, List.map_nil] <;> rfl) ?_; (with_reducible refine (gemotref1_Number.calls 0 t1001 _ A2.out).mono ?_); rintro e w22 ⟨rfl, hb⟩; refine ⟨_, rfl, ?_⟩; have n0_ := Aside0.mk (Kd.R_below (by (with_reducible repeat (first | apply Kd.R_alloc | apply Kd.R_drewN | apply Kd.R_drew)); exact HO_4.out) hb); have n1_ := Aside0.mk (below_step (by repeat with_reducible first | exact HB.out | apply below_alloc | apply pw_below_drewN | apply below_drew1) hb); clear HO_4; clear HB; have HO_4 := n0_; have HB := n1_; clear n0_ n1_; (try clear hb)) | ((with_reducible refine gate_callee (f := 75) rfl ?_); refine goesL_ (some 12) rfl rfl Try.func75 (by kernel_rfl) rfl #[.string x5_1] rfl (by simp only [List.map_toArray, List.map_cons, List.map_nil] <;> rfl) ?_; (with_reducible refine (gemotref2_Of.calls x5_1 t1002 _ A5.out).mono ?_); rintro e w23 ⟨v1003, rfl, ho0, hb⟩; refine ⟨_, rfl, ?_⟩; have n0_ := Aside0.mk (Kd.R_elder' (by (with_reducible repeat (first | apply Kd.R_alloc | apply Kd.R_drewN | apply Kd.R_drew)); exact HO_4.out) (Kd.R_base ho0) hb); have n1_ := Aside0.mk (Kd.R_lower (Kd.R_new' ho0 (Kd.R_lt (by (with_reducible repeat (first | apply Kd.R_alloc | apply Kd.R_drewN | apply Kd.R_drew)); exact HO_4.out))) (below_size (by repeat with_reducible first | exact HB.out | apply below_alloc | apply pw_below_drewN | apply below_drew1))); have n2_ := Aside0.mk (below_step (by repeat with_reducible first | exact HB.out | apply below_alloc | apply pw_below_drewN | apply below_drew1) hb); clear HO_4; clear HB; have HO_4 := n0_; have HO1004 := n1_; have HB := n2_; clear n0_ n1_ n2_; (try clear hb); (try clear ho0)) | ((with_reducible refine gate_callee (f := 72) rfl ?_); refine goesL_ (some 14) rfl rfl Try.func72 (by kernel_rfl) rfl #[.string x5_1] rfl (by simp only [List.map_toArray, List.map_cons, List.map_nil] <;> rfl) ?_; (with_reducible refine (gemotref2_Kind.calls x5_1 t1005 _ A6.out).mono ?_); rintro e w24 ⟨rfl, hb⟩; refine ⟨_, rfl, ?_⟩; have n0_ := Aside0.mk (Kd.R_below (by (with_reducible repeat (first | apply Kd.R_alloc | apply Kd.R_drewN | apply Kd.R_drew)); exact HO_4.out) hb); have n1_ := Aside0.mk (Kd.R_below (by (with_reducible repeat (first | apply Kd.R_alloc | apply Kd.R_drewN | apply Kd.R_drew)); exact HO1004.out) hb); have n2_ := Aside0.mk (below_step (by repeat with_reducible first | exact HB.out | apply below_alloc | apply pw_below_drewN | apply below_drew1) hb); clear HO_4; clear HO1004; clear HB; have HO_4 := n0_; have HO1004 := n1_; have HB := n2_; clear n0_ n1_ n2_; (try clear hb)))
          go_ret2
          exact ⟨_, by first | rfl | (simp [errW_none, errW_some] <;> rfl) | (simp [*, errW_none, errW_some] <;> rfl), by first | exact Kd.R_nil _ _ _ _ _ | exact Kd.N_nil _ _ _ _ _ | exact Kd.V_nil _ _ _ _ _ | exact Kd.Q_nil _ _ _ _ _ | exact Kd.S_nil _ _ _ _ _, by repeat (first | (with_reducible first | exact HB.out | apply below_alloc | apply pw_below_drewN | apply below_drew1) | exact HB.out)⟩
open Go.Proofs.Ytpfpmjdifnoeoaa.Pure
def gemotref4_Take.f (t : ByteArray) : Option (List ByteArray × Int) := if t.size < 9223372036854775808 then some (rowN 150 t) else none
theorem gemotref4_Take.loop : ∀ (m k : Nat) (l : List ByteArray) (t : ByteArray), l.length + m = 150 → m < k → t.size < 9223372036854775808 → gemotref4_Take_p.l0 k l t = some (onN m l t) := by
  intro m; induction m with
  | zero =>
    intro k l t hl hk ht; obtain ⟨k, rfl⟩ : ∃ m, k = m + 1 := ⟨k - 1, by omega⟩
    simp only [gemotref4_Take_p.l0]; unfold gemotref1_Number.f gemotref2_Of.f gemotref2_Kind.f
    simp only [Option.bind_some]; by_cases c1 : t = numF 0
    · rw [if_pos (by rw [c1]), onN_end 0 l c1]
    · rw [if_neg (fun h => c1 (list_Take.text h)), if_pos ht, if_pos ht]
      simp only [Option.bind_some]; rw [onN_full l c1]
      split
      · rw [if_pos (by omega)]
      · rfl
  | succ m ih =>
    intro k l t hl hk ht; obtain ⟨k, rfl⟩ : ∃ m, k = m + 1 := ⟨k - 1, by omega⟩
    simp only [gemotref4_Take_p.l0]; unfold gemotref1_Number.f gemotref2_Of.f gemotref2_Kind.f
    simp only [Option.bind_some]; by_cases c1 : t = numF 0
    · rw [if_pos (by rw [c1]), onN_end (m + 1) l c1]
    · rw [if_neg (fun h => c1 (list_Take.text h)), if_pos ht, if_pos ht]
      simp only [Option.bind_some]; by_cases c2 : kindF t = 112
      · have hq := list_Take.pair c2
        rw [if_pos c2, if_neg (by omega), hq.1, onN_step m l c1 c2, if_pos (by simp), if_pos (by omega), if_pos (by simp)]
        exact ih k _ _ (by simp; omega) (by omega) (by have := hq.2; show (rdOf ByteArray.empty (kidsF t) 1).size < _; omega)
      · rw [if_neg c2, onN_bad (m + 1) l c1 c2]
theorem gemotref4_Take.eq (t : ByteArray) (ht : t.size < 9223372036854775808) : gemotref4_Take_p.f 151 t = some (rowN 150 t) := by
  unfold gemotref4_Take_p.f
  rw [gemotref4_Take.loop 150 151 [] t rfl (by omega) ht]
  congr 1
  unfold onN
  split
  · rename_i q; rw [List.nil_append]; exact Prod.ext rfl q.symm
  · rename_i q
    have : ∀ (k : Nat) (t : ByteArray), (rowN k t).2 = 0 ∨ rowN k t = ([], 2) := by
      intro k; cases k with
      | zero => intro t; rw [rowN]; split; exact .inl rfl; exact .inr rfl
      | succ k =>
        intro t; rw [rowN]
        repeat' split
        all_goals first | exact .inl rfl | exact .inr rfl
    rcases this 150 t with q2 | q2
    · exact absurd q2 q
    · exact q2.symm
theorem gemotref4_Take.calls (a0 : ByteArray) (r1 : List ByteArray) (r2 : Int) (w : World) (h : gemotref4_Take.f a0 = some (r1, r2)) :
    Calls Try.prog 49 #[.string a0] w fun e w' => ∃ v0_ : Value, e = .returned (.tuple #[v0_, .int .i64 r2]) ∧ Kd.R Kd.string 9 w' w.heap.size (fun _ => True) v0_ r1 ∧ Below w.heap.size w w' := by
  unfold gemotref4_Take.f at h
  split at h
  case isFalse => cases h
  rename_i hs
  exact gemotref4_Take_p.calls 151 a0 r1 r2 w ((gemotref4_Take.eq a0 hs).trans h)
end Go.Proofs.Ytpfpmjdifnoeoaa.F
