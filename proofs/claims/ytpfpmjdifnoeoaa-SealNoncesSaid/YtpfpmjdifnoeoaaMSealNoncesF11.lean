import Derived.Test.YtpfpmjdifnoeoaaMSealNoncesF0
import Derived.Test.YtpfpmjdifnoeoaaMSealNoncesF56
import Derived.Test.YtpfpmjdifnoeoaaMSealNoncesF57
import Derived.Test.YtpfpmjdifnoeoaaMSealNoncesF63
namespace Go.Proofs.Ytpfpmjdifnoeoaa.F
open Go.RowKit Go.Proofs.YtpfpmjdifnoeoaaW.PrintWords Go.Proofs.YtpfpmjdifnoeoaaW.PrintLast Go.Proofs.YtpfpmjdifnoeoaaW.PrintMore
attribute [local go_sem] max2_int min2_int max_two min_two max_three min_three max_four min_four
set_option linter.unusedVariables false
set_option linter.unusedSimpArgs false
mutual
def gemotlaw17_SealNonces.l0 : Nat → Int → List ByteArray → Int → Option (Bool)
  | 0, _, _, _ => none
  | k + 1, x0, x4, x5 => if x5 ≤ 8 then (gemotlaw17_SealNonces.l1 k x0 x4 x5 1) else ((gemotlaw17_of.f x0).bind fun bt1013 => ((seal_Nonce.f bt1013.1 bt1013.2.1 bt1013.2.2 9 1).bind fun bt1018 => ((gemotlaw17_of.f x0).bind fun bt1020 => ((seal_Nonce.f bt1020.1 bt1020.2.1 bt1020.2.2 1 33).bind fun bt1025 => (if (x4.length : Int) = 256 then (if bt1018.2 = 1 then (some (bt1025.2 == 1)) else (none)) else (none))))))
def gemotlaw17_SealNonces.l1 : Nat → Int → List ByteArray → Int → Int → Option (Bool)
  | 0, _, _, _, _ => none
  | k + 1, x0, x4, x5, x6 => if x6 ≤ 32 then ((gemotlaw17_of.f x0).bind fun bt1002 => ((seal_Nonce.f bt1002.1 bt1002.2.1 bt1002.2.2 x5 x6).bind fun bt1007 => (if bt1007.2 = 0 then (gemotlaw17_SealNonces.l2 k x0 x4 x5 x6 bt1007.1 0) else (none)))) else (gemotlaw17_SealNonces.l0 k x0 x4 (wrap64 (x5 + 1)))
def gemotlaw17_SealNonces.l2 : Nat → Int → List ByteArray → Int → Int → ByteArray → Int → Option (Bool)
  | 0, _, _, _, _, _, _ => none
  | k + 1, x0, x4, x5, x6, x7, x9 => if x9 < (x4.length : Int) then (if 0 ≤ x9 then (if (rdOf ByteArray.empty x4 x9).toList = x7.toList then (none) else (gemotlaw17_SealNonces.l2 k x0 x4 x5 x6 x7 (wrap64 (x9 + 1)))) else (none)) else (if x4.length < 8796093022208 then (gemotlaw17_SealNonces.l1 k x0 (x4 ++ [x7]) x5 (wrap64 (x6 + 1))) else (none))
end
def gemotlaw17_SealNonces.f (k : Nat) (a0 : Int) : Option (Bool) := (gemotlaw17_shown.f).bind fun t1001 => (if t1001 = true then (gemotlaw17_SealNonces.l0 k a0 ([] : List ByteArray) 1) else (none))
set_option maxHeartbeats 8000000 in
set_option maxRecDepth 100000 in
theorem gemotlaw17_SealNonces.calls (k : Nat) (a0 : Int) (r : Bool) (w : World) (h : gemotlaw17_SealNonces.f k a0 = some r) :
    Calls Try.prog 11 #[.int .i64 a0] w fun e w' => e = .returned (.bool r) ∧ Below w.heap.size w w' := by
  have HB := Aside0.mk (Below.refl w.heap.size w)
  have H : ((gemotlaw17_shown.f).bind fun t1001 => (if t1001 = true then (gemotlaw17_SealNonces.l0 k a0 ([] : List ByteArray) 1) else (none))) = some r := h
  clear h; replace H := Option.bind_eq_some_iff.mp H
  obtain ⟨t1001, A20, H⟩ := H; replace H : (if t1001 = true then (gemotlaw17_SealNonces.l0 k a0 ([] : List ByteArray) 1) else (none)) = some r := H
  have A2 := Aside0.mk A20
  clear A20; by_cases c3 : t1001 = true
  · subst c3; have H1 : (gemotlaw17_SealNonces.l0 k a0 ([] : List ByteArray) 1) = some r := by rw [if_pos rfl] at H; exact H
    clear H; have H := H1; clear H1; have H' := Aside0.mk H
    clear H; go_enter Try.func11, Try.ntmps11
    go_wp2_with (first | ((with_reducible refine gate_callee (f := 56) rfl ?_); refine goesL_ (some 14) rfl rfl Try.func56 (by kernel_rfl) rfl #[] rfl (by simp only [List.map_toArray, List.map_cons, List.map_nil] <;> rfl) ?_; (with_reducible refine (gemotlaw17_shown.calls  true _ A2.out).mono ?_); rintro e w4 ⟨rfl, hb⟩; refine ⟨_, rfl, ?_⟩; have n0_ := Aside0.mk (below_step (by repeat with_reducible first | exact HB.out | apply below_alloc | apply pw_below_drewN | apply below_drew1) hb); clear HB; have HB := n0_; clear n0_; (try clear hb)))
    go_loopg [4, 5] k (fun kq v4 v5 w' => ∃ (x4_1 : List ByteArray) (x5_1 : Int), v5 = .int .i64 x5_1 ∧ Aside0 (gemotlaw17_SealNonces.l0 kq a0 x4_1 x5_1 = some r) ∧ Aside0 (kq ≤ k) ∧ Aside0 (Kd.R Kd.string 23 w' w.heap.size (fun _ => True) v4 x4_1) ∧ Aside0 (Below w.heap.size w w'))
    case atStart => exact ⟨(([] : List ByteArray)), (1), (by first | rfl | (simp; done) | (simp [*]; done)), H', ⟨Nat.le_refl _⟩, ⟨by first | exact Kd.R_nil _ _ _ _ _ | exact Kd.N_nil _ _ _ _ _ | exact Kd.V_nil _ _ _ _ _ | exact Kd.Q_nil _ _ _ _ _ | exact Kd.S_nil _ _ _ _ _⟩, ⟨by repeat (first | (with_reducible first | exact HB.out | apply below_alloc | apply pw_below_drewN | apply below_drew1) | exact HB.out)⟩⟩
    case round =>
      clear H'; try clear c1
      try clear p2
      try clear c3
      obtain ⟨x4_1, x5_1, rfl, HA, HK1, HO_4, HB⟩ := hrel; cases gk with
      | zero => exact absurd HA.out (by simp [gemotlaw17_SealNonces.l0])
      | succ k1 =>
        have H := HA.out; clear HA; simp only [gemotlaw17_SealNonces.l0] at H; by_cases c5 : x5_1 ≤ 8
        · rw [if_pos c5] at H
          have c5b0 : decide (x5_1 ≤ 8) = true := decide_eq_true c5
          clear c5; have H' := Aside0.mk H
          clear H; go_wp2; go_loopg [4, 6] k1 (fun kq v4 v6 w' => ∃ (x4_2 : List ByteArray) (x6_2 : Int), v6 = .int .i64 x6_2 ∧ Aside0 (gemotlaw17_SealNonces.l1 kq a0 x4_2 x5_1 x6_2 = some r) ∧ Aside0 (kq ≤ k1) ∧ Aside0 (Kd.R Kd.string 23 w' w.heap.size (fun _ => True) v4 x4_2) ∧ Aside0 (Below w.heap.size w w'))
          case atStart => exact ⟨(x4_1), (1), (by first | rfl | (simp; done) | (simp [*]; done)), H', ⟨Nat.le_refl _⟩, ⟨by (with_reducible repeat (first | apply Kd.R_alloc | apply Kd.R_drewN | apply Kd.R_drew)); exact HO_4.out⟩, ⟨by repeat (first | (with_reducible first | exact HB.out | apply below_alloc | apply pw_below_drewN | apply below_drew1) | exact HB.out)⟩⟩
          case round =>
            clear H'; try clear c1
            try clear p2
            try clear c3
            try clear c5
            try clear c5b0
            try clear p2
            obtain ⟨x4_2, x6_2, rfl, HA, HK2, HO_4, HB⟩ := hrel; cases gk with
            | zero => exact absurd HA.out (by simp [gemotlaw17_SealNonces.l1])
            | succ k2 =>
              have H := HA.out; clear HA; simp only [gemotlaw17_SealNonces.l1] at H; by_cases c6 : x6_2 ≤ 32
              · rw [if_pos c6] at H
                have c6b0 : decide (x6_2 ≤ 32) = true := decide_eq_true c6
                clear c6; replace H := Option.bind_eq_some_iff.mp H
                obtain ⟨⟨t1002, t1003, t1004⟩, A70, H⟩ := H
                replace H : ((seal_Nonce.f t1002 t1003 t1004 x5_1 x6_2).bind fun bt1007 => (if bt1007.2 = 0 then (gemotlaw17_SealNonces.l2 k2 a0 x4_2 x5_1 x6_2 bt1007.1 0) else (none))) = some r := H
                have A7 := Aside0.mk A70
                clear A70; replace H := Option.bind_eq_some_iff.mp H
                obtain ⟨⟨t1007, t1008⟩, A80, H⟩ := H
                replace H : (if t1008 = 0 then (gemotlaw17_SealNonces.l2 k2 a0 x4_2 x5_1 x6_2 t1007 0) else (none)) = some r := H
                have A8 := Aside0.mk A80
                clear A80; by_cases c9 : t1008 = 0
                · rw [if_pos c9] at H
                  have c9b0 : (t1008 == 0) = true := beq_iff_eq.mpr c9
                  have c9b1 : (t1008 != 0) = false := bne_eq_false_iff_eq.mpr c9
                  clear c9; have H' := Aside0.mk H
                  clear H; go_wp2_with (first | ((with_reducible refine gate_callee (f := 63) rfl ?_); refine goesL_ (some 27) rfl rfl Try.func63 (by kernel_rfl) rfl #[.int .i64 a0] rfl (by simp only [List.map_toArray, List.map_cons, List.map_nil] <;> rfl) ?_; (with_reducible refine (gemotlaw17_of.calls a0 t1002 t1003 t1004 _ A7.out).mono ?_); rintro e w10 ⟨v1005, rfl, ho0, hb⟩; refine ⟨_, rfl, ?_⟩; have n0_ := Aside0.mk (Kd.R_below (by (with_reducible repeat (first | apply Kd.R_alloc | apply Kd.R_drewN | apply Kd.R_drew)); exact HO_4.out) hb); have n1_ := Aside0.mk (Kd.V_lower (Kd.V_mono (ok' := fun k_ => some k_ ≠ (u4 : Value).ownBlock) ho0 (fun k_ hk_ => (Kd.fresh' (Kd.R_lt (by (with_reducible repeat (first | apply Kd.R_alloc | apply Kd.R_drewN | apply Kd.R_drew)); exact HO_4.out)) k_ hk_))) (below_size (by repeat with_reducible first | exact HB.out | apply below_alloc | apply pw_below_drewN | apply below_drew1))); have n2_ := Aside0.mk (below_step (by repeat with_reducible first | exact HB.out | apply below_alloc | apply pw_below_drewN | apply below_drew1) hb); clear HO_4; clear HB; have HO_4 := n0_; have HO1006 := n1_; have HB := n2_; clear n0_ n1_ n2_; (try clear hb); (try clear ho0); obtain ⟨Ao11, co11, eo11⟩ := Kd.V_slice HO1006.out; subst eo11) | ((with_reducible refine gate_callee (f := 57) rfl ?_); refine goesL_ (some 30) rfl rfl Try.func57 (by kernel_rfl) rfl #[.agg #[.int .i64 t1002, .int .i64 t1003, .slice Ao11 t1004.length co11], .int .i64 x5_1, .int .i64 x6_2] rfl (by (try simp only [List.map_toArray, List.map_cons, List.map_nil]); first | done | rfl | (simp only [List.length_drop, List.length_take]; rfl)) ?_; (with_reducible refine (seal_Nonce.calls t1002 t1003 _ _ t1004 x5_1 x6_2 t1007 t1008 _ ?side1 ?side2 A8.out).mono ?_); (case side1 => repeat (first | exact (Kd.V_reads' HO1006.out).2.2 | (with_reducible refine Kd.C_alloc ?_ _) | (with_reducible refine Kd.C_drewN ?_ _) | (with_reducible refine Kd.C_drew ?_))); (case side2 => exact (Kd.V_reads' HO1006.out).2.1); rintro e w12 ⟨rfl, hb⟩; refine ⟨_, rfl, ?_⟩; have n0_ := Aside0.mk (Kd.R_below (by (with_reducible repeat (first | apply Kd.R_alloc | apply Kd.R_drewN | apply Kd.R_drew)); exact HO_4.out) hb); have n1_ := Aside0.mk (Kd.V_below (by (with_reducible repeat (first | apply Kd.V_alloc | apply Kd.V_drewN | apply Kd.V_drew)); exact HO1006.out) hb); have n2_ := Aside0.mk (below_step (by repeat with_reducible first | exact HB.out | apply below_alloc | apply pw_below_drewN | apply below_drew1) hb); clear HO_4; clear HO1006; clear HB; have HO_4 := n0_; have HO1006 := n1_; have HB := n2_; clear n0_ n1_ n2_; (try clear hb)))
                  go_loopg [9] k2 (fun kq v9 w' => ∃ (x9_3 : Int), v9 = .int .i64 x9_3 ∧ Aside0 (gemotlaw17_SealNonces.l2 kq a0 x4_2 x5_1 x6_2 t1007 x9_3 = some r) ∧ Aside0 (kq ≤ k2) ∧ Aside0 (Kd.R Kd.string 23 w' w.heap.size (fun _ => True) u4 x4_2) ∧ Aside0 (Below w.heap.size w w'))
                  case atStart => exact ⟨(0), (by first | rfl | (simp; done) | (simp [*]; done)), H', ⟨Nat.le_refl _⟩, ⟨by (with_reducible repeat (first | apply Kd.R_alloc | apply Kd.R_drewN | apply Kd.R_drew)); exact HO_4.out⟩, ⟨by repeat (first | (with_reducible first | exact HB.out | apply below_alloc | apply pw_below_drewN | apply below_drew1) | exact HB.out)⟩⟩
                  case round =>
                    clear H'; try clear c1
                    try clear p2
                    try clear c3
                    try clear c5
                    try clear c5b0
                    try clear c6
                    try clear c6b0
                    try clear c9
                    try clear c9b0
                    try clear c9b1
                    try clear c11
                    try clear p2
                    obtain ⟨x9_3, rfl, HA, HK3, HO_4, HB⟩ := hrel; cases gk with
                    | zero => exact absurd HA.out (by simp [gemotlaw17_SealNonces.l2])
                    | succ k3 =>
                      have H := HA.out; clear HA; simp only [gemotlaw17_SealNonces.l2] at H; by_cases c13 : x9_3 < (x4_2.length : Int)
                      · rw [if_pos c13] at H
                        have c13b0 : decide (x9_3 < (x4_2.length : Int)) = true := decide_eq_true c13
                        clear c13; by_cases c14 : 0 ≤ x9_3
                        · rw [if_pos c14] at H
                          have c14b0 : decide (0 ≤ x9_3) = true := decide_eq_true c14
                          clear c14; by_cases c15 : (rdOf ByteArray.empty x4_2 x9_3).toList = t1007.toList
                          · rw [if_pos c15] at H
                            exact absurd H (by simp)
                          · rw [if_neg c15] at H
                            have c15b0 : ((rdOf ByteArray.empty x4_2 x9_3).toList == t1007.toList) = false := beq_eq_false_iff_ne.mpr c15
                            have c15b1 : ((rdOf ByteArray.empty x4_2 x9_3).toList != t1007.toList) = true := bne_iff_ne.mpr c15
                            have H' := Aside0.mk H
                            clear H; obtain ⟨Ao17, co17, eo17⟩ := Kd.R_slice HO_4.out; subst eo17; have p1009 : 0 ≤ (x9_3 : Int) := of_decide_eq_true (by first | (with_reducible assumption) | assumption)
                            have q1009 : x9_3 < (x4_2.length : Int) := of_decide_eq_true (by first | (with_reducible assumption) | assumption)
                            obtain ⟨ad1009, e1009, hx1009_0⟩ := Kd.at_string (Kd.R_reads' HO_4.out).2.2 x9_3 p1009 q1009
                            cases e1009
                            replace p1009 := eq_true p1009
                            replace q1009 := eq_true q1009
                            go_wp2; go_roundg k3
                            case measure => have := HK1.out; have := HK2.out; have := HK3.out; omega
                            case rel => exact ⟨(wrap64 (x9_3 + 1)), (by first | rfl | (simp; done) | (simp [*]; done)), H', ⟨by have := HK1.out; have := HK2.out; have := HK3.out; omega⟩, ⟨by (with_reducible repeat (first | apply Kd.R_alloc | apply Kd.R_drewN | apply Kd.R_drew)); exact HO_4.out⟩, ⟨by repeat (first | (with_reducible first | exact HB.out | apply below_alloc | apply pw_below_drewN | apply below_drew1) | exact HB.out)⟩⟩
                        · rw [if_neg c14] at H
                          exact absurd H (by simp)
                      · rw [if_neg c13] at H
                        have c13b0 : decide (x9_3 < (x4_2.length : Int)) = false := decide_eq_false c13
                        clear c13; by_cases c18 : x4_2.length < 8796093022208
                        · rw [if_pos c18] at H
                          have LMc18 := Aside0.mk c18
                          clear c18; obtain ⟨y1010, hy1010⟩ : ∃ y_ : List ByteArray, y_ = (x4_2 ++ [t1007]) := ⟨_, rfl⟩
                          replace H : (gemotlaw17_SealNonces.l1 k3 a0 y1010 x5_1 (wrap64 (x6_2 + 1))) = some r := by first | (rw [hy1010]; with_reducible exact H) | (have H2_ := (Option.bind_some _ _).symm.trans H; rw [hy1010]; with_reducible exact H2_) | (have H2_ := (Option.bind_some _ _).symm.trans H; with_reducible exact H2_) | with_reducible exact H | (rw [hy1010]; exact H) | exact H
                          have Ny1010 := Aside0.mk hy1010
                          clear hy1010; have H' := Aside0.mk H
                          clear H; obtain ⟨Ao19, co19, eo19⟩ := Kd.R_slice HO_4.out; subst eo19; go_wp2_with (first | ((with_reducible refine gate_builtin (b := .append) (xs := #[.tmp 47, .tmp 49]) rfl ?_); at_builtin; refine Kd.R_append Kd.string (w0 := w) w.heap.size rfl (.tmp 47) (.tmp 49) 37 23 (.string ⟨#[]⟩) 16 rfl Try.underlying37 info23 rfl (by decide) (by omega) (.slice Ao19 x4_2.length co19) x4_2 t1007 [.string t1007] (fun _ => True) (fun _ => False) rfl rfl ?aP (fun _ hk => hk.elim) ?aF ?aO ?aB ?aS ?aL ?_; (case aP => exact rfl); (case aB => exact (by repeat with_reducible first | exact HB.out | apply below_alloc | apply pw_below_drewN | apply below_drew1)); (case aF => exact (fun _ _ => trivial)); (case aO => exact (by (with_reducible repeat (first | apply Kd.R_alloc | apply Kd.R_drewN | apply Kd.R_drew)); exact HO_4.out)); (case aS => exact (below_size (by repeat with_reducible first | exact HB.out | apply below_alloc | apply pw_below_drewN | apply below_drew1))); (case aL => have := LMc18.out; omega); intro v1011 w20 ho hb hg hat; rw [← Ny1010.out] at ho; have n0_ := Aside0.mk (hb); have n1_ := Aside0.mk (ho); clear HB; clear HO_4; have HB := n0_; have HO1012 := n1_; clear n0_ n1_; clear ho hb hg hat))
                          go_roundg k3
                          case measure => have := HK1.out; have := HK2.out; have := HK3.out; omega
                          case rel => exact ⟨(y1010), (wrap64 (x6_2 + 1)), (by first | rfl | (simp; done) | (simp [*]; done)), H', ⟨by have := HK1.out; have := HK2.out; have := HK3.out; omega⟩, ⟨by (with_reducible repeat (first | apply Kd.R_alloc | apply Kd.R_drewN | apply Kd.R_drew)); exact HO1012.out⟩, ⟨by repeat (first | (with_reducible first | exact HB.out | apply below_alloc | apply pw_below_drewN | apply below_drew1) | exact HB.out)⟩⟩
                        · rw [if_neg c18] at H
                          exact absurd H (by simp)
                · rw [if_neg c9] at H
                  exact absurd H (by simp)
              · rw [if_neg c6] at H
                have c6b0 : decide (x6_2 ≤ 32) = false := decide_eq_false c6
                clear c6; have H' := Aside0.mk H
                clear H; go_wp2; go_roundg k2
                case measure => have := HK1.out; have := HK2.out; omega
                case rel => exact ⟨(x4_2), (wrap64 (x5_1 + 1)), (by first | rfl | (simp; done) | (simp [*]; done)), H', ⟨by have := HK1.out; have := HK2.out; omega⟩, ⟨by (with_reducible repeat (first | apply Kd.R_alloc | apply Kd.R_drewN | apply Kd.R_drew)); exact HO_4.out⟩, ⟨by repeat (first | (with_reducible first | exact HB.out | apply below_alloc | apply pw_below_drewN | apply below_drew1) | exact HB.out)⟩⟩
        · rw [if_neg c5] at H
          have c5b0 : decide (x5_1 ≤ 8) = false := decide_eq_false c5
          clear c5; replace H := Option.bind_eq_some_iff.mp H
          obtain ⟨⟨t1013, t1014, t1015⟩, A240, H⟩ := H
          replace H : ((seal_Nonce.f t1013 t1014 t1015 9 1).bind fun bt1018 => ((gemotlaw17_of.f a0).bind fun bt1020 => ((seal_Nonce.f bt1020.1 bt1020.2.1 bt1020.2.2 1 33).bind fun bt1025 => (if (x4_1.length : Int) = 256 then (if bt1018.2 = 1 then (some (bt1025.2 == 1)) else (none)) else (none))))) = some r := H
          have A24 := Aside0.mk A240
          clear A240; replace H := Option.bind_eq_some_iff.mp H
          obtain ⟨⟨t1018, t1019⟩, A250, H⟩ := H
          replace H : ((gemotlaw17_of.f a0).bind fun bt1020 => ((seal_Nonce.f bt1020.1 bt1020.2.1 bt1020.2.2 1 33).bind fun bt1025 => (if (x4_1.length : Int) = 256 then (if t1019 = 1 then (some (bt1025.2 == 1)) else (none)) else (none)))) = some r := H
          have A25 := Aside0.mk A250
          clear A250; replace H := Option.bind_eq_some_iff.mp H
          obtain ⟨⟨t1020, t1021, t1022⟩, A260, H⟩ := H
          replace H : ((seal_Nonce.f t1020 t1021 t1022 1 33).bind fun bt1025 => (if (x4_1.length : Int) = 256 then (if t1019 = 1 then (some (bt1025.2 == 1)) else (none)) else (none))) = some r := H
          have A26 := Aside0.mk A260
          clear A260; replace H := Option.bind_eq_some_iff.mp H
          obtain ⟨⟨t1025, t1026⟩, A270, H⟩ := H
          replace H : (if (x4_1.length : Int) = 256 then (if t1019 = 1 then (some (t1026 == 1)) else (none)) else (none)) = some r := H
          have A27 := Aside0.mk A270
          clear A270; by_cases c28 : (x4_1.length : Int) = 256
          · rw [if_pos c28] at H
            have c28b0 : ((x4_1.length : Int) == 256) = true := beq_iff_eq.mpr c28
            have c28b1 : ((x4_1.length : Int) != 256) = false := bne_eq_false_iff_eq.mpr c28
            clear c28; by_cases c29 : t1019 = 1
            · rw [if_pos c29] at H
              have c29b0 : (t1019 == 1) = true := beq_iff_eq.mpr c29
              have c29b1 : (t1019 != 1) = false := bne_eq_false_iff_eq.mpr c29
              clear c29; obtain rfl := Option.some.inj H
              obtain ⟨rfl, rfl, rfl⟩ : t1013 = t1020 ∧ t1014 = t1021 ∧ t1015 = t1022 := by simpa using Option.some.inj (A24.out.symm.trans A26.out)
              go_wp2_with (first | ((with_reducible refine gate_callee (f := 63) rfl ?_); refine goesL_ (some 53) rfl rfl Try.func63 (by kernel_rfl) rfl #[.int .i64 a0] rfl (by simp only [List.map_toArray, List.map_cons, List.map_nil] <;> rfl) ?_; (with_reducible refine (gemotlaw17_of.calls a0 t1013 t1014 t1015 _ A24.out).mono ?_); rintro e w30 ⟨v1016, rfl, ho0, hb⟩; refine ⟨_, rfl, ?_⟩; have n0_ := Aside0.mk (Kd.R_below (by (with_reducible repeat (first | apply Kd.R_alloc | apply Kd.R_drewN | apply Kd.R_drew)); exact HO_4.out) hb); have n1_ := Aside0.mk (Kd.V_lower (Kd.V_mono (ok' := fun k_ => some k_ ≠ (u4 : Value).ownBlock) ho0 (fun k_ hk_ => (Kd.fresh' (Kd.R_lt (by (with_reducible repeat (first | apply Kd.R_alloc | apply Kd.R_drewN | apply Kd.R_drew)); exact HO_4.out)) k_ hk_))) (below_size (by repeat with_reducible first | exact HB.out | apply below_alloc | apply pw_below_drewN | apply below_drew1))); have n2_ := Aside0.mk (below_step (by repeat with_reducible first | exact HB.out | apply below_alloc | apply pw_below_drewN | apply below_drew1) hb); clear HO_4; clear HB; have HO_4 := n0_; have HO1017 := n1_; have HB := n2_; clear n0_ n1_ n2_; (try clear hb); (try clear ho0); obtain ⟨Ao31, co31, eo31⟩ := Kd.V_slice HO1017.out; subst eo31) | ((with_reducible refine gate_callee (f := 57) rfl ?_); refine goesL_ (some 54) rfl rfl Try.func57 (by kernel_rfl) rfl #[.agg #[.int .i64 t1013, .int .i64 t1014, .slice Ao31 t1015.length co31], .int .i64 9, .int .i64 1] rfl (by (try simp only [List.map_toArray, List.map_cons, List.map_nil]); first | done | rfl | (simp only [List.length_drop, List.length_take]; rfl)) ?_; (with_reducible refine (seal_Nonce.calls t1013 t1014 _ _ t1015 9 1 t1018 t1019 _ ?side1 ?side2 A25.out).mono ?_); (case side1 => repeat (first | exact (Kd.V_reads' HO1017.out).2.2 | (with_reducible refine Kd.C_alloc ?_ _) | (with_reducible refine Kd.C_drewN ?_ _) | (with_reducible refine Kd.C_drew ?_))); (case side2 => exact (Kd.V_reads' HO1017.out).2.1); rintro e w32 ⟨rfl, hb⟩; refine ⟨_, rfl, ?_⟩; have n0_ := Aside0.mk (Kd.R_below (by (with_reducible repeat (first | apply Kd.R_alloc | apply Kd.R_drewN | apply Kd.R_drew)); exact HO_4.out) hb); have n1_ := Aside0.mk (Kd.V_below (by (with_reducible repeat (first | apply Kd.V_alloc | apply Kd.V_drewN | apply Kd.V_drew)); exact HO1017.out) hb); have n2_ := Aside0.mk (below_step (by repeat with_reducible first | exact HB.out | apply below_alloc | apply pw_below_drewN | apply below_drew1) hb); clear HO_4; clear HO1017; clear HB; have HO_4 := n0_; have HO1017 := n1_; have HB := n2_; clear n0_ n1_ n2_; (try clear hb)) | ((with_reducible refine gate_callee (f := 63) rfl ?_); refine goesL_ (some 59) rfl rfl Try.func63 (by kernel_rfl) rfl #[.int .i64 a0] rfl (by simp only [List.map_toArray, List.map_cons, List.map_nil] <;> rfl) ?_; (with_reducible refine (gemotlaw17_of.calls a0 t1013 t1014 t1015 _ A26.out).mono ?_); rintro e w33 ⟨v1023, rfl, ho0, hb⟩; refine ⟨_, rfl, ?_⟩; have n0_ := Aside0.mk (Kd.R_below (by (with_reducible repeat (first | apply Kd.R_alloc | apply Kd.R_drewN | apply Kd.R_drew)); exact HO_4.out) hb); have n1_ := Aside0.mk (Kd.V_below (by (with_reducible repeat (first | apply Kd.V_alloc | apply Kd.V_drewN | apply Kd.V_drew)); exact HO1017.out) hb); have n2_ := Aside0.mk (Kd.V_lower (Kd.V_mono (ok' := fun k_ => some k_ ≠ (u4 : Value).ownBlock) ho0 (fun k_ hk_ => (Kd.fresh' (Kd.R_lt (by (with_reducible repeat (first | apply Kd.R_alloc | apply Kd.R_drewN | apply Kd.R_drew)); exact HO_4.out)) k_ hk_))) (below_size (by repeat with_reducible first | exact HB.out | apply below_alloc | apply pw_below_drewN | apply below_drew1))); have n3_ := Aside0.mk (below_step (by repeat with_reducible first | exact HB.out | apply below_alloc | apply pw_below_drewN | apply below_drew1) hb); clear HO_4; clear HO1017; clear HB; have HO_4 := n0_; have HO1017 := n1_; have HO1024 := n2_; have HB := n3_; clear n0_ n1_ n2_ n3_; (try clear hb); (try clear ho0); obtain ⟨Ao34, co34, eo34⟩ := Kd.V_slice HO1024.out; subst eo34) | ((with_reducible refine gate_callee (f := 57) rfl ?_); refine goesL_ (some 60) rfl rfl Try.func57 (by kernel_rfl) rfl #[.agg #[.int .i64 t1013, .int .i64 t1014, .slice Ao34 t1015.length co34], .int .i64 1, .int .i64 33] rfl (by (try simp only [List.map_toArray, List.map_cons, List.map_nil]); first | done | rfl | (simp only [List.length_drop, List.length_take]; rfl)) ?_; (with_reducible refine (seal_Nonce.calls t1013 t1014 _ _ t1015 1 33 t1025 t1026 _ ?side1 ?side2 A27.out).mono ?_); (case side1 => repeat (first | exact (Kd.V_reads' HO1024.out).2.2 | (with_reducible refine Kd.C_alloc ?_ _) | (with_reducible refine Kd.C_drewN ?_ _) | (with_reducible refine Kd.C_drew ?_))); (case side2 => exact (Kd.V_reads' HO1024.out).2.1); rintro e w35 ⟨rfl, hb⟩; refine ⟨_, rfl, ?_⟩; have n0_ := Aside0.mk (Kd.R_below (by (with_reducible repeat (first | apply Kd.R_alloc | apply Kd.R_drewN | apply Kd.R_drew)); exact HO_4.out) hb); have n1_ := Aside0.mk (Kd.V_below (by (with_reducible repeat (first | apply Kd.V_alloc | apply Kd.V_drewN | apply Kd.V_drew)); exact HO1017.out) hb); have n2_ := Aside0.mk (Kd.V_below (by (with_reducible repeat (first | apply Kd.V_alloc | apply Kd.V_drewN | apply Kd.V_drew)); exact HO1024.out) hb); have n3_ := Aside0.mk (below_step (by repeat with_reducible first | exact HB.out | apply below_alloc | apply pw_below_drewN | apply below_drew1) hb); clear HO_4; clear HO1017; clear HO1024; clear HB; have HO_4 := n0_; have HO1017 := n1_; have HO1024 := n2_; have HB := n3_; clear n0_ n1_ n2_ n3_; (try clear hb); obtain ⟨Ao36, co36, eo36⟩ := Kd.R_slice HO_4.out; subst eo36))
              go_ret
              exact ⟨by first | rfl | (simp [errW_none, errW_some] <;> rfl) | (simp [*, errW_none, errW_some] <;> rfl), by repeat (first | (with_reducible first | exact HB.out | apply below_alloc | apply pw_below_drewN | apply below_drew1) | exact HB.out)⟩
            · rw [if_neg c29] at H
              exact absurd H (by simp)
          · rw [if_neg c28] at H
            exact absurd H (by simp)
  · replace c3 := Bool.eq_false_iff.mpr c3
    subst c3; have H1 : (none) = some r := by rw [if_neg (show ¬ (false = true) by decide)] at H; exact H
    exact absurd H1 (by simp)
end Go.Proofs.Ytpfpmjdifnoeoaa.F
