import Derived.Test.YtpfpmjdifnoeoaaMSealApartF0
import Derived.Test.YtpfpmjdifnoeoaaMSealApartF118
import Derived.Test.YtpfpmjdifnoeoaaMSealApartF119
import Derived.Test.YtpfpmjdifnoeoaaMSealApartF43
import Derived.Test.YtpfpmjdifnoeoaaMSealApartF46
import Derived.Test.YtpfpmjdifnoeoaaMSealApartB1
import Derived.Test.YtpfpmjdifnoeoaaMSealApartB2
namespace Go.Proofs.Ytpfpmjdifnoeoaa.F
open Go.RowKit Go.Proofs.YtpfpmjdifnoeoaaW.PrintWords Go.Proofs.YtpfpmjdifnoeoaaW.PrintLast Go.Proofs.YtpfpmjdifnoeoaaW.PrintMore
attribute [local go_sem] max2_int min2_int max_two min_two max_three min_three max_four min_four
set_option linter.unusedVariables false
set_option linter.unusedSimpArgs false
def seal_Nonce_p.j0 : Nat → Int → Int → ByteArray → Bool → Option (ByteArray × Int)
  | 0, _, _, _, _ => none
  | k + 1, x1, x2, x8, x32 => if x32 = true then (some ((⟨#[]⟩ : ByteArray), 1)) else ((term_Number.f (IntKind.u64.wrap (x1))).bind fun t1005 => ((term_Number.f (IntKind.u64.wrap (x2))).bind fun t1006 => ((term_Pair.f t1005 t1006).bind fun bt1007 => (if bt1007.2 = 0 then ((term_Pair.f x8 bt1007.1).bind fun bt1009 => (some (bt1009.1, bt1009.2))) else (some ((⟨#[]⟩ : ByteArray), bt1007.2))))))
def seal_Nonce_p.f (k : Nat) (a0_0 : Int) (a0_1 : Int) (l0_2 : List Int) (a1 : Int) (a2 : Int) : Option (ByteArray × Int) := (view_Term.f a0_0 a0_1 l0_2).bind fun bt1002 => (if bt1002.2 = 0 then ((view_Has.f l0_2 a1).bind fun t1004 => (if t1004 = true then (if a2 < 1 then (seal_Nonce_p.j0 k a1 a2 bt1002.1 true) else (seal_Nonce_p.j0 k a1 a2 bt1002.1 (decide (a2 > 32)))) else (seal_Nonce_p.j0 k a1 a2 bt1002.1 true))) else (seal_Nonce_p.j0 k a1 a2 bt1002.1 true))
set_option maxHeartbeats 8000000 in
set_option maxRecDepth 100000 in
theorem seal_Nonce_p.calls (k : Nat) (a0_0 : Int) (a0_1 : Int) (A0_2 : Option Addr) (c0_2 : Nat) (l0_2 : List Int) (a1 : Int) (a2 : Int) (r1 : ByteArray) (r2 : Int) (w : World) (hr0_2 : Kd.C (Kd.int .i64) w A0_2 l0_2.length l0_2) (hc0_2 : l0_2.length ≤ c0_2) (h : seal_Nonce_p.f k a0_0 a0_1 l0_2 a1 a2 = some (r1, r2)) :
    Calls Try.prog 57 #[.agg #[.int .i64 a0_0, .int .i64 a0_1, .slice A0_2 l0_2.length c0_2], .int .i64 a1, .int .i64 a2] w fun e w' => e = .returned (.tuple #[.string r1, .int .i64 r2]) ∧ Below w.heap.size w w' := by
  have hu65 := Try.underlying65; have HR0_2 := Aside0.mk hr0_2
  have HC0_2 := Aside0.mk hc0_2
  clear hr0_2 hc0_2; have HB := Aside0.mk (Below.refl w.heap.size w)
  have H : ((view_Term.f a0_0 a0_1 l0_2).bind fun bt1002 => (if bt1002.2 = 0 then ((view_Has.f l0_2 a1).bind fun t1004 => (if t1004 = true then (if a2 < 1 then (seal_Nonce_p.j0 k a1 a2 bt1002.1 true) else (seal_Nonce_p.j0 k a1 a2 bt1002.1 (decide (a2 > 32)))) else (seal_Nonce_p.j0 k a1 a2 bt1002.1 true))) else (seal_Nonce_p.j0 k a1 a2 bt1002.1 true))) = some (r1, r2) := h
  clear h; replace H := Option.bind_eq_some_iff.mp H
  obtain ⟨⟨t1002, t1003⟩, A40, H⟩ := H
  replace H : (if t1003 = 0 then ((view_Has.f l0_2 a1).bind fun t1004 => (if t1004 = true then (if a2 < 1 then (seal_Nonce_p.j0 k a1 a2 t1002 true) else (seal_Nonce_p.j0 k a1 a2 t1002 (decide (a2 > 32)))) else (seal_Nonce_p.j0 k a1 a2 t1002 true))) else (seal_Nonce_p.j0 k a1 a2 t1002 true)) = some (r1, r2) := H
  have A4 := Aside0.mk A40
  clear A40; have HC5 := Aside0.mk H
  clear H; go_enter Try.func57, Try.ntmps57
  go_upto_region 2 with (first | ((with_reducible refine gate_dst (N := 3) rfl ?_); refine box_event ?hg (N := 3) ?hd (cs := #[.int .i64 a0_0, .int .i64 a0_1, .slice A0_2 l0_2.length c0_2]) (t := 65) ?hr ?_; (case hd => rfl); (case hg => rfl); (case hr => first | (go_simp; done) | (go_simp; rfl)); intro gb1001 hg w6 hbox hb; have n0_ := Aside0.mk (below_step (by repeat with_reducible first | exact HB.out | apply below_alloc | apply pw_below_drewN | apply below_drew1) hb); have n1_ := Aside0.mk (hbox); have n2_ := Aside0.mk ((by rw [hg]; exact (below_size (by repeat with_reducible first | exact HB.out | apply below_alloc | apply pw_below_drewN | apply below_drew1)) : w.heap.size ≤ gb1001)); have n3_ := Aside0.mk ((by rw [hg]; exact (below_size (by repeat with_reducible first | exact HB.out | apply below_alloc | apply pw_below_drewN | apply below_drew1)) : w.heap.size ≤ gb1001)); clear HB; have HB := n0_; have BK1001 := n1_; have GW1001 := n2_; have GE1001 := n3_; clear n0_ n1_ n2_ n3_; clear hb hbox hg; have hcz7_0 : w6.cell? ⟨gb1001, 0, none⟩ = some (.int .i64 a0_0) := (blk_cell BK1001.out 0).trans rfl; have hcz7_1 : w6.cell? ⟨gb1001, 1, none⟩ = some (.int .i64 a0_1) := (blk_cell BK1001.out 1).trans rfl; have hcz7_2 : w6.cell? ⟨gb1001, 2, none⟩ = some (.slice A0_2 l0_2.length c0_2) := (blk_cell BK1001.out 2).trans rfl; have hfz7_0 := blk_frozen BK1001.out 0; have hfz7_1 := blk_frozen BK1001.out 1; have hfz7_2 := blk_frozen BK1001.out 2) | ((with_reducible refine gate_callee (f := 118) rfl ?_); refine goesL_ (some 13) rfl rfl Try.func118 (by kernel_rfl) rfl #[.agg #[.int .i64 a0_0, .int .i64 a0_1, .slice A0_2 l0_2.length c0_2]] rfl (by (try simp only [List.map_toArray, List.map_cons, List.map_nil]); first | done | rfl | (simp only [List.length_drop, List.length_take]; rfl)) ?_; (with_reducible refine (view_Term.calls a0_0 a0_1 _ _ l0_2 t1002 t1003 _ ?side1 ?side2 A4.out).mono ?_); (case side1 => repeat (first | exact (Kd.C_below HR0_2.out HB.out) | (with_reducible refine Kd.C_alloc ?_ _) | (with_reducible refine Kd.C_drewN ?_ _) | (with_reducible refine Kd.C_drew ?_))); (case side2 => exact HC0_2.out); rintro e w8 ⟨rfl, hb⟩; refine ⟨_, rfl, ?_⟩; have n0_ := Aside0.mk (blk_below (g := gb1001) (o := .cells #[.int .i64 a0_0, .int .i64 a0_1, .slice A0_2 l0_2.length c0_2] 65 (0, 0)) (by (with_reducible repeat (first | refine blk_drewN ?_ _ | refine blk_drew ?_ | refine blk_alloc ?_ _)); exact BK1001.out) hb); have n1_ := Aside0.mk (below_step (by repeat (with_reducible first | exact HB.out | apply below_alloc | apply pw_below_drewN | apply below_drew1 | refine below_set ?_ GE1001.out)) hb); clear BK1001; clear HB; have BK1001 := n0_; have HB := n1_; clear n0_ n1_; (try clear hb)))
  (try simp only [Act.put, List.setIfInBounds_toArray, List.set_cons_zero, List.set_cons_succ]); go_cut [32] (fun v32 wc => ∃ (kq : Nat) (x32_4 : Bool), v32 = .bool x32_4 ∧ Aside0 (seal_Nonce_p.j0 kq a1 a2 t1002 x32_4 = some (r1, r2)) ∧ Aside0 (kq ≤ k) ∧ Aside0 (wc.heap[gb1001]? = some (.cells #[.int .i64 a0_0, .int .i64 a0_1, (.slice A0_2 l0_2.length c0_2)] 65 (0, 0))) ∧ Aside0 (Below w.heap.size w wc))
  case first =>
    have H := HC5.out; clear HC5; by_cases c9 : t1003 = 0
    · rw [if_pos c9] at H
      have c9b0 : (t1003 == 0) = true := beq_iff_eq.mpr c9
      have c9b1 : (t1003 != 0) = false := bne_eq_false_iff_eq.mpr c9
      clear c9; (first | rw [c9b0] | (simp only [i64_w, i32_w]; rw [c9b0]) | skip); replace H := Option.bind_eq_some_iff.mp H
      obtain ⟨t1004, A100, H⟩ := H; replace H : (if t1004 = true then (if a2 < 1 then (seal_Nonce_p.j0 k a1 a2 t1002 true) else (seal_Nonce_p.j0 k a1 a2 t1002 (decide (a2 > 32)))) else (seal_Nonce_p.j0 k a1 a2 t1002 true)) = some (r1, r2) := H
      have A10 := Aside0.mk A100
      clear A100; by_cases c11 : t1004 = true
      · subst c11; have H1 : (if a2 < 1 then (seal_Nonce_p.j0 k a1 a2 t1002 true) else (seal_Nonce_p.j0 k a1 a2 t1002 (decide (a2 > 32)))) = some (r1, r2) := by rw [if_pos rfl] at H; exact H
        clear H; have H := H1; clear H1; by_cases c12 : a2 < 1
        · rw [if_pos c12] at H
          have c12b0 : decide (a2 < 1) = true := decide_eq_true c12
          clear c12; have H' := Aside0.mk H
          clear H; have hcz13_0 : w8.cell? ⟨gb1001, 0, none⟩ = some (.int .i64 a0_0) := (blk_cell BK1001.out 0).trans rfl
          have hcz13_1 : w8.cell? ⟨gb1001, 1, none⟩ = some (.int .i64 a0_1) := (blk_cell BK1001.out 1).trans rfl
          have hcz13_2 : w8.cell? ⟨gb1001, 2, none⟩ = some (.slice A0_2 l0_2.length c0_2) := (blk_cell BK1001.out 2).trans rfl
          have hfz13_0 := blk_frozen BK1001.out 0; have hfz13_1 := blk_frozen BK1001.out 1; have hfz13_2 := blk_frozen BK1001.out 2; go_wp2_with (first | (go_at_call 119; (with_reducible refine (view_Has.calls _ _ l0_2 a1 true _ ?side1 ?side2 A10.out).mono ?_); (case side1 => repeat (first | exact (Kd.C_below HR0_2.out HB.out) | (with_reducible refine Kd.C_alloc ?_ _) | (with_reducible refine Kd.C_drewN ?_ _) | (with_reducible refine Kd.C_drew ?_))); (case side2 => exact HC0_2.out); rintro e w' ⟨rfl, ⟨nd, rfl⟩⟩))
          go_meet
          case rel => exact ⟨_, (true), (by first | rfl | (simp; done) | (simp [*]; done)), H', ⟨by first | omega | exact Nat.le_refl _⟩, ⟨by (with_reducible repeat (first | refine blk_drewN ?_ _ | refine blk_drew ?_ | refine blk_alloc ?_ _)); exact BK1001.out⟩, ⟨by repeat (first | (with_reducible first | exact HB.out | apply below_alloc | apply pw_below_drewN | apply below_drew1 | refine below_set ?_ GE1001.out) | exact HB.out)⟩⟩
        · rw [if_neg c12] at H
          have c12b0 : decide (a2 < 1) = false := decide_eq_false c12
          clear c12; have H' := Aside0.mk H
          clear H; have hcz14_0 : w8.cell? ⟨gb1001, 0, none⟩ = some (.int .i64 a0_0) := (blk_cell BK1001.out 0).trans rfl
          have hcz14_1 : w8.cell? ⟨gb1001, 1, none⟩ = some (.int .i64 a0_1) := (blk_cell BK1001.out 1).trans rfl
          have hcz14_2 : w8.cell? ⟨gb1001, 2, none⟩ = some (.slice A0_2 l0_2.length c0_2) := (blk_cell BK1001.out 2).trans rfl
          have hfz14_0 := blk_frozen BK1001.out 0; have hfz14_1 := blk_frozen BK1001.out 1; have hfz14_2 := blk_frozen BK1001.out 2; go_wp2_with (first | (go_at_call 119; (with_reducible refine (view_Has.calls _ _ l0_2 a1 true _ ?side1 ?side2 A10.out).mono ?_); (case side1 => repeat (first | exact (Kd.C_below HR0_2.out HB.out) | (with_reducible refine Kd.C_alloc ?_ _) | (with_reducible refine Kd.C_drewN ?_ _) | (with_reducible refine Kd.C_drew ?_))); (case side2 => exact HC0_2.out); rintro e w' ⟨rfl, ⟨nd, rfl⟩⟩))
          go_meet
          case rel => exact ⟨_, (decide (a2 > 32)), (by first | rfl | (simp; done) | (simp [*]; done)), H', ⟨by first | omega | exact Nat.le_refl _⟩, ⟨by (with_reducible repeat (first | refine blk_drewN ?_ _ | refine blk_drew ?_ | refine blk_alloc ?_ _)); exact BK1001.out⟩, ⟨by repeat (first | (with_reducible first | exact HB.out | apply below_alloc | apply pw_below_drewN | apply below_drew1 | refine below_set ?_ GE1001.out) | exact HB.out)⟩⟩
      · replace c11 := Bool.eq_false_iff.mpr c11
        subst c11; have H1 : (seal_Nonce_p.j0 k a1 a2 t1002 true) = some (r1, r2) := by rw [if_neg (show ¬ (false = true) by decide)] at H; exact H
        clear H; have H := H1; clear H1; have H' := Aside0.mk H
        clear H; have hcz15_0 : w8.cell? ⟨gb1001, 0, none⟩ = some (.int .i64 a0_0) := (blk_cell BK1001.out 0).trans rfl
        have hcz15_1 : w8.cell? ⟨gb1001, 1, none⟩ = some (.int .i64 a0_1) := (blk_cell BK1001.out 1).trans rfl
        have hcz15_2 : w8.cell? ⟨gb1001, 2, none⟩ = some (.slice A0_2 l0_2.length c0_2) := (blk_cell BK1001.out 2).trans rfl
        have hfz15_0 := blk_frozen BK1001.out 0; have hfz15_1 := blk_frozen BK1001.out 1; have hfz15_2 := blk_frozen BK1001.out 2; go_wp2_with (first | (go_at_call 119; (with_reducible refine (view_Has.calls _ _ l0_2 a1 false _ ?side1 ?side2 A10.out).mono ?_); (case side1 => repeat (first | exact (Kd.C_below HR0_2.out HB.out) | (with_reducible refine Kd.C_alloc ?_ _) | (with_reducible refine Kd.C_drewN ?_ _) | (with_reducible refine Kd.C_drew ?_))); (case side2 => exact HC0_2.out); rintro e w' ⟨rfl, ⟨nd, rfl⟩⟩))
        go_meet
        case rel => exact ⟨_, (true), (by first | rfl | (simp; done) | (simp [*]; done)), H', ⟨by first | omega | exact Nat.le_refl _⟩, ⟨by (with_reducible repeat (first | refine blk_drewN ?_ _ | refine blk_drew ?_ | refine blk_alloc ?_ _)); exact BK1001.out⟩, ⟨by repeat (first | (with_reducible first | exact HB.out | apply below_alloc | apply pw_below_drewN | apply below_drew1 | refine below_set ?_ GE1001.out) | exact HB.out)⟩⟩
    · rw [if_neg c9] at H
      have c9b0 : (t1003 == 0) = false := beq_eq_false_iff_ne.mpr c9
      have c9b1 : (t1003 != 0) = true := bne_iff_ne.mpr c9
      (first | rw [c9b0] | (simp only [i64_w, i32_w]; rw [c9b0]) | skip); have H' := Aside0.mk H
      clear H; go_wp2; go_meet
      case rel => exact ⟨_, (true), (by first | rfl | (simp; done) | (simp [*]; done)), H', ⟨by first | omega | exact Nat.le_refl _⟩, ⟨by (with_reducible repeat (first | refine blk_drewN ?_ _ | refine blk_drew ?_ | refine blk_alloc ?_ _)); exact BK1001.out⟩, ⟨by repeat (first | (with_reducible first | exact HB.out | apply below_alloc | apply pw_below_drewN | apply below_drew1 | refine below_set ?_ GE1001.out) | exact HB.out)⟩⟩
  case rest =>
    clear HC5; try clear c1
    try clear p2
    try clear c5
    try clear c9
    try clear c9b0
    try clear c9b1
    try clear c11
    try clear c12
    try clear c12b0
    try clear hcz13_0
    try clear hcz13_1
    try clear hcz13_2
    try clear hcz14_0
    try clear hcz14_1
    try clear hcz14_2
    try clear hcz15_0
    try clear hcz15_1
    try clear hcz15_2
    try clear hcz7_0
    try clear hcz7_1
    try clear hcz7_2
    try clear hfz13_0
    try clear hfz13_1
    try clear hfz13_2
    try clear hfz14_0
    try clear hfz14_1
    try clear hfz14_2
    try clear hfz15_0
    try clear hfz15_1
    try clear hfz15_2
    try clear hfz7_0
    try clear hfz7_1
    try clear hfz7_2
    obtain ⟨kq, x32_4, rfl, HA, HJ4, BK1001, HB⟩ := hcut; cases kq with
    | zero => exact absurd HA.out (by simp [seal_Nonce_p.j0])
    | succ kj4 =>
      have H := HA.out; clear HA; simp only [seal_Nonce_p.j0] at H; by_cases c16 : x32_4 = true
      · subst c16; have H1 : (some ((⟨#[]⟩ : ByteArray), 1)) = some (r1, r2) := by rw [if_pos rfl] at H; exact H
        clear H; have H := H1; clear H1; simp only [Option.some.injEq, Prod.mk.injEq] at H; obtain ⟨rfl, rfl⟩ := H; go_wp2; go_ret2
        exact ⟨by first | rfl | (simp [errW_none, errW_some] <;> rfl) | (simp [*, errW_none, errW_some] <;> rfl), by repeat (first | (with_reducible first | exact HB.out | apply below_alloc | apply pw_below_drewN | apply below_drew1 | refine below_set ?_ GE1001.out) | exact HB.out)⟩
      · replace c16 := Bool.eq_false_iff.mpr c16
        subst c16; have H1 : ((term_Number.f (IntKind.u64.wrap (a1))).bind fun t1005 => ((term_Number.f (IntKind.u64.wrap (a2))).bind fun t1006 => ((term_Pair.f t1005 t1006).bind fun bt1007 => (if bt1007.2 = 0 then ((term_Pair.f t1002 bt1007.1).bind fun bt1009 => (some (bt1009.1, bt1009.2))) else (some ((⟨#[]⟩ : ByteArray), bt1007.2)))))) = some (r1, r2) := by rw [if_neg (show ¬ (false = true) by decide)] at H; exact H
        clear H; have H := H1; clear H1; replace H := Option.bind_eq_some_iff.mp H
        obtain ⟨t1005, A170, H⟩ := H; replace H : ((term_Number.f (IntKind.u64.wrap (a2))).bind fun t1006 => ((term_Pair.f t1005 t1006).bind fun bt1007 => (if bt1007.2 = 0 then ((term_Pair.f t1002 bt1007.1).bind fun bt1009 => (some (bt1009.1, bt1009.2))) else (some ((⟨#[]⟩ : ByteArray), bt1007.2))))) = some (r1, r2) := H
        have A17 := Aside0.mk A170
        clear A170; replace H := Option.bind_eq_some_iff.mp H
        obtain ⟨t1006, A180, H⟩ := H; replace H : ((term_Pair.f t1005 t1006).bind fun bt1007 => (if bt1007.2 = 0 then ((term_Pair.f t1002 bt1007.1).bind fun bt1009 => (some (bt1009.1, bt1009.2))) else (some ((⟨#[]⟩ : ByteArray), bt1007.2)))) = some (r1, r2) := H
        have A18 := Aside0.mk A180
        clear A180; replace H := Option.bind_eq_some_iff.mp H
        obtain ⟨⟨t1007, t1008⟩, A190, H⟩ := H
        replace H : (if t1008 = 0 then ((term_Pair.f t1002 t1007).bind fun bt1009 => (some (bt1009.1, bt1009.2))) else (some ((⟨#[]⟩ : ByteArray), t1008))) = some (r1, r2) := H
        have A19 := Aside0.mk A190
        clear A190; by_cases c20 : t1008 = 0
        · rw [if_pos c20] at H
          have c20b0 : (t1008 == 0) = true := beq_iff_eq.mpr c20
          have c20b1 : (t1008 != 0) = false := bne_eq_false_iff_eq.mpr c20
          clear c20; replace H := Option.bind_eq_some_iff.mp H
          obtain ⟨⟨t1009, t1010⟩, A210, H⟩ := H
          replace H : (some (t1009, t1010)) = some (r1, r2) := H
          have A21 := Aside0.mk A210
          clear A210; simp only [Option.some.injEq, Prod.mk.injEq] at H; obtain ⟨rfl, rfl⟩ := H; go_wp2_with (first | ((with_reducible refine gate_callee (f := 84) rfl ?_); refine goesL_ (some 36) rfl rfl Try.func84 (by kernel_rfl) rfl #[.int .u64 (IntKind.u64.wrap (a1))] rfl (by simp only [List.map_toArray, List.map_cons, List.map_nil] <;> rfl) ?_; (with_reducible refine (term_Number.calls (IntKind.u64.wrap (a1)) t1005 _ A17.out).mono ?_); rintro e w22 ⟨rfl, hb⟩; refine ⟨_, rfl, ?_⟩; have n0_ := Aside0.mk (blk_below (g := gb1001) (o := .cells #[.int .i64 a0_0, .int .i64 a0_1, .slice A0_2 l0_2.length c0_2] 65 (0, 0)) (by (with_reducible repeat (first | refine blk_drewN ?_ _ | refine blk_drew ?_ | refine blk_alloc ?_ _)); exact BK1001.out) hb); have n1_ := Aside0.mk (below_step (by repeat (with_reducible first | exact HB.out | apply below_alloc | apply pw_below_drewN | apply below_drew1 | refine below_set ?_ GE1001.out)) hb); clear BK1001; clear HB; have BK1001 := n0_; have HB := n1_; clear n0_ n1_; (try clear hb)) | ((with_reducible refine gate_callee (f := 84) rfl ?_); refine goesL_ (some 39) rfl rfl Try.func84 (by kernel_rfl) rfl #[.int .u64 (IntKind.u64.wrap (a2))] rfl (by simp only [List.map_toArray, List.map_cons, List.map_nil] <;> rfl) ?_; (with_reducible refine (term_Number.calls (IntKind.u64.wrap (a2)) t1006 _ A18.out).mono ?_); rintro e w23 ⟨rfl, hb⟩; refine ⟨_, rfl, ?_⟩; have n0_ := Aside0.mk (blk_below (g := gb1001) (o := .cells #[.int .i64 a0_0, .int .i64 a0_1, .slice A0_2 l0_2.length c0_2] 65 (0, 0)) (by (with_reducible repeat (first | refine blk_drewN ?_ _ | refine blk_drew ?_ | refine blk_alloc ?_ _)); exact BK1001.out) hb); have n1_ := Aside0.mk (below_step (by repeat (with_reducible first | exact HB.out | apply below_alloc | apply pw_below_drewN | apply below_drew1 | refine below_set ?_ GE1001.out)) hb); clear BK1001; clear HB; have BK1001 := n0_; have HB := n1_; clear n0_ n1_; (try clear hb)) | ((with_reducible refine gate_callee (f := 92) rfl ?_); refine goesL_ (some 40) rfl rfl Try.func92 (by kernel_rfl) rfl #[.string t1005, .string t1006] rfl (by simp only [List.map_toArray, List.map_cons, List.map_nil] <;> rfl) ?_; (with_reducible refine (term_Pair.calls t1005 t1006 t1007 t1008 _ A19.out).mono ?_); rintro e w24 ⟨rfl, hb⟩; refine ⟨_, rfl, ?_⟩; have n0_ := Aside0.mk (blk_below (g := gb1001) (o := .cells #[.int .i64 a0_0, .int .i64 a0_1, .slice A0_2 l0_2.length c0_2] 65 (0, 0)) (by (with_reducible repeat (first | refine blk_drewN ?_ _ | refine blk_drew ?_ | refine blk_alloc ?_ _)); exact BK1001.out) hb); have n1_ := Aside0.mk (below_step (by repeat (with_reducible first | exact HB.out | apply below_alloc | apply pw_below_drewN | apply below_drew1 | refine below_set ?_ GE1001.out)) hb); clear BK1001; clear HB; have BK1001 := n0_; have HB := n1_; clear n0_ n1_; (try clear hb)) | ((with_reducible refine gate_callee (f := 92) rfl ?_); refine goesL_ (some 48) rfl rfl Try.func92 (by kernel_rfl) rfl #[.string t1002, .string t1007] rfl (by simp only [List.map_toArray, List.map_cons, List.map_nil] <;> rfl) ?_; (with_reducible refine (term_Pair.calls t1002 t1007 t1009 t1010 _ A21.out).mono ?_); rintro e w25 ⟨rfl, hb⟩; refine ⟨_, rfl, ?_⟩; have n0_ := Aside0.mk (blk_below (g := gb1001) (o := .cells #[.int .i64 a0_0, .int .i64 a0_1, .slice A0_2 l0_2.length c0_2] 65 (0, 0)) (by (with_reducible repeat (first | refine blk_drewN ?_ _ | refine blk_drew ?_ | refine blk_alloc ?_ _)); exact BK1001.out) hb); have n1_ := Aside0.mk (below_step (by repeat (with_reducible first | exact HB.out | apply below_alloc | apply pw_below_drewN | apply below_drew1 | refine below_set ?_ GE1001.out)) hb); clear BK1001; clear HB; have BK1001 := n0_; have HB := n1_; clear n0_ n1_; (try clear hb)))
          go_ret2
          exact ⟨by first | rfl | (simp [errW_none, errW_some] <;> rfl) | (simp [*, errW_none, errW_some] <;> rfl), by repeat (first | (with_reducible first | exact HB.out | apply below_alloc | apply pw_below_drewN | apply below_drew1 | refine below_set ?_ GE1001.out) | exact HB.out)⟩
        · rw [if_neg c20] at H
          have c20b0 : (t1008 == 0) = false := beq_eq_false_iff_ne.mpr c20
          have c20b1 : (t1008 != 0) = true := bne_iff_ne.mpr c20
          simp only [Option.some.injEq, Prod.mk.injEq] at H; obtain ⟨rfl, rfl⟩ := H; go_wp2_with (first | ((with_reducible refine gate_callee (f := 84) rfl ?_); refine goesL_ (some 36) rfl rfl Try.func84 (by kernel_rfl) rfl #[.int .u64 (IntKind.u64.wrap (a1))] rfl (by simp only [List.map_toArray, List.map_cons, List.map_nil] <;> rfl) ?_; (with_reducible refine (term_Number.calls (IntKind.u64.wrap (a1)) t1005 _ A17.out).mono ?_); rintro e w26 ⟨rfl, hb⟩; refine ⟨_, rfl, ?_⟩; have n0_ := Aside0.mk (blk_below (g := gb1001) (o := .cells #[.int .i64 a0_0, .int .i64 a0_1, .slice A0_2 l0_2.length c0_2] 65 (0, 0)) (by (with_reducible repeat (first | refine blk_drewN ?_ _ | refine blk_drew ?_ | refine blk_alloc ?_ _)); exact BK1001.out) hb); have n1_ := Aside0.mk (below_step (by repeat (with_reducible first | exact HB.out | apply below_alloc | apply pw_below_drewN | apply below_drew1 | refine below_set ?_ GE1001.out)) hb); clear BK1001; clear HB; have BK1001 := n0_; have HB := n1_; clear n0_ n1_; (try clear hb)) | ((with_reducible refine gate_callee (f := 84) rfl ?_); refine goesL_ (some 39) rfl rfl Try.func84 (by kernel_rfl) rfl #[.int .u64 (IntKind.u64.wrap (a2))] rfl (by simp only [List.map_toArray, List.map_cons, List.map_nil] <;> rfl) ?_; (with_reducible refine (term_Number.calls (IntKind.u64.wrap (a2)) t1006 _ A18.out).mono ?_); rintro e w27 ⟨rfl, hb⟩; refine ⟨_, rfl, ?_⟩; have n0_ := Aside0.mk (blk_below (g := gb1001) (o := .cells #[.int .i64 a0_0, .int .i64 a0_1, .slice A0_2 l0_2.length c0_2] 65 (0, 0)) (by (with_reducible repeat (first | refine blk_drewN ?_ _ | refine blk_drew ?_ | refine blk_alloc ?_ _)); exact BK1001.out) hb); have n1_ := Aside0.mk (below_step (by repeat (with_reducible first | exact HB.out | apply below_alloc | apply pw_below_drewN | apply below_drew1 | refine below_set ?_ GE1001.out)) hb); clear BK1001; clear HB; have BK1001 := n0_; have HB := n1_; clear n0_ n1_; (try clear hb)) | ((with_reducible refine gate_callee (f := 92) rfl ?_); refine goesL_ (some 40) rfl rfl Try.func92 (by kernel_rfl) rfl #[.string t1005, .string t1006] rfl (by simp only [List.map_toArray, List.map_cons, List.map_nil] <;> rfl) ?_; (with_reducible refine (term_Pair.calls t1005 t1006 t1007 t1008 _ A19.out).mono ?_); rintro e w28 ⟨rfl, hb⟩; refine ⟨_, rfl, ?_⟩; have n0_ := Aside0.mk (blk_below (g := gb1001) (o := .cells #[.int .i64 a0_0, .int .i64 a0_1, .slice A0_2 l0_2.length c0_2] 65 (0, 0)) (by (with_reducible repeat (first | refine blk_drewN ?_ _ | refine blk_drew ?_ | refine blk_alloc ?_ _)); exact BK1001.out) hb); have n1_ := Aside0.mk (below_step (by repeat (with_reducible first | exact HB.out | apply below_alloc | apply pw_below_drewN | apply below_drew1 | refine below_set ?_ GE1001.out)) hb); clear BK1001; clear HB; have BK1001 := n0_; have HB := n1_; clear n0_ n1_; (try clear hb)))
          go_ret2
          exact ⟨by first | rfl | (simp [errW_none, errW_some] <;> rfl) | (simp [*, errW_none, errW_some] <;> rfl), by repeat (first | (with_reducible first | exact HB.out | apply below_alloc | apply pw_below_drewN | apply below_drew1 | refine below_set ?_ GE1001.out) | exact HB.out)⟩
open Go.Proofs.Ytpfpmjdifnoeoaa.Pure
theorem putF_size (l : List ByteArray) : (putF l).1.size ≤ 20000 := by
  unfold putF
  split
  · exact Nat.zero_le _
  · split
    · exact Nat.zero_le _
    · rename_i q
      split
      · show (putOut l).size ≤ 20000; omega
      · exact Nat.zero_le _
theorem termV_size (e c : Int) (l : List Int) : (termV e c l).1.size ≤ 20000 := by
  unfold termV packM
  repeat' split
  all_goals first | exact putF_size _ | exact Nat.zero_le _
theorem pair_nums (a b : Int) : (pairF (numW a) (numW b)).2 = 0 ∧ (pairF (numW a) (numW b)).1 = (⟨#[112]⟩ : ByteArray) ++ cat [numW a, numW b] := by
  have hz : ∀ n : Int, (numW n).size = 9 := fun n => numF_size _
  have hp : ∀ n : Int, Part 1 (numW n) := fun n => Leaf.part (t := numW n) (num_leaf _) (by rw [hz]; decide) (Int.le_refl _)
  have h := pair_made (m := 1) (by decide) (by decide) (hp a) (hp b) (by rw [hz, hz]; decide)
  rw [h.1]
  exact ⟨rfl, rfl⟩
def nonceF (e c : Int) (l : List Int) (s n : Int) : ByteArray × Int := if (termV e c l).2 = 0 ∧ l.contains s = true ∧ 1 ≤ n ∧ n ≤ 32 then pairF (termV e c l).1 (pairF (numW s) (numW n)).1 else (⟨#[]⟩, 1)
def seal_Nonce.f (e c : Int) (l : List Int) (s n : Int) : Option (ByteArray × Int) := if l.length < 1099511627776 then some (nonceF e c l s n) else none
theorem seal_Nonce.eq (e c : Int) (l : List Int) (s n : Int) (hl : l.length < 1099511627776) : seal_Nonce_p.f 2 e c l s n = some (nonceF e c l s n) := by
  have hj : seal_Nonce_p.j0 2 s n (termV e c l).1 true = some ((⟨#[]⟩ : ByteArray), 1) := by simp only [seal_Nonce_p.j0]; rw [if_pos trivial]
  have hh : view_Has.f l s = some (l.contains s) := rfl
  unfold seal_Nonce_p.f view_Term.f nonceF
  rw [if_pos hl]
  simp only [Option.bind_some]; by_cases c1 : (termV e c l).2 = 0
  case neg => rw [if_neg c1, hj, if_neg (fun h => c1 h.1)]
  rw [if_pos c1, hh]
  simp only [Option.bind_some]; by_cases c2 : l.contains s = true
  case neg => rw [if_neg c2, hj, if_neg (fun h => c2 h.2.1)]
  rw [if_pos c2]
  by_cases c3 : n < 1
  · rw [if_pos c3, hj, if_neg (fun h => by omega)]
  rw [if_neg c3]
  by_cases c4 : n > 32
  · rw [decide_eq_true c4, hj, if_neg (fun h => by omega)]
  rw [decide_eq_false c4, if_pos ⟨c1, c2, by omega, by omega⟩]
  have hp := pair_nums s n
  have hz := termV_size e c l
  have hz2 : (pairF (numW s) (numW n)).1.size = 19 := by rw [hp.2]; rfl
  simp only [seal_Nonce_p.j0]; unfold term_Number.f term_Pair.f
  simp only [Option.bind_some]; have hs : ∀ x : Int, (numF (IntKind.u64.wrap x)).size < 9223372036854775808 := fun x => by rw [numF_size]; decide
  rw [if_neg (by decide), if_pos ⟨hs s, hs n⟩]
  simp only [Option.bind_some]; rw [show pairF (numF (IntKind.u64.wrap s)) (numF (IntKind.u64.wrap n)) = pairF (numW s) (numW n) from rfl, if_pos hp.1, if_pos ⟨by omega, by omega⟩]
  rfl
theorem seal_Nonce.calls (a0_0 : Int) (a0_1 : Int) (A0_2 : Option Addr) (c0_2 : Nat) (l0_2 : List Int) (a1 : Int) (a2 : Int) (r1 : ByteArray) (r2 : Int) (w : World) (hr0_2 : Kd.C (Kd.int .i64) w A0_2 l0_2.length l0_2) (hc0_2 : l0_2.length ≤ c0_2) (h : seal_Nonce.f a0_0 a0_1 l0_2 a1 a2 = some (r1, r2)) :
    Calls Try.prog 57 #[.agg #[.int .i64 a0_0, .int .i64 a0_1, .slice A0_2 l0_2.length c0_2], .int .i64 a1, .int .i64 a2] w fun e w' => e = .returned (.tuple #[.string r1, .int .i64 r2]) ∧ Below w.heap.size w w' := by
  unfold seal_Nonce.f at h
  split at h
  case isFalse => cases h
  rename_i hs
  exact seal_Nonce_p.calls 2 a0_0 a0_1 A0_2 c0_2 l0_2 a1 a2 r1 r2 w hr0_2 hc0_2 ((seal_Nonce.eq a0_0 a0_1 l0_2 a1 a2 hs).trans h)
end Go.Proofs.Ytpfpmjdifnoeoaa.F
