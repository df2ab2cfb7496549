import Derived.Test.YtagceackfnkifaaMViewTellsF0
import Derived.Test.YtagceackfnkifaaMViewTellsF113
import Derived.Test.YtagceackfnkifaaMViewTellsB4
import Derived.Test.YtagceackfnkifaaMViewTellsF115
import Derived.Test.YtagceackfnkifaaMViewTellsB1
import Derived.Test.YtagceackfnkifaaMViewTellsF33
import Derived.Test.YtagceackfnkifaaMViewTellsF75
namespace Go.Proofs.Ytagceackfnkifaa.F
open Go.RowKit Go.Proofs.YtagceackfnkifaaW.PrintWords Go.Proofs.YtagceackfnkifaaW.PrintLast Go.Proofs.YtagceackfnkifaaW.PrintMore
attribute [local go_sem] max2_int min2_int max_two min_two max_three min_three max_four min_four
set_option linter.unusedVariables false
set_option linter.unusedSimpArgs false
def gemotref4_Pack_p.l0 : Nat → List Int → List ByteArray → Int → Int → Int → Int → Int → Int → Int → List Int → List ByteArray → Option (ByteArray × Int)
  | 0, _, _, _, _, _, _, _, _, _, _, _ => none
  | k + 1, x4, x5, x6, x1002000, x1002001, x1002002, x1002003, x1002004, x1002005, x1002006, x1002007 => if x6 < (x4.length : Int) then (if 0 ≤ x6 then ((gemotref1_Number.f (IntKind.u64.wrap (rd x4 x6))).bind fun t1010 => (if x5.length < 8796093022208 then (gemotref4_Pack_p.l0 k x4 (x5 ++ [t1010]) (wrap64 (x6 + 1)) x1002000 x1002001 x1002002 x1002003 x1002004 x1002005 x1002006 x1002007) else (none))) else (none)) else (if x5.length + x1002007.length < 8796093022208 then ((gemotref4_Put.f (x5 ++ x1002007)).bind fun bt1017 => (some (bt1017.1, bt1017.2))) else (none))
def gemotref4_Pack_p.f (k : Nat) (a0_0 : Int) (a0_1 : Int) (a0_2 : Int) (a0_3 : Int) (a0_4 : Int) (a0_5 : Int) (l0_6 : List Int) (l0_7 : List ByteArray) : Option (ByteArray × Int) := (gemotref4_Right.f a0_0 a0_1 a0_2 a0_3 a0_4 a0_5 l0_6 l0_7).bind fun t1002 => (if t1002 = true then ((some (([a0_0, a0_1, a0_2, a0_3, a0_4, a0_5, (l0_6.length : Int)] : List Int) : List Int)).bind fun y1003 => (if y1003.length + l0_6.length < 17592186044416 then (gemotref4_Pack_p.l0 k (y1003 ++ l0_6) ([] : List ByteArray) 0 a0_0 a0_1 a0_2 a0_3 a0_4 a0_5 l0_6 l0_7) else (none))) else (some ((⟨#[]⟩ : ByteArray), 1)))
set_option maxHeartbeats 8000000 in
set_option maxRecDepth 100000 in
theorem gemotref4_Pack_p.calls (k : Nat) (a0_0 : Int) (a0_1 : Int) (a0_2 : Int) (a0_3 : Int) (a0_4 : Int) (a0_5 : Int) (A0_6 : Option Addr) (c0_6 : Nat) (l0_6 : List Int) (A0_7 : Option Addr) (c0_7 : Nat) (l0_7 : List ByteArray) (r1 : ByteArray) (r2 : Int) (w : World) (hr0_6 : Kd.C (Kd.int .i64) w A0_6 l0_6.length l0_6) (hc0_6 : l0_6.length ≤ c0_6) (hr0_7 : Kd.C Kd.string w A0_7 l0_7.length l0_7) (hc0_7 : l0_7.length ≤ c0_7) (h : gemotref4_Pack_p.f k a0_0 a0_1 a0_2 a0_3 a0_4 a0_5 l0_6 l0_7 = some (r1, r2)) :
    Calls Try.prog 79 #[.agg #[.int .i64 a0_0, .int .i64 a0_1, .int .i64 a0_2, .int .i64 a0_3, .int .i64 a0_4, .int .i64 a0_5, .slice A0_6 l0_6.length c0_6, .slice A0_7 l0_7.length c0_7]] w fun e w' => e = .returned (.tuple #[.string r1, .int .i64 r2]) ∧ Below w.heap.size w w' := by
  have hu120 := Try.underlying120; have HR0_6 := Aside0.mk hr0_6
  have HC0_6 := Aside0.mk hc0_6
  clear hr0_6 hc0_6; have HR0_7 := Aside0.mk hr0_7
  have HC0_7 := Aside0.mk hc0_7
  clear hr0_7 hc0_7; have HB := Aside0.mk (Below.refl w.heap.size w)
  have H : ((gemotref4_Right.f a0_0 a0_1 a0_2 a0_3 a0_4 a0_5 l0_6 l0_7).bind fun t1002 => (if t1002 = true then ((some (([a0_0, a0_1, a0_2, a0_3, a0_4, a0_5, (l0_6.length : Int)] : List Int) : List Int)).bind fun y1003 => (if y1003.length + l0_6.length < 17592186044416 then (gemotref4_Pack_p.l0 k (y1003 ++ l0_6) ([] : List ByteArray) 0 a0_0 a0_1 a0_2 a0_3 a0_4 a0_5 l0_6 l0_7) else (none))) else (some ((⟨#[]⟩ : ByteArray), 1)))) = some (r1, r2) := h
  clear h; replace H := Option.bind_eq_some_iff.mp H
  obtain ⟨t1002, A20, H⟩ := H; replace H : (if t1002 = true then ((some (([a0_0, a0_1, a0_2, a0_3, a0_4, a0_5, (l0_6.length : Int)] : List Int) : List Int)).bind fun y1003 => (if y1003.length + l0_6.length < 17592186044416 then (gemotref4_Pack_p.l0 k (y1003 ++ l0_6) ([] : List ByteArray) 0 a0_0 a0_1 a0_2 a0_3 a0_4 a0_5 l0_6 l0_7) else (none))) else (some ((⟨#[]⟩ : ByteArray), 1))) = some (r1, r2) := H
  have A2 := Aside0.mk A20
  clear A20; by_cases c3 : t1002 = true
  · subst c3; have H1 : ((some (([a0_0, a0_1, a0_2, a0_3, a0_4, a0_5, (l0_6.length : Int)] : List Int) : List Int)).bind fun y1003 => (if y1003.length + l0_6.length < 17592186044416 then (gemotref4_Pack_p.l0 k (y1003 ++ l0_6) ([] : List ByteArray) 0 a0_0 a0_1 a0_2 a0_3 a0_4 a0_5 l0_6 l0_7) else (none))) = some (r1, r2) := by rw [if_pos rfl] at H; exact H
    clear H; have H := H1; clear H1; obtain ⟨y1003, hy1003⟩ : ∃ y_ : List Int, y_ = (([a0_0, a0_1, a0_2, a0_3, a0_4, a0_5, (l0_6.length : Int)] : List Int)) := ⟨_, rfl⟩
    replace H : (if y1003.length + l0_6.length < 17592186044416 then (gemotref4_Pack_p.l0 k (y1003 ++ l0_6) ([] : List ByteArray) 0 a0_0 a0_1 a0_2 a0_3 a0_4 a0_5 l0_6 l0_7) else (none)) = some (r1, r2) := by first | (rw [hy1003]; with_reducible exact H) | (have H2_ := (Option.bind_some _ _).symm.trans H; rw [hy1003]; with_reducible exact H2_) | (have H2_ := (Option.bind_some _ _).symm.trans H; with_reducible exact H2_) | with_reducible exact H | (rw [hy1003]; exact H) | exact H
    have Ny1003 := Aside0.mk hy1003
    clear hy1003; by_cases c4 : y1003.length + l0_6.length < 17592186044416
    · rw [if_pos c4] at H
      have LMc4 := Aside0.mk c4
      clear c4; obtain ⟨y1006, hy1006⟩ : ∃ y_ : List Int, y_ = (y1003 ++ l0_6) := ⟨_, rfl⟩
      replace H : (gemotref4_Pack_p.l0 k y1006 ([] : List ByteArray) 0 a0_0 a0_1 a0_2 a0_3 a0_4 a0_5 l0_6 l0_7) = some (r1, r2) := by first | (rw [hy1006]; with_reducible exact H) | (have H2_ := (Option.bind_some _ _).symm.trans H; rw [hy1006]; with_reducible exact H2_) | (have H2_ := (Option.bind_some _ _).symm.trans H; with_reducible exact H2_) | with_reducible exact H | (rw [hy1006]; exact H) | exact H
      have Ny1006 := Aside0.mk hy1006
      clear hy1006; have H' := Aside0.mk H
      clear H; go_enter Try.func79, Try.ntmps79
      go_wp2_with (first | ((with_reducible refine gate_dst (N := 1) rfl ?_); refine box_event ?hg (N := 1) ?hd (cs := #[.int .i64 a0_0, .int .i64 a0_1, .int .i64 a0_2, .int .i64 a0_3, .int .i64 a0_4, .int .i64 a0_5, .slice A0_6 l0_6.length c0_6, .slice A0_7 l0_7.length c0_7]) (t := 120) ?hr ?_; (case hd => rfl); (case hg => rfl); (case hr => first | (go_simp; done) | (go_simp; rfl)); intro gb1001 hg w5 hbox hb; have n0_ := Aside0.mk (below_step (by repeat with_reducible first | exact HB.out | apply below_alloc | apply pw_below_drewN | apply below_drew1) hb); have n1_ := Aside0.mk (hbox); have n2_ := Aside0.mk ((by rw [hg]; exact (below_size (by repeat with_reducible first | exact HB.out | apply below_alloc | apply pw_below_drewN | apply below_drew1)) : w.heap.size ≤ gb1001)); have n3_ := Aside0.mk ((by rw [hg]; exact (below_size (by repeat with_reducible first | exact HB.out | apply below_alloc | apply pw_below_drewN | apply below_drew1)) : w.heap.size ≤ gb1001)); clear HB; have HB := n0_; have BK1001 := n1_; have GW1001 := n2_; have GE1001 := n3_; clear n0_ n1_ n2_ n3_; clear hb hbox hg; obtain ⟨hcz6_0, hcz6_1, hcz6_2, hcz6_3, hcz6_4, hcz6_5, hcz6_6, hcz6_7, hfz6_0, hfz6_1, hfz6_2, hfz6_3, hfz6_4, hfz6_5, hfz6_6, hfz6_7⟩ := blk8 BK1001.out) | ((with_reducible refine gate_callee (f := 113) rfl ?_); refine goesL_ (some 8) rfl rfl Try.func113 (by kernel_rfl) rfl #[.agg #[.int .i64 a0_0, .int .i64 a0_1, .int .i64 a0_2, .int .i64 a0_3, .int .i64 a0_4, .int .i64 a0_5, .slice A0_6 l0_6.length c0_6, .slice A0_7 l0_7.length c0_7]] rfl (by (try simp only [List.map_toArray, List.map_cons, List.map_nil]); first | done | rfl | (simp only [List.length_drop, List.length_take]; rfl)) ?_; (with_reducible refine (gemotref4_Right.calls a0_0 a0_1 a0_2 a0_3 a0_4 a0_5 _ _ l0_6 _ _ l0_7 true _ ?side1 ?side2 ?side3 ?side4 A2.out).mono ?_); (case side1 => repeat (first | exact (Kd.C_below HR0_6.out HB.out) | (with_reducible refine Kd.C_alloc ?_ _) | (with_reducible refine Kd.C_drewN ?_ _) | (with_reducible refine Kd.C_drew ?_))); (case side2 => exact HC0_6.out); (case side3 => repeat (first | exact (Kd.C_below HR0_7.out HB.out) | (with_reducible refine Kd.C_alloc ?_ _) | (with_reducible refine Kd.C_drewN ?_ _) | (with_reducible refine Kd.C_drew ?_))); (case side4 => exact HC0_7.out); rintro e w7 ⟨rfl, hb⟩; refine ⟨_, rfl, ?_⟩; have n0_ := Aside0.mk (blk_below (g := gb1001) (o := .cells #[.int .i64 a0_0, .int .i64 a0_1, .int .i64 a0_2, .int .i64 a0_3, .int .i64 a0_4, .int .i64 a0_5, .slice A0_6 l0_6.length c0_6, .slice A0_7 l0_7.length c0_7] 120 (0, 0)) (by (with_reducible repeat (first | refine blk_drewN ?_ _ | refine blk_drew ?_ | refine blk_alloc ?_ _)); exact BK1001.out) hb); have n1_ := Aside0.mk (below_step (by repeat (with_reducible first | exact HB.out | apply below_alloc | apply pw_below_drewN | apply below_drew1 | refine below_set ?_ GE1001.out)) hb); clear BK1001; clear HB; have BK1001 := n0_; have HB := n1_; clear n0_ n1_; (try clear hb); obtain ⟨hcz8_0, hcz8_1, hcz8_2, hcz8_3, hcz8_4, hcz8_5, hcz8_6, hcz8_7, hfz8_0, hfz8_1, hfz8_2, hfz8_3, hfz8_4, hfz8_5, hfz8_6, hfz8_7⟩ := blk8 BK1001.out) | ((with_reducible refine gate_dst (N := 29) rfl ?_); refine Kd.R_lit (Kd.int .i64) _ 3 ?hg (N := 29) ?hd (xs := ([a0_0, a0_1, a0_2, a0_3, a0_4, a0_5, (l0_6.length : Int)] : List Int)) (inner := [.int .i64 a0_0, .int .i64 a0_1, .int .i64 a0_2, .int .i64 a0_3, .int .i64 a0_4, .int .i64 a0_5, .int .i64 (l0_6.length : Int)]) (ok := fun _ => True) (okp := fun _ => True) ?hr ?hp (fun _ hk => hk) trivial (Below.refl _ _) (Nat.le_refl _) (by simp) ?_; (case hd => rfl); (case hg => rfl); (case hr => first | (go_simp; done) | (go_simp; rfl)); (case hp => exact (Reps.one (show Kd.M (Kd.int .i64) _ _ _ a0_0 [.int .i64 a0_0] from rfl) (Reps.one (show Kd.M (Kd.int .i64) _ _ _ a0_1 [.int .i64 a0_1] from rfl) (Reps.one (show Kd.M (Kd.int .i64) _ _ _ a0_2 [.int .i64 a0_2] from rfl) (Reps.one (show Kd.M (Kd.int .i64) _ _ _ a0_3 [.int .i64 a0_3] from rfl) (Reps.one (show Kd.M (Kd.int .i64) _ _ _ a0_4 [.int .i64 a0_4] from rfl) (Reps.one (show Kd.M (Kd.int .i64) _ _ _ a0_5 [.int .i64 a0_5] from rfl) (Reps.one (show Kd.M (Kd.int .i64) _ _ _ (l0_6.length : Int) [.int .i64 (l0_6.length : Int)] from rfl) (Reps.none _ _))))))))); intro v1004 w9 ho10 hb hg_ hnew_; clear hg_ hnew_; (first | rw [← Ny1003.out] at ho10 | (simp only [Int.reduceToNat] at ho10; rw [← Ny1003.out] at ho10)); have n0_ := Aside0.mk (Kd.R_lower ho10 (below_size (by repeat (with_reducible first | exact HB.out | apply below_alloc | apply pw_below_drewN | apply below_drew1 | refine below_set ?_ GE1001.out)))); have n1_ := Aside0.mk (blk_below (g := gb1001) (o := .cells #[.int .i64 a0_0, .int .i64 a0_1, .int .i64 a0_2, .int .i64 a0_3, .int .i64 a0_4, .int .i64 a0_5, .slice A0_6 l0_6.length c0_6, .slice A0_7 l0_7.length c0_7] 120 (0, 0)) (by (with_reducible repeat (first | refine blk_drewN ?_ _ | refine blk_drew ?_ | refine blk_alloc ?_ _)); exact BK1001.out) hb); have n2_ := Aside0.mk (below_step (by repeat (with_reducible first | exact HB.out | apply below_alloc | apply pw_below_drewN | apply below_drew1 | refine below_set ?_ GE1001.out)) hb); clear BK1001; clear HB; have HO1005 := n0_; have BK1001 := n1_; have HB := n2_; clear n0_ n1_ n2_; clear hb ho10; obtain ⟨hcz11_0, hcz11_1, hcz11_2, hcz11_3, hcz11_4, hcz11_5, hcz11_6, hcz11_7, hfz11_0, hfz11_1, hfz11_2, hfz11_3, hfz11_4, hfz11_5, hfz11_6, hfz11_7⟩ := blk8 BK1001.out) | ((with_reducible refine gate_builtin (b := .append) (xs := #[.tmp 30, .tmp 32]) rfl ?_); at_builtin; refine Kd.R_append_rows (Kd.int .i64) (w0 := w) w.heap.size rfl (.tmp 30) (.tmp 32) 22 3 (.int .i64 0) 8 rfl Try.underlying22 info3 rfl (by decide) (by omega) v1004 y1003 l0_6 _ _ _ (fun _ => True) (fun _ => False) rfl rfl ?aO ?aR (fun _ _ h => h) (fun _ h => h.elim) ?aF ?aB ?aS ?aL ?_; (case aR => repeat (first | exact (Kd.C_below HR0_6.out HB.out) | (with_reducible refine Kd.C_alloc ?_ _) | (with_reducible refine Kd.C_drewN ?_ _) | (with_reducible refine Kd.C_drew ?_))); (case aB => exact (by repeat (with_reducible first | exact HB.out | apply below_alloc | apply pw_below_drewN | apply below_drew1 | refine below_set ?_ GE1001.out))); (case aF => exact (fun _ _ => trivial)); (case aO => exact (by (with_reducible repeat (first | apply Kd.R_alloc | apply Kd.R_drewN | apply Kd.R_drew)); exact HO1005.out)); (case aS => exact (below_size (by repeat (with_reducible first | exact HB.out | apply below_alloc | apply pw_below_drewN | apply below_drew1 | refine below_set ?_ GE1001.out)))); (case aL => have := LMc4.out; omega); intro v1007 w12 ho hb hg hat; rw [← Ny1006.out] at ho; have n0_ := Aside0.mk (blk_grown (g := gb1001) (o := .cells #[.int .i64 a0_0, .int .i64 a0_1, .int .i64 a0_2, .int .i64 a0_3, .int .i64 a0_4, .int .i64 a0_5, .slice A0_6 l0_6.length c0_6, .slice A0_7 l0_7.length c0_7] 120 (0, 0)) (by (with_reducible repeat (first | refine blk_drewN ?_ _ | refine blk_drew ?_ | refine blk_alloc ?_ _)); exact BK1001.out) hg (Kd.R_ne HO1005.out BK1001.out (by decide))); have n1_ := Aside0.mk (hb); have n2_ := Aside0.mk (ho); clear BK1001; clear HB; clear HO1005; have BK1001 := n0_; have HB := n1_; have HO1008 := n2_; clear n0_ n1_ n2_; clear ho hb hg hat))
      go_loopg [5, 6] k (fun kq v5 v6 w' => ∃ (x5_1 : List ByteArray) (x6_1 : Int), v6 = .int .i64 x6_1 ∧ Aside0 (gemotref4_Pack_p.l0 kq y1006 x5_1 x6_1 a0_0 a0_1 a0_2 a0_3 a0_4 a0_5 l0_6 l0_7 = some (r1, r2)) ∧ Aside0 (kq ≤ k) ∧ Aside0 (Kd.R (Kd.int .i64) 3 w' w.heap.size (fun _ => True) v1007 y1006) ∧ Aside0 (Kd.R Kd.string 9 w' w.heap.size (fun _ => True) v5 x5_1) ∧ Aside0 (w'.heap[gb1001]? = some (.cells #[.int .i64 a0_0, .int .i64 a0_1, .int .i64 a0_2, .int .i64 a0_3, .int .i64 a0_4, .int .i64 a0_5, (.slice A0_6 l0_6.length c0_6), (.slice A0_7 l0_7.length c0_7)] 120 (0, 0))) ∧ Aside0 (Below w.heap.size w w'))
      case atStart => exact ⟨(([] : List ByteArray)), (0), (by first | rfl | (simp; done) | (simp [*]; done)), H', ⟨Nat.le_refl _⟩, ⟨by (with_reducible repeat (first | apply Kd.R_alloc | apply Kd.R_drewN | apply Kd.R_drew)); exact HO1008.out⟩, ⟨by first | exact Kd.R_nil _ _ _ _ _ | exact Kd.N_nil _ _ _ _ _ | exact Kd.V_nil _ _ _ _ _ | exact Kd.Q_nil _ _ _ _ _ | exact Kd.S_nil _ _ _ _ _⟩, ⟨by (with_reducible repeat (first | refine blk_drewN ?_ _ | refine blk_drew ?_ | refine blk_alloc ?_ _)); exact BK1001.out⟩, ⟨by repeat (first | (with_reducible first | exact HB.out | apply below_alloc | apply pw_below_drewN | apply below_drew1 | refine below_set ?_ GE1001.out) | exact HB.out)⟩⟩
      case round =>
        clear H'; try clear c1
        try clear p2
        try clear c3
        try clear c4
        try clear c7
        try clear c11
        try clear hcz11_0
        try clear hcz11_1
        try clear hcz11_2
        try clear hcz11_3
        try clear hcz11_4
        try clear hcz11_5
        try clear hcz11_6
        try clear hcz11_7
        try clear hcz6_0
        try clear hcz6_1
        try clear hcz6_2
        try clear hcz6_3
        try clear hcz6_4
        try clear hcz6_5
        try clear hcz6_6
        try clear hcz6_7
        try clear hcz8_0
        try clear hcz8_1
        try clear hcz8_2
        try clear hcz8_3
        try clear hcz8_4
        try clear hcz8_5
        try clear hcz8_6
        try clear hcz8_7
        try clear hfz11_0
        try clear hfz11_1
        try clear hfz11_2
        try clear hfz11_3
        try clear hfz11_4
        try clear hfz11_5
        try clear hfz11_6
        try clear hfz11_7
        try clear hfz6_0
        try clear hfz6_1
        try clear hfz6_2
        try clear hfz6_3
        try clear hfz6_4
        try clear hfz6_5
        try clear hfz6_6
        try clear hfz6_7
        try clear hfz8_0
        try clear hfz8_1
        try clear hfz8_2
        try clear hfz8_3
        try clear hfz8_4
        try clear hfz8_5
        try clear hfz8_6
        try clear hfz8_7
        obtain ⟨x5_1, x6_1, rfl, HA, HK1, HO_4, HO_5, BK1001, HB⟩ := hrel; cases gk with
        | zero => exact absurd HA.out (by simp [gemotref4_Pack_p.l0])
        | succ k1 =>
          have H := HA.out; clear HA; simp only [gemotref4_Pack_p.l0] at H; by_cases c13 : x6_1 < (y1006.length : Int)
          · rw [if_pos c13] at H
            have c13b0 : decide (x6_1 < (y1006.length : Int)) = true := decide_eq_true c13
            clear c13; by_cases c14 : 0 ≤ x6_1
            · rw [if_pos c14] at H
              have c14b0 : decide (0 ≤ x6_1) = true := decide_eq_true c14
              clear c14; replace H := Option.bind_eq_some_iff.mp H
              obtain ⟨t1010, A150, H⟩ := H; replace H : (if x5_1.length < 8796093022208 then (gemotref4_Pack_p.l0 k1 y1006 (x5_1 ++ [t1010]) (wrap64 (x6_1 + 1)) a0_0 a0_1 a0_2 a0_3 a0_4 a0_5 l0_6 l0_7) else (none)) = some (r1, r2) := H
              have A15 := Aside0.mk A150
              clear A150; by_cases c16 : x5_1.length < 8796093022208
              · rw [if_pos c16] at H
                have LMc16 := Aside0.mk c16
                clear c16; obtain ⟨y1011, hy1011⟩ : ∃ y_ : List ByteArray, y_ = (x5_1 ++ [t1010]) := ⟨_, rfl⟩
                replace H : (gemotref4_Pack_p.l0 k1 y1006 y1011 (wrap64 (x6_1 + 1)) a0_0 a0_1 a0_2 a0_3 a0_4 a0_5 l0_6 l0_7) = some (r1, r2) := by first | (rw [hy1011]; with_reducible exact H) | (have H2_ := (Option.bind_some _ _).symm.trans H; rw [hy1011]; with_reducible exact H2_) | (have H2_ := (Option.bind_some _ _).symm.trans H; with_reducible exact H2_) | with_reducible exact H | (rw [hy1011]; exact H) | exact H
                have Ny1011 := Aside0.mk hy1011
                clear hy1011; have H' := Aside0.mk H
                clear H; obtain ⟨Ao17, co17, eo17⟩ := Kd.R_slice HO_4.out; subst eo17; have p1009 : 0 ≤ (x6_1 : Int) := of_decide_eq_true (by first | (with_reducible assumption) | assumption)
                have q1009 : x6_1 < (y1006.length : Int) := of_decide_eq_true (by first | (with_reducible assumption) | assumption)
                obtain ⟨ad1009, e1009, hx1009_0⟩ := Kd.at_int (Kd.R_reads' HO_4.out).2.2 x6_1 p1009 q1009
                cases e1009
                replace p1009 := eq_true p1009
                replace q1009 := eq_true q1009
                go_wp2_with (first | ((with_reducible refine gate_callee (f := 114) rfl ?_); refine goesL_ (some 46) rfl rfl Try.func114 (by kernel_rfl) rfl #[.int .u64 (IntKind.u64.wrap (rd y1006 x6_1))] rfl (by simp only [List.map_toArray, List.map_cons, List.map_nil] <;> rfl) ?_; (with_reducible refine (gemotref1_Number.calls (IntKind.u64.wrap (rd y1006 x6_1)) t1010 _ A15.out).mono ?_); rintro e w18 ⟨rfl, hb⟩; refine ⟨_, rfl, ?_⟩; have n0_ := Aside0.mk (Kd.R_below (by (with_reducible repeat (first | apply Kd.R_alloc | apply Kd.R_drewN | apply Kd.R_drew)); exact HO_4.out) hb); have n1_ := Aside0.mk (Kd.R_below (by (with_reducible repeat (first | apply Kd.R_alloc | apply Kd.R_drewN | apply Kd.R_drew)); exact HO_5.out) hb); have n2_ := Aside0.mk (blk_below (g := gb1001) (o := .cells #[.int .i64 a0_0, .int .i64 a0_1, .int .i64 a0_2, .int .i64 a0_3, .int .i64 a0_4, .int .i64 a0_5, .slice A0_6 l0_6.length c0_6, .slice A0_7 l0_7.length c0_7] 120 (0, 0)) (by (with_reducible repeat (first | refine blk_drewN ?_ _ | refine blk_drew ?_ | refine blk_alloc ?_ _)); exact BK1001.out) hb); have n3_ := Aside0.mk (below_step (by repeat (with_reducible first | exact HB.out | apply below_alloc | apply pw_below_drewN | apply below_drew1 | refine below_set ?_ GE1001.out)) hb); clear HO_4; clear HO_5; clear BK1001; clear HB; have HO_4 := n0_; have HO_5 := n1_; have BK1001 := n2_; have HB := n3_; clear n0_ n1_ n2_ n3_; (try clear hb)) | ((with_reducible refine gate_builtin (b := .append) (xs := #[.tmp 40, .tmp 47]) rfl ?_); at_builtin; refine Kd.R_append Kd.string (w0 := w) w.heap.size rfl (.tmp 40) (.tmp 47) 83 9 (.string ⟨#[]⟩) 16 rfl Try.underlying83 info9 rfl (by decide) (by omega) u5 x5_1 t1010 [.string t1010] (fun _ => True) (fun _ => False) rfl rfl ?aP (fun _ hk => hk.elim) ?aF ?aO ?aB ?aS ?aL ?_; (case aP => exact rfl); (case aB => exact (by repeat (with_reducible first | exact HB.out | apply below_alloc | apply pw_below_drewN | apply below_drew1 | refine below_set ?_ GE1001.out))); (case aF => exact (fun _ _ => trivial)); (case aO => exact (by (with_reducible repeat (first | apply Kd.R_alloc | apply Kd.R_drewN | apply Kd.R_drew)); exact HO_5.out)); (case aS => exact (below_size (by repeat (with_reducible first | exact HB.out | apply below_alloc | apply pw_below_drewN | apply below_drew1 | refine below_set ?_ GE1001.out)))); (case aL => have := LMc16.out; omega); intro v1012 w19 ho hb hg hat; rw [← Ny1011.out] at ho; have n0_ := Aside0.mk (Kd.R_over' (by (with_reducible repeat (first | apply Kd.R_alloc | apply Kd.R_drewN | apply Kd.R_drew)); exact HO_4.out) (Kd.R_typed (by (with_reducible repeat (first | apply Kd.R_alloc | apply Kd.R_drewN | apply Kd.R_drew)); exact HO_5.out)) (by decide) hg); have n1_ := Aside0.mk (blk_grown (g := gb1001) (o := .cells #[.int .i64 a0_0, .int .i64 a0_1, .int .i64 a0_2, .int .i64 a0_3, .int .i64 a0_4, .int .i64 a0_5, .slice A0_6 l0_6.length c0_6, .slice A0_7 l0_7.length c0_7] 120 (0, 0)) (by (with_reducible repeat (first | refine blk_drewN ?_ _ | refine blk_drew ?_ | refine blk_alloc ?_ _)); exact BK1001.out) hg (Kd.R_ne HO_5.out BK1001.out (by decide))); have n2_ := Aside0.mk (hb); have n3_ := Aside0.mk (ho); clear HO_4; clear BK1001; clear HB; clear HO_5; have HO_4 := n0_; have BK1001 := n1_; have HB := n2_; have HO1013 := n3_; clear n0_ n1_ n2_ n3_; clear ho hb hg hat))
                go_roundg k1
                case measure => have := HK1.out; omega
                case rel => exact ⟨(y1011), (wrap64 (x6_1 + 1)), (by first | rfl | (simp; done) | (simp [*]; done)), H', ⟨by have := HK1.out; omega⟩, ⟨by (with_reducible repeat (first | apply Kd.R_alloc | apply Kd.R_drewN | apply Kd.R_drew)); exact HO_4.out⟩, ⟨by (with_reducible repeat (first | apply Kd.R_alloc | apply Kd.R_drewN | apply Kd.R_drew)); exact HO1013.out⟩, ⟨by (with_reducible repeat (first | refine blk_drewN ?_ _ | refine blk_drew ?_ | refine blk_alloc ?_ _)); exact BK1001.out⟩, ⟨by repeat (first | (with_reducible first | exact HB.out | apply below_alloc | apply pw_below_drewN | apply below_drew1 | refine below_set ?_ GE1001.out) | exact HB.out)⟩⟩
              · rw [if_neg c16] at H
                exact absurd H (by simp)
            · rw [if_neg c14] at H
              exact absurd H (by simp)
          · rw [if_neg c13] at H
            have c13b0 : decide (x6_1 < (y1006.length : Int)) = false := decide_eq_false c13
            clear c13; by_cases c20 : x5_1.length + l0_7.length < 8796093022208
            · rw [if_pos c20] at H
              have LMc20 := Aside0.mk c20
              clear c20; obtain ⟨y1014, hy1014⟩ : ∃ y_ : List ByteArray, y_ = (x5_1 ++ l0_7) := ⟨_, rfl⟩
              replace H : ((gemotref4_Put.f y1014).bind fun bt1017 => (some (bt1017.1, bt1017.2))) = some (r1, r2) := by first | (rw [hy1014]; with_reducible exact H) | (have H2_ := (Option.bind_some _ _).symm.trans H; rw [hy1014]; with_reducible exact H2_) | (have H2_ := (Option.bind_some _ _).symm.trans H; with_reducible exact H2_) | with_reducible exact H | (rw [hy1014]; exact H) | exact H
              have Ny1014 := Aside0.mk hy1014
              clear hy1014; replace H := Option.bind_eq_some_iff.mp H
              obtain ⟨⟨t1017, t1018⟩, A210, H⟩ := H
              replace H : (some (t1017, t1018)) = some (r1, r2) := H
              have A21 := Aside0.mk A210
              clear A210; simp only [Option.some.injEq, Prod.mk.injEq] at H; obtain ⟨rfl, rfl⟩ := H; obtain ⟨Ao22, co22, eo22⟩ := Kd.R_slice HO_4.out; subst eo22; obtain ⟨hcz23_0, hcz23_1, hcz23_2, hcz23_3, hcz23_4, hcz23_5, hcz23_6, hcz23_7, hfz23_0, hfz23_1, hfz23_2, hfz23_3, hfz23_4, hfz23_5, hfz23_6, hfz23_7⟩ := blk8 BK1001.out; go_wp2_with (first | ((with_reducible refine gate_builtin (b := .append) (xs := #[.tmp 49, .tmp 51]) rfl ?_); at_builtin; refine Kd.R_append_rows Kd.string (w0 := w) w.heap.size rfl (.tmp 49) (.tmp 51) 83 9 (.string ⟨#[]⟩) 16 rfl Try.underlying83 info9 rfl (by decide) (by omega) u5 x5_1 l0_7 _ _ _ (fun _ => True) (fun _ => False) rfl rfl ?aO ?aR (fun _ _ h => h) (fun _ h => h.elim) ?aF ?aB ?aS ?aL ?_; (case aR => repeat (first | exact (Kd.C_below HR0_7.out HB.out) | (with_reducible refine Kd.C_alloc ?_ _) | (with_reducible refine Kd.C_drewN ?_ _) | (with_reducible refine Kd.C_drew ?_))); (case aB => exact (by repeat (with_reducible first | exact HB.out | apply below_alloc | apply pw_below_drewN | apply below_drew1 | refine below_set ?_ GE1001.out))); (case aF => exact (fun _ _ => trivial)); (case aO => exact (by (with_reducible repeat (first | apply Kd.R_alloc | apply Kd.R_drewN | apply Kd.R_drew)); exact HO_5.out)); (case aS => exact (below_size (by repeat (with_reducible first | exact HB.out | apply below_alloc | apply pw_below_drewN | apply below_drew1 | refine below_set ?_ GE1001.out)))); (case aL => have := LMc20.out; omega); intro v1015 w24 ho hb hg hat; rw [← Ny1014.out] at ho; have n0_ := Aside0.mk (Kd.R_over' (by (with_reducible repeat (first | apply Kd.R_alloc | apply Kd.R_drewN | apply Kd.R_drew)); exact HO_4.out) (Kd.R_typed (by (with_reducible repeat (first | apply Kd.R_alloc | apply Kd.R_drewN | apply Kd.R_drew)); exact HO_5.out)) (by decide) hg); have n1_ := Aside0.mk (blk_grown (g := gb1001) (o := .cells #[.int .i64 a0_0, .int .i64 a0_1, .int .i64 a0_2, .int .i64 a0_3, .int .i64 a0_4, .int .i64 a0_5, .slice A0_6 l0_6.length c0_6, .slice A0_7 l0_7.length c0_7] 120 (0, 0)) (by (with_reducible repeat (first | refine blk_drewN ?_ _ | refine blk_drew ?_ | refine blk_alloc ?_ _)); exact BK1001.out) hg (Kd.R_ne HO_5.out BK1001.out (by decide))); have n2_ := Aside0.mk (hb); have n3_ := Aside0.mk (ho); clear HO_4; clear BK1001; clear HB; clear HO_5; have HO_4 := n0_; have BK1001 := n1_; have HB := n2_; have HO1016 := n3_; clear n0_ n1_ n2_ n3_; clear ho hb hg hat; obtain ⟨Ao25, co25, eo25⟩ := Kd.R_slice HO1016.out; subst eo25) | ((with_reducible refine gate_callee (f := 115) rfl ?_); refine goesL_ (some 54) rfl rfl Try.func115 (by kernel_rfl) rfl #[.slice Ao25 y1014.length co25] rfl (by simp only [List.map_toArray, List.map_cons, List.map_nil] <;> rfl) ?_; (with_reducible refine (gemotref4_Put.calls _ _ y1014 t1017 t1018 _ ?side1 ?side2 A21.out).mono ?_); (case side1 => repeat (first | exact (Kd.R_reads' HO1016.out).2.2 | (with_reducible refine Kd.C_alloc ?_ _) | (with_reducible refine Kd.C_drewN ?_ _) | (with_reducible refine Kd.C_drew ?_))); (case side2 => exact (Kd.R_reads' HO1016.out).2.1); rintro e w26 ⟨rfl, hb⟩; refine ⟨_, rfl, ?_⟩; have n0_ := Aside0.mk (Kd.R_below (by (with_reducible repeat (first | apply Kd.R_alloc | apply Kd.R_drewN | apply Kd.R_drew)); exact HO_4.out) hb); have n1_ := Aside0.mk (Kd.R_below (by (with_reducible repeat (first | apply Kd.R_alloc | apply Kd.R_drewN | apply Kd.R_drew)); exact HO1016.out) hb); have n2_ := Aside0.mk (blk_below (g := gb1001) (o := .cells #[.int .i64 a0_0, .int .i64 a0_1, .int .i64 a0_2, .int .i64 a0_3, .int .i64 a0_4, .int .i64 a0_5, .slice A0_6 l0_6.length c0_6, .slice A0_7 l0_7.length c0_7] 120 (0, 0)) (by (with_reducible repeat (first | refine blk_drewN ?_ _ | refine blk_drew ?_ | refine blk_alloc ?_ _)); exact BK1001.out) hb); have n3_ := Aside0.mk (below_step (by repeat (with_reducible first | exact HB.out | apply below_alloc | apply pw_below_drewN | apply below_drew1 | refine below_set ?_ GE1001.out)) hb); clear HO_4; clear HO1016; clear BK1001; clear HB; have HO_4 := n0_; have HO1016 := n1_; have BK1001 := n2_; have HB := n3_; clear n0_ n1_ n2_ n3_; (try clear hb)))
              go_ret2
              exact ⟨by first | rfl | (simp [errW_none, errW_some] <;> rfl) | (simp [*, errW_none, errW_some] <;> rfl), by repeat (first | (with_reducible first | exact HB.out | apply below_alloc | apply pw_below_drewN | apply below_drew1 | refine below_set ?_ GE1001.out) | exact HB.out)⟩
            · rw [if_neg c20] at H
              exact absurd H (by simp)
    · rw [if_neg c4] at H
      exact absurd H (by simp)
  · replace c3 := Bool.eq_false_iff.mpr c3
    subst c3; have H1 : (some ((⟨#[]⟩ : ByteArray), 1)) = some (r1, r2) := by rw [if_neg (show ¬ (false = true) by decide)] at H; exact H
    clear H; have H := H1; clear H1; simp only [Option.some.injEq, Prod.mk.injEq] at H; obtain ⟨rfl, rfl⟩ := H; go_enter Try.func79, Try.ntmps79
    go_wp2_with (first | ((with_reducible refine gate_dst (N := 1) rfl ?_); refine box_event ?hg (N := 1) ?hd (cs := #[.int .i64 a0_0, .int .i64 a0_1, .int .i64 a0_2, .int .i64 a0_3, .int .i64 a0_4, .int .i64 a0_5, .slice A0_6 l0_6.length c0_6, .slice A0_7 l0_7.length c0_7]) (t := 120) ?hr ?_; (case hd => rfl); (case hg => rfl); (case hr => first | (go_simp; done) | (go_simp; rfl)); intro gb1001 hg w27 hbox hb; have n0_ := Aside0.mk (below_step (by repeat with_reducible first | exact HB.out | apply below_alloc | apply pw_below_drewN | apply below_drew1) hb); have n1_ := Aside0.mk (hbox); have n2_ := Aside0.mk ((by rw [hg]; exact (below_size (by repeat with_reducible first | exact HB.out | apply below_alloc | apply pw_below_drewN | apply below_drew1)) : w.heap.size ≤ gb1001)); have n3_ := Aside0.mk ((by rw [hg]; exact (below_size (by repeat with_reducible first | exact HB.out | apply below_alloc | apply pw_below_drewN | apply below_drew1)) : w.heap.size ≤ gb1001)); clear HB; have HB := n0_; have BK1001 := n1_; have GW1001 := n2_; have GE1001 := n3_; clear n0_ n1_ n2_ n3_; clear hb hbox hg; obtain ⟨hcz28_0, hcz28_1, hcz28_2, hcz28_3, hcz28_4, hcz28_5, hcz28_6, hcz28_7, hfz28_0, hfz28_1, hfz28_2, hfz28_3, hfz28_4, hfz28_5, hfz28_6, hfz28_7⟩ := blk8 BK1001.out) | ((with_reducible refine gate_callee (f := 113) rfl ?_); refine goesL_ (some 8) rfl rfl Try.func113 (by kernel_rfl) rfl #[.agg #[.int .i64 a0_0, .int .i64 a0_1, .int .i64 a0_2, .int .i64 a0_3, .int .i64 a0_4, .int .i64 a0_5, .slice A0_6 l0_6.length c0_6, .slice A0_7 l0_7.length c0_7]] rfl (by (try simp only [List.map_toArray, List.map_cons, List.map_nil]); first | done | rfl | (simp only [List.length_drop, List.length_take]; rfl)) ?_; (with_reducible refine (gemotref4_Right.calls a0_0 a0_1 a0_2 a0_3 a0_4 a0_5 _ _ l0_6 _ _ l0_7 false _ ?side1 ?side2 ?side3 ?side4 A2.out).mono ?_); (case side1 => repeat (first | exact (Kd.C_below HR0_6.out HB.out) | (with_reducible refine Kd.C_alloc ?_ _) | (with_reducible refine Kd.C_drewN ?_ _) | (with_reducible refine Kd.C_drew ?_))); (case side2 => exact HC0_6.out); (case side3 => repeat (first | exact (Kd.C_below HR0_7.out HB.out) | (with_reducible refine Kd.C_alloc ?_ _) | (with_reducible refine Kd.C_drewN ?_ _) | (with_reducible refine Kd.C_drew ?_))); (case side4 => exact HC0_7.out); rintro e w29 ⟨rfl, hb⟩; refine ⟨_, rfl, ?_⟩; have n0_ := Aside0.mk (blk_below (g := gb1001) (o := .cells #[.int .i64 a0_0, .int .i64 a0_1, .int .i64 a0_2, .int .i64 a0_3, .int .i64 a0_4, .int .i64 a0_5, .slice A0_6 l0_6.length c0_6, .slice A0_7 l0_7.length c0_7] 120 (0, 0)) (by (with_reducible repeat (first | refine blk_drewN ?_ _ | refine blk_drew ?_ | refine blk_alloc ?_ _)); exact BK1001.out) hb); have n1_ := Aside0.mk (below_step (by repeat (with_reducible first | exact HB.out | apply below_alloc | apply pw_below_drewN | apply below_drew1 | refine below_set ?_ GE1001.out)) hb); clear BK1001; clear HB; have BK1001 := n0_; have HB := n1_; clear n0_ n1_; (try clear hb)))
    go_ret2
    exact ⟨by first | rfl | (simp [errW_none, errW_some] <;> rfl) | (simp [*, errW_none, errW_some] <;> rfl), by repeat (first | (with_reducible first | exact HB.out | apply below_alloc | apply pw_below_drewN | apply below_drew1 | refine below_set ?_ GE1001.out) | exact HB.out)⟩
def gemotref4_Pack.f (a0_0 a0_1 a0_2 a0_3 a0_4 a0_5 : Int) (l0_6 : List Int) (l0_7 : List ByteArray) : Option (ByteArray × Int) := if (l0_6.length ≤ 50000 ∧ l0_7.length ≤ 40000) ∧ ∀ x ∈ l0_7, x.size < 9223372036854775808 then some (packM ⟨a0_0, a0_1, a0_2, a0_3, a0_4, a0_5, l0_6, l0_7⟩) else none
theorem gemotref4_Pack.loop (x0 x1 x2 x3 x4 x5 : Int) (x6 : List Int) (ns : List Int) (ts : List ByteArray) (hs : ∀ x ∈ ts, x.size < 9223372036854775808) (hn : ns.length ≤ 50100) (ht : ts.length ≤ 40000) : ∀ (d k i : Nat) (out : List ByteArray), i + d = ns.length → d < k → out = (ns.take i).map numW →
    gemotref4_Pack_p.l0 k ns out i x0 x1 x2 x3 x4 x5 x6 ts = some (putF (ns.map numW ++ ts)) := by
  intro d; induction d with
  | zero =>
    intro k i out hi hk ho; obtain ⟨k, rfl⟩ : ∃ m, k = m + 1 := ⟨k - 1, by omega⟩
    rw [List.take_of_length_le (by omega)] at ho
    simp only [gemotref4_Pack_p.l0]; rw [if_neg (by omega), if_pos (by rw [ho, List.length_map]; omega), ho, gemotref4_Put.f, if_pos]
    · rfl
    · refine ⟨by rw [List.length_append, List.length_map]; omega, ?_⟩
      intro x hx; rcases List.mem_append.mp hx with hx | hx
      · obtain ⟨n, _, rfl⟩ := List.mem_map.mp hx; unfold numW
        rw [numF_size]; omega
      · exact hs x hx
  | succ d ih =>
    intro k i out hi hk ho; obtain ⟨k, rfl⟩ : ∃ m, k = m + 1 := ⟨k - 1, by omega⟩
    have hlt : i < ns.length := by omega
    have hw : wrap64 ((i : Int) + 1) = ((i + 1 : Nat) : Int) := by unfold wrap64; omega
    simp only [gemotref4_Pack_p.l0, gemotref1_Number.f, Option.bind_some]; rw [if_pos (by omega), if_pos (by omega), if_pos (by rw [ho, List.length_map, List.length_take]; omega), hw]
    refine ih k (i + 1) _ (by omega) (by omega) ?_
    rw [ho, List.take_add_one, List.map_append]
    congr 1
    simp [rd, numW, List.getD_eq_getElem?_getD, hlt]
theorem gemotref4_Pack.calls (a0_0 : Int) (a0_1 : Int) (a0_2 : Int) (a0_3 : Int) (a0_4 : Int) (a0_5 : Int) (A0_6 : Option Addr) (c0_6 : Nat) (l0_6 : List Int) (A0_7 : Option Addr) (c0_7 : Nat) (l0_7 : List ByteArray) (r1 : ByteArray) (r2 : Int) (w : World) (hr0_6 : Kd.C (Kd.int .i64) w A0_6 l0_6.length l0_6) (hc0_6 : l0_6.length ≤ c0_6) (hr0_7 : Kd.C Kd.string w A0_7 l0_7.length l0_7) (hc0_7 : l0_7.length ≤ c0_7) (h : gemotref4_Pack.f a0_0 a0_1 a0_2 a0_3 a0_4 a0_5 l0_6 l0_7 = some (r1, r2)) :
    Calls Try.prog 79 #[.agg #[.int .i64 a0_0, .int .i64 a0_1, .int .i64 a0_2, .int .i64 a0_3, .int .i64 a0_4, .int .i64 a0_5, .slice A0_6 l0_6.length c0_6, .slice A0_7 l0_7.length c0_7]] w fun e w' => e = .returned (.tuple #[.string r1, .int .i64 r2]) ∧ Below w.heap.size w w' := by
  unfold gemotref4_Pack.f at h
  split at h
  case isFalse => cases h
  rename_i hs
  refine gemotref4_Pack_p.calls (l0_6.length + 20) a0_0 a0_1 a0_2 a0_3 a0_4 a0_5 A0_6 c0_6 l0_6 A0_7 c0_7 l0_7 r1 r2 w hr0_6 hc0_6 hr0_7 hc0_7 ?_
  rw [← h]
  unfold gemotref4_Pack_p.f gemotref4_Right.f packM
  rw [if_pos ⟨by omega, by omega, hs.2⟩]
  simp only [Option.bind_some]; split
  · rw [if_pos (by simp; omega)]
    exact gemotref4_Pack.loop a0_0 a0_1 a0_2 a0_3 a0_4 a0_5 l0_6 (numsM ⟨a0_0, a0_1, a0_2, a0_3, a0_4, a0_5, l0_6, l0_7⟩) l0_7 hs.2 (by simp [numsM]; omega) hs.1.2 (numsM ⟨a0_0, a0_1, a0_2, a0_3, a0_4, a0_5, l0_6, l0_7⟩).length (l0_6.length + 20) 0 [] (by simp) (by simp only [numsM, List.length_append, List.length_cons, List.length_nil]; omega) rfl
  · rfl
end Go.Proofs.Ytagceackfnkifaa.F
