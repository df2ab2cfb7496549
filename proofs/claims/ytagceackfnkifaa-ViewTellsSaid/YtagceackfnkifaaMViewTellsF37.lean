import Derived.Test.YtagceackfnkifaaMViewTellsF0
import Derived.Test.YtagceackfnkifaaMViewTellsF33
import Derived.Test.YtagceackfnkifaaMViewTellsF42
namespace Go.Proofs.Ytagceackfnkifaa.F
open Go.RowKit Go.Proofs.YtagceackfnkifaaW.PrintWords Go.Proofs.YtagceackfnkifaaW.PrintLast Go.Proofs.YtagceackfnkifaaW.PrintMore
attribute [local go_sem] max2_int min2_int max_two min_two max_three min_three max_four min_four
set_option linter.unusedVariables false
set_option linter.unusedSimpArgs false
def view_Term_p.f (a0_0 : Int) (a0_1 : Int) (l0_2 : List Int) : Option (ByteArray × Int) := (view_Right.f a0_0 a0_1 l0_2).bind fun t1002 => (if t1002 = true then ((list_Pack.f 0 a0_0 a0_1 0 0 0 l0_2 ([] : List ByteArray)).bind fun bt1003 => (some (bt1003.1, bt1003.2))) else (some ((⟨#[]⟩ : ByteArray), 1)))
set_option maxHeartbeats 8000000 in
set_option maxRecDepth 100000 in
theorem view_Term_p.calls (a0_0 : Int) (a0_1 : Int) (A0_2 : Option Addr) (c0_2 : Nat) (l0_2 : List Int) (r1 : ByteArray) (r2 : Int) (w : World) (hr0_2 : Kd.C (Kd.int .i64) w A0_2 l0_2.length l0_2) (hc0_2 : l0_2.length ≤ c0_2) (h : view_Term_p.f a0_0 a0_1 l0_2 = some (r1, r2)) :
    Calls Try.prog 37 #[.agg #[.int .i64 a0_0, .int .i64 a0_1, .slice A0_2 l0_2.length c0_2]] w fun e w' => e = .returned (.tuple #[.string r1, .int .i64 r2]) ∧ Below w.heap.size w w' := by
  have hu68 := Try.underlying68
  have hu57 := Try.underlying57
  have hu60 := Try.underlying60
  have HR0_2 := Aside0.mk hr0_2
  have HC0_2 := Aside0.mk hc0_2
  clear hr0_2 hc0_2
  have HB := Aside0.mk (Below.refl w.heap.size w)
  have H : ((view_Right.f a0_0 a0_1 l0_2).bind fun t1002 => (if t1002 = true then ((list_Pack.f 0 a0_0 a0_1 0 0 0 l0_2 ([] : List ByteArray)).bind fun bt1003 => (some (bt1003.1, bt1003.2))) else (some ((⟨#[]⟩ : ByteArray), 1)))) = some (r1, r2) := h
  clear h
  replace H := Option.bind_eq_some_iff.mp H
  obtain ⟨t1002, A20, H⟩ := H
  replace H : (if t1002 = true then ((list_Pack.f 0 a0_0 a0_1 0 0 0 l0_2 ([] : List ByteArray)).bind fun bt1003 => (some (bt1003.1, bt1003.2))) else (some ((⟨#[]⟩ : ByteArray), 1))) = some (r1, r2) := H
  have A2 := Aside0.mk A20
  clear A20
  by_cases c3 : t1002 = true
  · subst c3
    have H1 : ((list_Pack.f 0 a0_0 a0_1 0 0 0 l0_2 ([] : List ByteArray)).bind fun bt1003 => (some (bt1003.1, bt1003.2))) = some (r1, r2) := by rw [if_pos rfl] at H; exact H
    clear H
    have H := H1
    clear H1
    replace H := Option.bind_eq_some_iff.mp H
    obtain ⟨⟨t1003, t1004⟩, A40, H⟩ := H
    replace H : (some (t1003, t1004)) = some (r1, r2) := H
    have A4 := Aside0.mk A40
    clear A40
    simp only [Option.some.injEq, Prod.mk.injEq] at H
    obtain ⟨rfl, rfl⟩ := H
    go_enter Try.func37, Try.ntmps37
    go_wp2_with (first | ((with_reducible refine gate_dst (N := 1) rfl ?_); refine box_event ?hg (N := 1) ?hd (cs := #[.int .i64 a0_0, .int .i64 a0_1, .slice A0_2 l0_2.length c0_2]) (t := 68) ?hr ?_; (case hd => rfl); (case hg => rfl); (case hr => first | (go_simp; done) | (go_simp; rfl)); intro gb1001 hg w5 hbox hb; have n0_ := Aside0.mk (below_step (by repeat with_reducible first | exact HB.out | apply below_alloc | apply pw_below_drewN | apply below_drew1) hb); have n1_ := Aside0.mk (hbox); have n2_ := Aside0.mk ((by rw [hg]; exact (below_size (by repeat with_reducible first | exact HB.out | apply below_alloc | apply pw_below_drewN | apply below_drew1)) : w.heap.size ≤ gb1001)); have n3_ := Aside0.mk ((by rw [hg]; exact (below_size (by repeat with_reducible first | exact HB.out | apply below_alloc | apply pw_below_drewN | apply below_drew1)) : w.heap.size ≤ gb1001)); clear HB; have HB := n0_; have BK1001 := n1_; have GW1001 := n2_; have GE1001 := n3_; clear n0_ n1_ n2_ n3_; clear hb hbox hg; have hcz6_0 : w5.cell? ⟨gb1001, 0, none⟩ = some (.int .i64 a0_0) := (blk_cell BK1001.out 0).trans rfl; have hcz6_1 : w5.cell? ⟨gb1001, 1, none⟩ = some (.int .i64 a0_1) := (blk_cell BK1001.out 1).trans rfl; have hcz6_2 : w5.cell? ⟨gb1001, 2, none⟩ = some (.slice A0_2 l0_2.length c0_2) := (blk_cell BK1001.out 2).trans rfl; have hfz6_0 := blk_frozen BK1001.out 0; have hfz6_1 := blk_frozen BK1001.out 1; have hfz6_2 := blk_frozen BK1001.out 2) | ((with_reducible refine gate_callee (f := 42) rfl ?_); refine goesL_ (some 5) rfl rfl Try.func42 (by kernel_rfl) rfl #[.agg #[.int .i64 a0_0, .int .i64 a0_1, .slice A0_2 l0_2.length c0_2]] rfl (by (try simp only [List.map_toArray, List.map_cons, List.map_nil]); first | done | rfl | (simp only [List.length_drop, List.length_take]; rfl)) ?_; (with_reducible refine (view_Right.calls a0_0 a0_1 _ _ l0_2 true _ ?side1 ?side2 A2.out).mono ?_); (case side1 => repeat (first | exact (Kd.C_below HR0_2.out HB.out) | (with_reducible refine Kd.C_alloc ?_ _) | (with_reducible refine Kd.C_drewN ?_ _) | (with_reducible refine Kd.C_drew ?_))); (case side2 => exact HC0_2.out); rintro e w7 ⟨rfl, hb⟩; refine ⟨_, rfl, ?_⟩; have n0_ := Aside0.mk (blk_below (g := gb1001) (o := .cells #[.int .i64 a0_0, .int .i64 a0_1, .slice A0_2 l0_2.length c0_2] 68 (0, 0)) (by (with_reducible repeat (first | refine blk_drewN ?_ _ | refine blk_drew ?_ | refine blk_alloc ?_ _)); exact BK1001.out) hb); have n1_ := Aside0.mk (below_step (by repeat (with_reducible first | exact HB.out | apply below_alloc | apply pw_below_drewN | apply below_drew1 | refine below_set ?_ GE1001.out)) hb); clear BK1001; clear HB; have BK1001 := n0_; have HB := n1_; clear n0_ n1_; (try clear hb); have hcz8_0 : w7.cell? ⟨gb1001, 0, none⟩ = some (.int .i64 a0_0) := (blk_cell BK1001.out 0).trans rfl; have hcz8_1 : w7.cell? ⟨gb1001, 1, none⟩ = some (.int .i64 a0_1) := (blk_cell BK1001.out 1).trans rfl; have hcz8_2 : w7.cell? ⟨gb1001, 2, none⟩ = some (.slice A0_2 l0_2.length c0_2) := (blk_cell BK1001.out 2).trans rfl; have hfz8_0 := blk_frozen BK1001.out 0; have hfz8_1 := blk_frozen BK1001.out 1; have hfz8_2 := blk_frozen BK1001.out 2) | ((with_reducible refine gate_callee (f := 33) rfl ?_); refine goesL_ (some 12) rfl rfl Try.func33 (by kernel_rfl) rfl #[.agg #[.int .i64 0, .int .i64 a0_0, .int .i64 a0_1, .int .i64 0, .int .i64 0, .int .i64 0, .slice A0_2 l0_2.length c0_2, .slice none 0 0]] rfl (by (try simp only [List.map_toArray, List.map_cons, List.map_nil]); first | done | rfl | (simp only [List.length_drop, List.length_take]; rfl)) ?_; (refine (list_Pack.calls 0 a0_0 a0_1 0 0 0 _ _ l0_2 _ _ ([] : List ByteArray) t1003 t1004 _ ?side1 ?side2 ?side3 ?side4 A4.out).mono ?_); (case side1 => repeat (first | exact (Kd.C_below HR0_2.out HB.out) | (with_reducible refine Kd.C_alloc ?_ _) | (with_reducible refine Kd.C_drewN ?_ _) | (with_reducible refine Kd.C_drew ?_))); (case side2 => exact HC0_2.out); (case side3 => exact Kd.C_nil _ _); (case side4 => exact Nat.le_refl _); rintro e w9 ⟨rfl, hb⟩; refine ⟨_, rfl, ?_⟩; have n0_ := Aside0.mk (blk_below (g := gb1001) (o := .cells #[.int .i64 a0_0, .int .i64 a0_1, .slice A0_2 l0_2.length c0_2] 68 (0, 0)) (by (with_reducible repeat (first | refine blk_drewN ?_ _ | refine blk_drew ?_ | refine blk_alloc ?_ _)); exact BK1001.out) hb); have n1_ := Aside0.mk (below_step (by repeat (with_reducible first | exact HB.out | apply below_alloc | apply pw_below_drewN | apply below_drew1 | refine below_set ?_ GE1001.out)) hb); clear BK1001; clear HB; have BK1001 := n0_; have HB := n1_; clear n0_ n1_; (try clear hb)))
    go_ret2
    exact ⟨by first | rfl | (simp [errW_none, errW_some] <;> rfl) | (simp [*, errW_none, errW_some] <;> rfl), by repeat (first | (with_reducible first | exact HB.out | apply below_alloc | apply pw_below_drewN | apply below_drew1 | refine below_set ?_ GE1001.out) | exact HB.out)⟩
  · replace c3 := Bool.eq_false_iff.mpr c3
    subst c3
    have H1 : (some ((⟨#[]⟩ : ByteArray), 1)) = some (r1, r2) := by rw [if_neg (show ¬ (false = true) by decide)] at H; exact H
    clear H
    have H := H1
    clear H1
    simp only [Option.some.injEq, Prod.mk.injEq] at H
    obtain ⟨rfl, rfl⟩ := H
    go_enter Try.func37, Try.ntmps37
    go_wp2_with (first | ((with_reducible refine gate_dst (N := 1) rfl ?_); refine box_event ?hg (N := 1) ?hd (cs := #[.int .i64 a0_0, .int .i64 a0_1, .slice A0_2 l0_2.length c0_2]) (t := 68) ?hr ?_; (case hd => rfl); (case hg => rfl); (case hr => first | (go_simp; done) | (go_simp; rfl)); intro gb1001 hg w10 hbox hb; have n0_ := Aside0.mk (below_step (by repeat with_reducible first | exact HB.out | apply below_alloc | apply pw_below_drewN | apply below_drew1) hb); have n1_ := Aside0.mk (hbox); have n2_ := Aside0.mk ((by rw [hg]; exact (below_size (by repeat with_reducible first | exact HB.out | apply below_alloc | apply pw_below_drewN | apply below_drew1)) : w.heap.size ≤ gb1001)); have n3_ := Aside0.mk ((by rw [hg]; exact (below_size (by repeat with_reducible first | exact HB.out | apply below_alloc | apply pw_below_drewN | apply below_drew1)) : w.heap.size ≤ gb1001)); clear HB; have HB := n0_; have BK1001 := n1_; have GW1001 := n2_; have GE1001 := n3_; clear n0_ n1_ n2_ n3_; clear hb hbox hg; have hcz11_0 : w10.cell? ⟨gb1001, 0, none⟩ = some (.int .i64 a0_0) := (blk_cell BK1001.out 0).trans rfl; have hcz11_1 : w10.cell? ⟨gb1001, 1, none⟩ = some (.int .i64 a0_1) := (blk_cell BK1001.out 1).trans rfl; have hcz11_2 : w10.cell? ⟨gb1001, 2, none⟩ = some (.slice A0_2 l0_2.length c0_2) := (blk_cell BK1001.out 2).trans rfl; have hfz11_0 := blk_frozen BK1001.out 0; have hfz11_1 := blk_frozen BK1001.out 1; have hfz11_2 := blk_frozen BK1001.out 2) | ((with_reducible refine gate_callee (f := 42) rfl ?_); refine goesL_ (some 5) rfl rfl Try.func42 (by kernel_rfl) rfl #[.agg #[.int .i64 a0_0, .int .i64 a0_1, .slice A0_2 l0_2.length c0_2]] rfl (by (try simp only [List.map_toArray, List.map_cons, List.map_nil]); first | done | rfl | (simp only [List.length_drop, List.length_take]; rfl)) ?_; (with_reducible refine (view_Right.calls a0_0 a0_1 _ _ l0_2 false _ ?side1 ?side2 A2.out).mono ?_); (case side1 => repeat (first | exact (Kd.C_below HR0_2.out HB.out) | (with_reducible refine Kd.C_alloc ?_ _) | (with_reducible refine Kd.C_drewN ?_ _) | (with_reducible refine Kd.C_drew ?_))); (case side2 => exact HC0_2.out); rintro e w12 ⟨rfl, hb⟩; refine ⟨_, rfl, ?_⟩; have n0_ := Aside0.mk (blk_below (g := gb1001) (o := .cells #[.int .i64 a0_0, .int .i64 a0_1, .slice A0_2 l0_2.length c0_2] 68 (0, 0)) (by (with_reducible repeat (first | refine blk_drewN ?_ _ | refine blk_drew ?_ | refine blk_alloc ?_ _)); exact BK1001.out) hb); have n1_ := Aside0.mk (below_step (by repeat (with_reducible first | exact HB.out | apply below_alloc | apply pw_below_drewN | apply below_drew1 | refine below_set ?_ GE1001.out)) hb); clear BK1001; clear HB; have BK1001 := n0_; have HB := n1_; clear n0_ n1_; (try clear hb)))
    go_ret2
    exact ⟨by first | rfl | (simp [errW_none, errW_some] <;> rfl) | (simp [*, errW_none, errW_some] <;> rfl), by repeat (first | (with_reducible first | exact HB.out | apply below_alloc | apply pw_below_drewN | apply below_drew1 | refine below_set ?_ GE1001.out) | exact HB.out)⟩
def termV (e c : Int) (l : List Int) : ByteArray × Int := if viewB e c l = true then packM ⟨0, e, c, 0, 0, 0, l, []⟩ else (⟨#[]⟩, 1)
def view_Term.f (e c : Int) (l : List Int) : Option (ByteArray × Int) := if l.length < 1099511627776 then some (termV e c l) else none
theorem view_Term.eq (e c : Int) (l : List Int) (hl : l.length < 1099511627776) : view_Term_p.f e c l = some (termV e c l) := by
  unfold view_Term_p.f view_Right.f termV list_Pack.f
  rw [if_pos hl, if_pos ⟨⟨hl, fun x hx => by simp at hx⟩, by simp⟩]
  simp only [Option.bind_some]
  split <;> rfl
theorem view_Term.calls (a0_0 : Int) (a0_1 : Int) (A0_2 : Option Addr) (c0_2 : Nat) (l0_2 : List Int) (r1 : ByteArray) (r2 : Int) (w : World) (hr0_2 : Kd.C (Kd.int .i64) w A0_2 l0_2.length l0_2) (hc0_2 : l0_2.length ≤ c0_2) (h : view_Term.f a0_0 a0_1 l0_2 = some (r1, r2)) :
    Calls Try.prog 37 #[.agg #[.int .i64 a0_0, .int .i64 a0_1, .slice A0_2 l0_2.length c0_2]] w fun e w' => e = .returned (.tuple #[.string r1, .int .i64 r2]) ∧ Below w.heap.size w w' := by
  unfold view_Term.f at h
  split at h
  case isFalse => cases h
  rename_i hs
  exact view_Term_p.calls a0_0 a0_1 A0_2 c0_2 l0_2 r1 r2 w hr0_2 hc0_2 ((view_Term.eq a0_0 a0_1 l0_2 hs).trans h)
end Go.Proofs.Ytagceackfnkifaa.F
