import Derived.Test.YtpfpmjdifnoeoaaMSealApartF0
import Derived.Test.YtpfpmjdifnoeoaaMSealApartB2
import Derived.Test.YtpfpmjdifnoeoaaMSealApartF57
import Derived.Test.YtpfpmjdifnoeoaaMSealApartB1
namespace Go.Proofs.Ytpfpmjdifnoeoaa.F
open Go.RowKit Go.Proofs.YtpfpmjdifnoeoaaW.PrintWords Go.Proofs.YtpfpmjdifnoeoaaW.PrintLast Go.Proofs.YtpfpmjdifnoeoaaW.PrintMore
attribute [local go_sem] max2_int min2_int max_two min_two max_three min_three max_four min_four
set_option linter.unusedVariables false
set_option linter.unusedSimpArgs false
def seal_Close_p.f (a0 : ByteArray) (a1_0 : Int) (a1_1 : Int) (l1_2 : List Int) (a2 : Int) (a3 : Int) (a4 : ByteArray) : Option (ByteArray × Int) := (seal_Nonce.f a1_0 a1_1 l1_2 a2 a3).bind fun bt1002 => (if bt1002.2 = 0 then ((term_Text.f a4).bind fun bt1004 => (if bt1004.2 = 0 then ((term_Seal.f a0 bt1002.1 bt1004.1).bind fun bt1006 => (some (bt1006.1, bt1006.2))) else (some ((⟨#[]⟩ : ByteArray), bt1004.2)))) else (some ((⟨#[]⟩ : ByteArray), bt1002.2)))
set_option maxHeartbeats 8000000 in
set_option maxRecDepth 100000 in
theorem seal_Close_p.calls (a0 : ByteArray) (a1_0 : Int) (a1_1 : Int) (A1_2 : Option Addr) (c1_2 : Nat) (l1_2 : List Int) (a2 : Int) (a3 : Int) (a4 : ByteArray) (r1 : ByteArray) (r2 : Int) (w : World) (hr1_2 : Kd.C (Kd.int .i64) w A1_2 l1_2.length l1_2) (hc1_2 : l1_2.length ≤ c1_2) (h : seal_Close_p.f a0 a1_0 a1_1 l1_2 a2 a3 a4 = some (r1, r2)) :
    Calls Try.prog 59 #[.string a0, .agg #[.int .i64 a1_0, .int .i64 a1_1, .slice A1_2 l1_2.length c1_2], .int .i64 a2, .int .i64 a3, .string a4] w fun e w' => e = .returned (.tuple #[.string r1, .int .i64 r2]) ∧ Below w.heap.size w w' := by
  have hu65 := Try.underlying65; have HR1_2 := Aside0.mk hr1_2
  have HC1_2 := Aside0.mk hc1_2
  clear hr1_2 hc1_2; have HB := Aside0.mk (Below.refl w.heap.size w)
  have H : ((seal_Nonce.f a1_0 a1_1 l1_2 a2 a3).bind fun bt1002 => (if bt1002.2 = 0 then ((term_Text.f a4).bind fun bt1004 => (if bt1004.2 = 0 then ((term_Seal.f a0 bt1002.1 bt1004.1).bind fun bt1006 => (some (bt1006.1, bt1006.2))) else (some ((⟨#[]⟩ : ByteArray), bt1004.2)))) else (some ((⟨#[]⟩ : ByteArray), bt1002.2)))) = some (r1, r2) := h
  clear h; replace H := Option.bind_eq_some_iff.mp H
  obtain ⟨⟨t1002, t1003⟩, A60, H⟩ := H
  replace H : (if t1003 = 0 then ((term_Text.f a4).bind fun bt1004 => (if bt1004.2 = 0 then ((term_Seal.f a0 t1002 bt1004.1).bind fun bt1006 => (some (bt1006.1, bt1006.2))) else (some ((⟨#[]⟩ : ByteArray), bt1004.2)))) else (some ((⟨#[]⟩ : ByteArray), t1003))) = some (r1, r2) := H
  have A6 := Aside0.mk A60
  clear A60; by_cases c7 : t1003 = 0
  · rw [if_pos c7] at H
    have c7b0 : (t1003 == 0) = true := beq_iff_eq.mpr c7
    have c7b1 : (t1003 != 0) = false := bne_eq_false_iff_eq.mpr c7
    clear c7; replace H := Option.bind_eq_some_iff.mp H
    obtain ⟨⟨t1004, t1005⟩, A80, H⟩ := H
    replace H : (if t1005 = 0 then ((term_Seal.f a0 t1002 t1004).bind fun bt1006 => (some (bt1006.1, bt1006.2))) else (some ((⟨#[]⟩ : ByteArray), t1005))) = some (r1, r2) := H
    have A8 := Aside0.mk A80
    clear A80; by_cases c9 : t1005 = 0
    · rw [if_pos c9] at H
      have c9b0 : (t1005 == 0) = true := beq_iff_eq.mpr c9
      have c9b1 : (t1005 != 0) = false := bne_eq_false_iff_eq.mpr c9
      clear c9; replace H := Option.bind_eq_some_iff.mp H
      obtain ⟨⟨t1006, t1007⟩, A100, H⟩ := H
      replace H : (some (t1006, t1007)) = some (r1, r2) := H
      have A10 := Aside0.mk A100
      clear A100; simp only [Option.some.injEq, Prod.mk.injEq] at H; obtain ⟨rfl, rfl⟩ := H; go_enter Try.func59, Try.ntmps59
      go_wp2_with (first | ((with_reducible refine gate_dst (N := 6) rfl ?_); refine box_event ?hg (N := 6) ?hd (cs := #[.int .i64 a1_0, .int .i64 a1_1, .slice A1_2 l1_2.length c1_2]) (t := 65) ?hr ?_; (case hd => rfl); (case hg => rfl); (case hr => first | (go_simp; done) | (go_simp; rfl)); intro gb1001 hg w11 hbox hb; have n0_ := Aside0.mk (below_step (by repeat with_reducible first | exact HB.out | apply below_alloc | apply pw_below_drewN | apply below_drew1) hb); have n1_ := Aside0.mk (hbox); have n2_ := Aside0.mk ((by rw [hg]; exact (below_size (by repeat with_reducible first | exact HB.out | apply below_alloc | apply pw_below_drewN | apply below_drew1)) : w.heap.size ≤ gb1001)); have n3_ := Aside0.mk ((by rw [hg]; exact (below_size (by repeat with_reducible first | exact HB.out | apply below_alloc | apply pw_below_drewN | apply below_drew1)) : w.heap.size ≤ gb1001)); clear HB; have HB := n0_; have BK1001 := n1_; have GW1001 := n2_; have GE1001 := n3_; clear n0_ n1_ n2_ n3_; clear hb hbox hg; have hcz12_0 : w11.cell? ⟨gb1001, 0, none⟩ = some (.int .i64 a1_0) := (blk_cell BK1001.out 0).trans rfl; have hcz12_1 : w11.cell? ⟨gb1001, 1, none⟩ = some (.int .i64 a1_1) := (blk_cell BK1001.out 1).trans rfl; have hcz12_2 : w11.cell? ⟨gb1001, 2, none⟩ = some (.slice A1_2 l1_2.length c1_2) := (blk_cell BK1001.out 2).trans rfl; have hfz12_0 := blk_frozen BK1001.out 0; have hfz12_1 := blk_frozen BK1001.out 1; have hfz12_2 := blk_frozen BK1001.out 2) | ((with_reducible refine gate_callee (f := 57) rfl ?_); refine goesL_ (some 19) rfl rfl Try.func57 (by kernel_rfl) rfl #[.agg #[.int .i64 a1_0, .int .i64 a1_1, .slice A1_2 l1_2.length c1_2], .int .i64 a2, .int .i64 a3] rfl (by (try simp only [List.map_toArray, List.map_cons, List.map_nil]); first | done | rfl | (simp only [List.length_drop, List.length_take]; rfl)) ?_; (with_reducible refine (seal_Nonce.calls a1_0 a1_1 _ _ l1_2 a2 a3 t1002 t1003 _ ?side1 ?side2 A6.out).mono ?_); (case side1 => repeat (first | exact (Kd.C_below HR1_2.out HB.out) | (with_reducible refine Kd.C_alloc ?_ _) | (with_reducible refine Kd.C_drewN ?_ _) | (with_reducible refine Kd.C_drew ?_))); (case side2 => exact HC1_2.out); rintro e w13 ⟨rfl, hb⟩; refine ⟨_, rfl, ?_⟩; have n0_ := Aside0.mk (blk_below (g := gb1001) (o := .cells #[.int .i64 a1_0, .int .i64 a1_1, .slice A1_2 l1_2.length c1_2] 65 (0, 0)) (by (with_reducible repeat (first | refine blk_drewN ?_ _ | refine blk_drew ?_ | refine blk_alloc ?_ _)); exact BK1001.out) hb); have n1_ := Aside0.mk (below_step (by repeat (with_reducible first | exact HB.out | apply below_alloc | apply pw_below_drewN | apply below_drew1 | refine below_set ?_ GE1001.out)) hb); clear BK1001; clear HB; have BK1001 := n0_; have HB := n1_; clear n0_ n1_; (try clear hb)) | ((with_reducible refine gate_callee (f := 79) rfl ?_); refine goesL_ (some 27) rfl rfl Try.func79 (by kernel_rfl) rfl #[.string a4] rfl (by simp only [List.map_toArray, List.map_cons, List.map_nil] <;> rfl) ?_; (with_reducible refine (term_Text.calls a4 t1004 t1005 _ A8.out).mono ?_); rintro e w14 ⟨rfl, hb⟩; refine ⟨_, rfl, ?_⟩; have n0_ := Aside0.mk (blk_below (g := gb1001) (o := .cells #[.int .i64 a1_0, .int .i64 a1_1, .slice A1_2 l1_2.length c1_2] 65 (0, 0)) (by (with_reducible repeat (first | refine blk_drewN ?_ _ | refine blk_drew ?_ | refine blk_alloc ?_ _)); exact BK1001.out) hb); have n1_ := Aside0.mk (below_step (by repeat (with_reducible first | exact HB.out | apply below_alloc | apply pw_below_drewN | apply below_drew1 | refine below_set ?_ GE1001.out)) hb); clear BK1001; clear HB; have BK1001 := n0_; have HB := n1_; clear n0_ n1_; (try clear hb)) | ((with_reducible refine gate_callee (f := 95) rfl ?_); refine goesL_ (some 36) rfl rfl Try.func95 (by kernel_rfl) rfl #[.string a0, .string t1002, .string t1004] rfl (by simp only [List.map_toArray, List.map_cons, List.map_nil] <;> rfl) ?_; (with_reducible refine (term_Seal.calls a0 t1002 t1004 t1006 t1007 _ A10.out).mono ?_); rintro e w15 ⟨rfl, hb⟩; refine ⟨_, rfl, ?_⟩; have n0_ := Aside0.mk (blk_below (g := gb1001) (o := .cells #[.int .i64 a1_0, .int .i64 a1_1, .slice A1_2 l1_2.length c1_2] 65 (0, 0)) (by (with_reducible repeat (first | refine blk_drewN ?_ _ | refine blk_drew ?_ | refine blk_alloc ?_ _)); exact BK1001.out) hb); have n1_ := Aside0.mk (below_step (by repeat (with_reducible first | exact HB.out | apply below_alloc | apply pw_below_drewN | apply below_drew1 | refine below_set ?_ GE1001.out)) hb); clear BK1001; clear HB; have BK1001 := n0_; have HB := n1_; clear n0_ n1_; (try clear hb)))
      go_ret2
      exact ⟨by first | rfl | (simp [errW_none, errW_some] <;> rfl) | (simp [*, errW_none, errW_some] <;> rfl), by repeat (first | (with_reducible first | exact HB.out | apply below_alloc | apply pw_below_drewN | apply below_drew1 | refine below_set ?_ GE1001.out) | exact HB.out)⟩
    · rw [if_neg c9] at H
      have c9b0 : (t1005 == 0) = false := beq_eq_false_iff_ne.mpr c9
      have c9b1 : (t1005 != 0) = true := bne_iff_ne.mpr c9
      simp only [Option.some.injEq, Prod.mk.injEq] at H; obtain ⟨rfl, rfl⟩ := H; go_enter Try.func59, Try.ntmps59
      go_wp2_with (first | ((with_reducible refine gate_dst (N := 6) rfl ?_); refine box_event ?hg (N := 6) ?hd (cs := #[.int .i64 a1_0, .int .i64 a1_1, .slice A1_2 l1_2.length c1_2]) (t := 65) ?hr ?_; (case hd => rfl); (case hg => rfl); (case hr => first | (go_simp; done) | (go_simp; rfl)); intro gb1001 hg w16 hbox hb; have n0_ := Aside0.mk (below_step (by repeat with_reducible first | exact HB.out | apply below_alloc | apply pw_below_drewN | apply below_drew1) hb); have n1_ := Aside0.mk (hbox); have n2_ := Aside0.mk ((by rw [hg]; exact (below_size (by repeat with_reducible first | exact HB.out | apply below_alloc | apply pw_below_drewN | apply below_drew1)) : w.heap.size ≤ gb1001)); have n3_ := Aside0.mk ((by rw [hg]; exact (below_size (by repeat with_reducible first | exact HB.out | apply below_alloc | apply pw_below_drewN | apply below_drew1)) : w.heap.size ≤ gb1001)); clear HB; have HB := n0_; have BK1001 := n1_; have GW1001 := n2_; have GE1001 := n3_; clear n0_ n1_ n2_ n3_; clear hb hbox hg; have hcz17_0 : w16.cell? ⟨gb1001, 0, none⟩ = some (.int .i64 a1_0) := (blk_cell BK1001.out 0).trans rfl; have hcz17_1 : w16.cell? ⟨gb1001, 1, none⟩ = some (.int .i64 a1_1) := (blk_cell BK1001.out 1).trans rfl; have hcz17_2 : w16.cell? ⟨gb1001, 2, none⟩ = some (.slice A1_2 l1_2.length c1_2) := (blk_cell BK1001.out 2).trans rfl; have hfz17_0 := blk_frozen BK1001.out 0; have hfz17_1 := blk_frozen BK1001.out 1; have hfz17_2 := blk_frozen BK1001.out 2) | ((with_reducible refine gate_callee (f := 57) rfl ?_); refine goesL_ (some 19) rfl rfl Try.func57 (by kernel_rfl) rfl #[.agg #[.int .i64 a1_0, .int .i64 a1_1, .slice A1_2 l1_2.length c1_2], .int .i64 a2, .int .i64 a3] rfl (by (try simp only [List.map_toArray, List.map_cons, List.map_nil]); first | done | rfl | (simp only [List.length_drop, List.length_take]; rfl)) ?_; (with_reducible refine (seal_Nonce.calls a1_0 a1_1 _ _ l1_2 a2 a3 t1002 t1003 _ ?side1 ?side2 A6.out).mono ?_); (case side1 => repeat (first | exact (Kd.C_below HR1_2.out HB.out) | (with_reducible refine Kd.C_alloc ?_ _) | (with_reducible refine Kd.C_drewN ?_ _) | (with_reducible refine Kd.C_drew ?_))); (case side2 => exact HC1_2.out); rintro e w18 ⟨rfl, hb⟩; refine ⟨_, rfl, ?_⟩; have n0_ := Aside0.mk (blk_below (g := gb1001) (o := .cells #[.int .i64 a1_0, .int .i64 a1_1, .slice A1_2 l1_2.length c1_2] 65 (0, 0)) (by (with_reducible repeat (first | refine blk_drewN ?_ _ | refine blk_drew ?_ | refine blk_alloc ?_ _)); exact BK1001.out) hb); have n1_ := Aside0.mk (below_step (by repeat (with_reducible first | exact HB.out | apply below_alloc | apply pw_below_drewN | apply below_drew1 | refine below_set ?_ GE1001.out)) hb); clear BK1001; clear HB; have BK1001 := n0_; have HB := n1_; clear n0_ n1_; (try clear hb)) | ((with_reducible refine gate_callee (f := 79) rfl ?_); refine goesL_ (some 27) rfl rfl Try.func79 (by kernel_rfl) rfl #[.string a4] rfl (by simp only [List.map_toArray, List.map_cons, List.map_nil] <;> rfl) ?_; (with_reducible refine (term_Text.calls a4 t1004 t1005 _ A8.out).mono ?_); rintro e w19 ⟨rfl, hb⟩; refine ⟨_, rfl, ?_⟩; have n0_ := Aside0.mk (blk_below (g := gb1001) (o := .cells #[.int .i64 a1_0, .int .i64 a1_1, .slice A1_2 l1_2.length c1_2] 65 (0, 0)) (by (with_reducible repeat (first | refine blk_drewN ?_ _ | refine blk_drew ?_ | refine blk_alloc ?_ _)); exact BK1001.out) hb); have n1_ := Aside0.mk (below_step (by repeat (with_reducible first | exact HB.out | apply below_alloc | apply pw_below_drewN | apply below_drew1 | refine below_set ?_ GE1001.out)) hb); clear BK1001; clear HB; have BK1001 := n0_; have HB := n1_; clear n0_ n1_; (try clear hb)))
      go_ret2
      exact ⟨by first | rfl | (simp [errW_none, errW_some] <;> rfl) | (simp [*, errW_none, errW_some] <;> rfl), by repeat (first | (with_reducible first | exact HB.out | apply below_alloc | apply pw_below_drewN | apply below_drew1 | refine below_set ?_ GE1001.out) | exact HB.out)⟩
  · rw [if_neg c7] at H
    have c7b0 : (t1003 == 0) = false := beq_eq_false_iff_ne.mpr c7
    have c7b1 : (t1003 != 0) = true := bne_iff_ne.mpr c7
    simp only [Option.some.injEq, Prod.mk.injEq] at H; obtain ⟨rfl, rfl⟩ := H; go_enter Try.func59, Try.ntmps59
    go_wp2_with (first | ((with_reducible refine gate_dst (N := 6) rfl ?_); refine box_event ?hg (N := 6) ?hd (cs := #[.int .i64 a1_0, .int .i64 a1_1, .slice A1_2 l1_2.length c1_2]) (t := 65) ?hr ?_; (case hd => rfl); (case hg => rfl); (case hr => first | (go_simp; done) | (go_simp; rfl)); intro gb1001 hg w20 hbox hb; have n0_ := Aside0.mk (below_step (by repeat with_reducible first | exact HB.out | apply below_alloc | apply pw_below_drewN | apply below_drew1) hb); have n1_ := Aside0.mk (hbox); have n2_ := Aside0.mk ((by rw [hg]; exact (below_size (by repeat with_reducible first | exact HB.out | apply below_alloc | apply pw_below_drewN | apply below_drew1)) : w.heap.size ≤ gb1001)); have n3_ := Aside0.mk ((by rw [hg]; exact (below_size (by repeat with_reducible first | exact HB.out | apply below_alloc | apply pw_below_drewN | apply below_drew1)) : w.heap.size ≤ gb1001)); clear HB; have HB := n0_; have BK1001 := n1_; have GW1001 := n2_; have GE1001 := n3_; clear n0_ n1_ n2_ n3_; clear hb hbox hg; have hcz21_0 : w20.cell? ⟨gb1001, 0, none⟩ = some (.int .i64 a1_0) := (blk_cell BK1001.out 0).trans rfl; have hcz21_1 : w20.cell? ⟨gb1001, 1, none⟩ = some (.int .i64 a1_1) := (blk_cell BK1001.out 1).trans rfl; have hcz21_2 : w20.cell? ⟨gb1001, 2, none⟩ = some (.slice A1_2 l1_2.length c1_2) := (blk_cell BK1001.out 2).trans rfl; have hfz21_0 := blk_frozen BK1001.out 0; have hfz21_1 := blk_frozen BK1001.out 1; have hfz21_2 := blk_frozen BK1001.out 2) | ((with_reducible refine gate_callee (f := 57) rfl ?_); refine goesL_ (some 19) rfl rfl Try.func57 (by kernel_rfl) rfl #[.agg #[.int .i64 a1_0, .int .i64 a1_1, .slice A1_2 l1_2.length c1_2], .int .i64 a2, .int .i64 a3] rfl (by (try simp only [List.map_toArray, List.map_cons, List.map_nil]); first | done | rfl | (simp only [List.length_drop, List.length_take]; rfl)) ?_; (with_reducible refine (seal_Nonce.calls a1_0 a1_1 _ _ l1_2 a2 a3 t1002 t1003 _ ?side1 ?side2 A6.out).mono ?_); (case side1 => repeat (first | exact (Kd.C_below HR1_2.out HB.out) | (with_reducible refine Kd.C_alloc ?_ _) | (with_reducible refine Kd.C_drewN ?_ _) | (with_reducible refine Kd.C_drew ?_))); (case side2 => exact HC1_2.out); rintro e w22 ⟨rfl, hb⟩; refine ⟨_, rfl, ?_⟩; have n0_ := Aside0.mk (blk_below (g := gb1001) (o := .cells #[.int .i64 a1_0, .int .i64 a1_1, .slice A1_2 l1_2.length c1_2] 65 (0, 0)) (by (with_reducible repeat (first | refine blk_drewN ?_ _ | refine blk_drew ?_ | refine blk_alloc ?_ _)); exact BK1001.out) hb); have n1_ := Aside0.mk (below_step (by repeat (with_reducible first | exact HB.out | apply below_alloc | apply pw_below_drewN | apply below_drew1 | refine below_set ?_ GE1001.out)) hb); clear BK1001; clear HB; have BK1001 := n0_; have HB := n1_; clear n0_ n1_; (try clear hb)))
    go_ret2
    exact ⟨by first | rfl | (simp [errW_none, errW_some] <;> rfl) | (simp [*, errW_none, errW_some] <;> rfl), by repeat (first | (with_reducible first | exact HB.out | apply below_alloc | apply pw_below_drewN | apply below_drew1 | refine below_set ?_ GE1001.out) | exact HB.out)⟩
theorem ofF_size (h : ByteArray) (l : List ByteArray) : (ofF h l).1.size ≤ 20000 := by
  unfold ofF wholeF
  repeat' split
  all_goals first | exact Nat.zero_le _ | (simp only; omega)
theorem nonceF_size (e c : Int) (l : List Int) (s n : Int) : (nonceF e c l s n).1.size ≤ 20000 := by
  unfold nonceF pairF
  split
  · exact ofF_size _ _
  · exact Nat.zero_le _
theorem textF_size (t : ByteArray) : (textF t).1.size ≤ 103 := by
  unfold textF
  split
  · exact Nat.zero_le _
  · have h : (strOfNums [116, 0, (t.size : Int)]).size = 3 := rfl
    rw [ByteArray.size_append, h]
    omega
def closeF (key : ByteArray) (e c : Int) (l : List Int) (s n : Int) (t : ByteArray) : ByteArray × Int :=
  if (nonceF e c l s n).2 = 0 then (if (textF t).2 = 0 then sealF key (nonceF e c l s n).1 (textF t).1 else (⟨#[]⟩, (textF t).2)) else (⟨#[]⟩, (nonceF e c l s n).2)
def seal_Close.f (key : ByteArray) (e c : Int) (l : List Int) (s n : Int) (t : ByteArray) : Option (ByteArray × Int) := if l.length < 1099511627776 ∧ key.size < 9223372036854775808 then some (closeF key e c l s n t) else none
theorem seal_Close.eq (key : ByteArray) (e c : Int) (l : List Int) (s n : Int) (t : ByteArray) (hl : l.length < 1099511627776 ∧ key.size < 9223372036854775808) : seal_Close_p.f key e c l s n t = some (closeF key e c l s n t) := by
  have h1 := nonceF_size e c l s n
  have h2 := textF_size t
  unfold seal_Close_p.f seal_Nonce.f term_Text.f closeF term_Seal.f
  rw [if_pos hl.1]
  simp only [Option.bind_some]; split
  · split
    · rw [if_pos ⟨hl.2, by omega, by omega⟩]
      rfl
    · rfl
  · rfl
theorem seal_Close.calls (a0 : ByteArray) (a1_0 : Int) (a1_1 : Int) (A1_2 : Option Addr) (c1_2 : Nat) (l1_2 : List Int) (a2 : Int) (a3 : Int) (a4 : ByteArray) (r1 : ByteArray) (r2 : Int) (w : World) (hr1_2 : Kd.C (Kd.int .i64) w A1_2 l1_2.length l1_2) (hc1_2 : l1_2.length ≤ c1_2) (h : seal_Close.f a0 a1_0 a1_1 l1_2 a2 a3 a4 = some (r1, r2)) :
    Calls Try.prog 59 #[.string a0, .agg #[.int .i64 a1_0, .int .i64 a1_1, .slice A1_2 l1_2.length c1_2], .int .i64 a2, .int .i64 a3, .string a4] w fun e w' => e = .returned (.tuple #[.string r1, .int .i64 r2]) ∧ Below w.heap.size w w' := by
  unfold seal_Close.f at h
  split at h
  case isFalse => cases h
  rename_i hs
  exact seal_Close_p.calls a0 a1_0 a1_1 A1_2 c1_2 l1_2 a2 a3 a4 r1 r2 w hr1_2 hc1_2 ((seal_Close.eq a0 a1_0 a1_1 l1_2 a2 a3 a4 hs).trans h)
end Go.Proofs.Ytpfpmjdifnoeoaa.F
