-- Laid by mk.py (a program of this session) over the seat's translation.
import Derived.Test.YtagceackfnkifaaF0
import Derived.Test.YtagceackfnkifaaF23
import Derived.Test.YtagceackfnkifaaF24
import Derived.Test.YtagceackfnkifaaF25
import Derived.Test.YtagceackfnkifaaF29
import Derived.Test.YtagceackfnkifaaF30
import Derived.Test.YtagceackfnkifaaF54
import Derived.Test.YtagceackfnkifaaF58
import Derived.Test.YtagceackfnkifaaB1
import Derived.RegionTactic
import Derived.BigRegion
import Derived.StillTailTactics
import Derived.Deep.RegionWith
namespace Go.Proofs.Ytagceackfnkifaa.F
open Go.RowKit Go.Proofs.YtagceackfnkifaaW.PrintWords Go.Proofs.YtagceackfnkifaaW.PrintLast Go.Proofs.YtagceackfnkifaaW.PrintMore
attribute [local go_sem] max2_int min2_int max_two min_two max_three min_three max_four min_four
set_option linter.unusedVariables false
set_option linter.unusedSimpArgs false

/-! ### gemotlaw8_NetKinds: function 9 -/
open Go.Maps Go.Proofs.Ytagceackfnkifaa.Pure
set_option maxHeartbeats 4000000 in
set_option maxRecDepth 100000 in
theorem gemotlaw8_NetKinds.long (a0 a1 : Int) (a2 : ByteArray) (w : World) (hl : 1000 < a2.size) (hz : a2.size ≤ 9223372036854775807) : Calls Try.prog 9 #[.int .i64 a0, .int .i64 a1, .string a2] w fun e w' => e = .returned (.bool true) ∧ Below w.heap.size w w' := by
  have HNw := Aside0.mk (fun W => newL W)
  have HSh := Aside0.mk (fun W => gemotlaw8_shown.any W)
  have q : decide ((1000 : Int) < (a2.size : Int)) = true := decide_eq_true (by omega)
  clear hl hz; go_enter Try.func9, Try.ntmps9
  go_wp2_with (first
    | (go_at_call 23; go_loud (refine (HSh.out _).mono ?_; rintro e w1 ⟨rfl, hb⟩; have HB1 := Aside0.mk hb; clear hb))
    | (go_at_call 24; go_loud (refine (HNw.out _).mono ?_; rintro e w2 ⟨g, F, rfl, hn, hb⟩; have HB2 := Aside0.mk (below_step HB1.out hb); clear hn hb)))
  go_ret
  exact ⟨rfl, HB2.out⟩
set_option maxHeartbeats 4000000 in
set_option maxRecDepth 100000 in
theorem gemotlaw8_NetKinds.good (a0 a1 : Int) (a2 : ByteArray) (w : World) (hl : a2.size ≤ 1000) (h0 : 1 ≤ a0 ∧ a0 ≤ 8) (h1 : 1 ≤ a1 ∧ a1 ≤ 8) (h2 : rightB a2 = true) : Calls Try.prog 9 #[.int .i64 a0, .int .i64 a1, .string a2] w fun e w' => e = .returned (.bool true) ∧ Below w.heap.size w w' := by
  have HNw := Aside0.mk (fun W => newL W)
  have HSh := Aside0.mk (fun W => gemotlaw8_shown.any W)
  have q : decide ((1000 : Int) < (a2.size : Int)) = false := decide_eq_false (by omega)
  have q00 : decide (1 ≤ a0) = true := decide_eq_true h0.1
  have q01 : decide (a0 ≤ 8) = true := decide_eq_true h0.2
  have q10 : decide (1 ≤ a1) = true := decide_eq_true h1.1
  have q11 : decide (a1 ≤ 8) = true := decide_eq_true h1.2
  have e1 : sendN ⟨[], [], 0⟩ ⟨a0, a1, a2⟩ = (⟨[⟨a0, a1, a2⟩], [a2], 1⟩, 0) := by
    unfold sendN
    rw [if_pos (show goodD ⟨a0, a1, a2⟩ from ⟨h0, h1, h2⟩)]
    rfl
  have e2 : takeN ⟨[⟨a0, a1, a2⟩], [a2], 1⟩ 0 = (⟨[], [a2], 1⟩, ⟨a0, a1, a2⟩, 0) := by
    unfold takeN
    rw [if_pos (by rfl)]
    rfl
  have HS := Aside0.mk (fun (B : Nat) (W : World) (g : Nat) (F : Nat → Prop) (h : NetL B W g ⟨[], [], 0⟩ F) => sendL h ⟨a0, a1, a2⟩ (by decide) (by decide) (by show a2.size < _; omega))
  have HT := Aside0.mk (fun (B : Nat) (W : World) (g : Nat) (F : Nat → Prop) (h : NetL B W g ⟨[⟨a0, a1, a2⟩], [a2], 1⟩ F) => takeL h 0 (by show 1 ≤ 400; decide))
  have HLi := Aside0.mk (fun (W : World) (g : Nat) (F : Nat → Prop) (h : NetIn W g F ⟨[⟨a0, a1, a2⟩], [a2], 1⟩) => net_Net_Lie.calls W g F _ h (by show 1 ≤ 400; decide))
  have HHe := Aside0.mk (fun (W : World) (g : Nat) (F : Nat → Prop) (h : NetIn W g F ⟨[], [a2], 1⟩) => net_Net_Heard.calls W g F _ h (by show 1 < _; decide))
  have HR := Aside0.mk (fun W => term_Right.calls a2 true W (by rw [term_Right.f, if_pos (by omega), h2]))
  rw [e1] at HS
  rw [e2] at HT
  try dsimp only at HT
  clear hl h0 h1 h2 e1 e2; go_enter Try.func9, Try.ntmps9
  go_upto_region 6 with (first
    | (go_at_call 23; go_loud (refine (HSh.out _).mono ?_; rintro e w1 ⟨rfl, hb⟩; have HB1 := Aside0.mk hb; clear hb))
    | (go_at_call 24; go_loud (refine (HNw.out _).mono ?_; rintro e w2 ⟨g, F, rfl, hn, hb⟩; have HN2 := Aside0.mk (hn.lower HB1.out.size); have HB2 := Aside0.mk (below_step HB1.out hb); clear hn hb))
    | ((with_reducible refine gate_dst (N := 9) rfl ?_); refine box_event ?hg (N := 9) ?hd (cs := #[.int .i64 0, .int .i64 0, .string ⟨#[]⟩]) (t := 50) ?hr ?_; (case hd => rfl); (case hg => rfl); (case hr => first | (go_simp; done) | (go_simp; rfl)); intro gd hgd w3 hbox hb; have HB3 := Aside0.mk (below_step HB2.out hb); have HN3 := Aside0.mk (HN2.out.below hb); have HX3 := Aside0.mk (LocB.new (F := F) hbox hgd (fun k hk => (HN2.out.2.1 k hk).2) HB2.out.size); have y0 : w3.cell? ⟨gd, 0, none⟩ = some (.int .i64 0) := (blk_cell hbox 0).trans rfl; have y1 : w3.cell? ⟨gd, 1, none⟩ = some (.int .i64 0) := (blk_cell hbox 1).trans rfl; have y2 : w3.cell? ⟨gd, 2, none⟩ = some (.string ⟨#[]⟩) := (blk_cell hbox 2).trans rfl; have x0 := blk_frozen hbox 0; have x1 := blk_frozen hbox 1; have x2 := blk_frozen hbox 2; clear hbox hb hgd))
  obtain ⟨W, hW⟩ : ∃ W, (((w3.setCell ⟨gd, 0, none⟩ (.int .i64 a0)).setCell ⟨gd, 1, none⟩ (.int .i64 a1)).setCell ⟨gd, 2, none⟩ (.string a2)) = W := ⟨_, rfl⟩
  have HX4 := Aside0.mk (HX3.out.put3 (x := .int .i64 a0) (y := .int .i64 a1) (z := .string a2))
  have HN4 := Aside0.mk (HN3.out.set3 HX3.out.2.1 (.int .i64 a0) (.int .i64 a1) (.string a2))
  have HB4 := Aside0.mk (Below.set3 HB3.out HX3.out.2.2 (.int .i64 a0) (.int .i64 a1) (.string a2))
  rw [hW] at HX4 HN4 HB4 ⊢
  clear hW x0 x1 x2 y0 y1 y2; have d0 : W.cell? ⟨gd, 0, none⟩ = some (.int .i64 a0) := (blk_cell HX4.out.1 0).trans rfl
  have d1 : W.cell? ⟨gd, 1, none⟩ = some (.int .i64 a1) := (blk_cell HX4.out.1 1).trans rfl
  have d2 : W.cell? ⟨gd, 2, none⟩ = some (.string a2) := (blk_cell HX4.out.1 2).trans rfl
  go_upto_region 12 with (first
    | (go_at_call 25; go_loud (refine (HS.out _ _ _ _ HN4.out).mono ?_; rintro e w5 ⟨rfl, F5, hn, hF, hr⟩; have HN5 := Aside0.mk hn; have HX5 := Aside0.mk (HX4.out.near hr hF); have HB5 := Aside0.mk (HB4.out.trans (hr.toBelow (fun k hk => (HN4.out.2.1 k hk).1) HN4.out.2.2)); have f2 : w5.cell? ⟨gd, 2, none⟩ = some (.string a2) := (blk_cell HX5.out.1 2).trans rfl; clear hn hF hr d0 d1 d2))
    | (go_at_call 59; go_loud (refine (HR.out _).mono ?_; rintro e w6 ⟨rfl, hb⟩; have HN6 := Aside0.mk (HN5.out.below hb); have HX6 := Aside0.mk (HX5.out.below hb); have HB6 := Aside0.mk (below_step HB5.out hb); clear hb f2))
    | (go_at_call 58; go_loud (refine (HLi.out _ _ _ HN6.out.1).mono ?_; rintro e w7 ⟨vl, rfl, hl, hb⟩; have HN7 := Aside0.mk (HN6.out.below hb); have HX7 := Aside0.mk (HX6.out.below hb); have HB7 := Aside0.mk (below_step HB6.out hb); have HL7 := Aside0.mk (Loc.new (B := w.heap.size) (F := F5) hl (fun k hk => (HN6.out.2.1 k hk).2) HB6.out.size); clear hb hl))
    | (go_at_call 29; go_loud (refine (HT.out _ _ _ _ HN7.out).mono ?_; rintro e w8 ⟨rfl, F8, hn, hF, hr⟩; have HN8 := Aside0.mk hn; have HX8 := Aside0.mk (HX7.out.near hr hF); have HL8 := Aside0.mk (HL7.out.near hr hF); have HB8 := Aside0.mk (HB7.out.trans (hr.toBelow (fun k hk => (HN7.out.2.1 k hk).1) HN7.out.2.2)); clear hn hF hr))
    | ((with_reducible refine gate_dst (N := 13) rfl ?_); refine box_event ?hg (N := 13) ?hd (cs := #[.int .i64 0, .int .i64 0, .string ⟨#[]⟩]) (t := 50) ?hr ?_; (case hd => rfl); (case hg => rfl); (case hr => first | (go_simp; done) | (go_simp; rfl)); intro gc hgc w9 hbox hb; have HB9 := Aside0.mk (below_step HB8.out hb); have HN9 := Aside0.mk (HN8.out.below hb); have HX9 := Aside0.mk (HX8.out.below hb); have HL9 := Aside0.mk (HL8.out.box3 hb hgc (.int .i64 a0) (.int .i64 a1) (.string a2)); have HC9 := Aside0.mk (LocB.new (F := F8) hbox hgc (fun k hk => (HN8.out.2.1 k hk).2) HB8.out.size); have HNE := Aside0.mk (show gd ≠ gc by have := blk_lt HX8.out.1; omega); have y0 : w9.cell? ⟨gc, 0, none⟩ = some (.int .i64 0) := (blk_cell hbox 0).trans rfl; have y1 : w9.cell? ⟨gc, 1, none⟩ = some (.int .i64 0) := (blk_cell hbox 1).trans rfl; have y2 : w9.cell? ⟨gc, 2, none⟩ = some (.string ⟨#[]⟩) := (blk_cell hbox 2).trans rfl; have x0 := blk_frozen hbox 0; have x1 := blk_frozen hbox 1; have x2 := blk_frozen hbox 2; clear hbox hb hgc))
  obtain ⟨V, hV⟩ : ∃ V, (((w9.setCell ⟨gc, 0, none⟩ (.int .i64 a0)).setCell ⟨gc, 1, none⟩ (.int .i64 a1)).setCell ⟨gc, 2, none⟩ (.string a2)) = V := ⟨_, rfl⟩
  have HCv := Aside0.mk (HC9.out.put3 (x := .int .i64 a0) (y := .int .i64 a1) (z := .string a2))
  have HXv := Aside0.mk (HX9.out.far3 (x := .int .i64 a0) (y := .int .i64 a1) (z := .string a2) HNE.out)
  have HNv := Aside0.mk (HN9.out.set3 HC9.out.2.1 (.int .i64 a0) (.int .i64 a1) (.string a2))
  have HBv := Aside0.mk (Below.set3 HB9.out HC9.out.2.2 (.int .i64 a0) (.int .i64 a1) (.string a2))
  have HLv := HL9.out; rw [hV] at HCv HXv HNv HBv HLv ⊢
  clear hV x0 x1 x2 y0 y1 y2; obtain ⟨A, c, rfl⟩ := HLv.slice; obtain ⟨ad, rfl, e0, e1, e2⟩ := at_T50 HLv.reads.2.2 0 (by decide) (show (0 : Int) < ((1 : Nat) : Int) by decide)
  have d0 : V.cell? ⟨gd, 0, none⟩ = some (.int .i64 a0) := (blk_cell HXv.out.1 0).trans rfl
  have d1 : V.cell? ⟨gd, 1, none⟩ = some (.int .i64 a1) := (blk_cell HXv.out.1 1).trans rfl
  have d2 : V.cell? ⟨gd, 2, none⟩ = some (.string a2) := (blk_cell HXv.out.1 2).trans rfl
  have c0 : V.cell? ⟨gc, 0, none⟩ = some (.int .i64 a0) := (blk_cell HCv.out.1 0).trans rfl
  have c1 : V.cell? ⟨gc, 1, none⟩ = some (.int .i64 a1) := (blk_cell HCv.out.1 1).trans rfl
  have c2 : V.cell? ⟨gc, 2, none⟩ = some (.string a2) := (blk_cell HCv.out.1 2).trans rfl
  have r0 : V.cell? ad = some (.int .i64 a0) := e0
  have r1 : V.cell? { block := ad.block, off := ad.off + 1 } = some (.int .i64 a1) := e1
  have r2 : V.cell? { block := ad.block, off := ad.off + 2 } = some (.string a2) := e2
  clear HLv e0 e1 e2; go_still_tail 25, (by kernel_rfl)
  go_wp2_with (go_at_call 54; go_loud (refine (HHe.out _ _ _ HNv.out.drew.1).mono ?_; rintro e wa ⟨vh, rfl, hl, hb⟩; obtain ⟨A2, c2, rfl⟩ := Kd.R_slice hl; have HBa := Aside0.mk (below_step (below_drew1 HBv.out) hb); clear hb hl))
  go_ret
  exact ⟨rfl, HBa.out⟩
set_option maxHeartbeats 4000000 in
set_option maxRecDepth 100000 in
theorem gemotlaw8_NetKinds.bad (a0 a1 : Int) (a2 : ByteArray) (w : World) (hl : a2.size ≤ 1000) (hb : ¬ goodD ⟨a0, a1, a2⟩) : Calls Try.prog 9 #[.int .i64 a0, .int .i64 a1, .string a2] w fun e w' => e = .returned (.bool true) ∧ Below w.heap.size w w' := by
  have HNw := Aside0.mk (fun W => newL W)
  have HSh := Aside0.mk (fun W => gemotlaw8_shown.any W)
  have q : decide ((1000 : Int) < (a2.size : Int)) = false := decide_eq_false (by omega)
  have hc : decide (1 ≤ a0) = false ∨ (decide (1 ≤ a0) = true ∧ decide (a0 ≤ 8) = false) ∨ (decide (1 ≤ a0) = true ∧ decide (a0 ≤ 8) = true ∧ decide (1 ≤ a1) = false) ∨ (decide (1 ≤ a0) = true ∧ decide (a0 ≤ 8) = true ∧ decide (1 ≤ a1) = true ∧ decide (a1 ≤ 8) = false) ∨ (decide (1 ≤ a0) = true ∧ decide (a0 ≤ 8) = true ∧ decide (1 ≤ a1) = true ∧ decide (a1 ≤ 8) = true ∧ rightB a2 = false) := by
    simp only [decide_eq_true_eq, decide_eq_false_iff_not]; by_cases h0 : 1 ≤ a0
    · by_cases h1 : a0 ≤ 8
      · by_cases h2 : 1 ≤ a1
        · by_cases h3 : a1 ≤ 8
          · exact .inr (.inr (.inr (.inr ⟨h0, h1, h2, h3, Bool.eq_false_iff.mpr (fun e => hb ⟨⟨h0, h1⟩, ⟨h2, h3⟩, e⟩)⟩)))
          · exact .inr (.inr (.inr (.inl ⟨h0, h1, h2, h3⟩)))
        · exact .inr (.inr (.inl ⟨h0, h1, h2⟩))
      · exact .inr (.inl ⟨h0, h1⟩)
    · exact .inl h0
  have e1 : sendN ⟨[], [], 0⟩ ⟨a0, a1, a2⟩ = (⟨[], [], 0⟩, 1) := if_neg hb
  have HS := Aside0.mk (fun (B : Nat) (W : World) (g : Nat) (F : Nat → Prop) (h : NetL B W g ⟨[], [], 0⟩ F) => sendL h ⟨a0, a1, a2⟩ (by decide) (by decide) (by show a2.size < _; omega))
  have HM := Aside0.mk (fun (W : World) (g : Nat) (F : Nat → Prop) (h : NetIn W g F ⟨[], [], 0⟩) => net_Net_Many.calls W g F _ h)
  have HHe := Aside0.mk (fun (W : World) (g : Nat) (F : Nat → Prop) (h : NetIn W g F ⟨[], [], 0⟩) => net_Net_Heard.calls W g F _ h (by show 0 < _; decide))
  have HR := Aside0.mk (fun W (k : rightB a2 = false) => term_Right.calls a2 false W (by rw [term_Right.f, if_pos (by omega), k]))
  rw [e1] at HS
  have HC := Aside0.mk hc
  clear hl hb e1 hc; go_enter Try.func9, Try.ntmps9
  go_upto_region 6 with (first
    | (go_at_call 23; go_loud (refine (HSh.out _).mono ?_; rintro e w1 ⟨rfl, hb⟩; have HB1 := Aside0.mk hb; clear hb))
    | (go_at_call 24; go_loud (refine (HNw.out _).mono ?_; rintro e w2 ⟨g, F, rfl, hn, hb⟩; have HN2 := Aside0.mk (hn.lower HB1.out.size); have HB2 := Aside0.mk (below_step HB1.out hb); clear hn hb))
    | ((with_reducible refine gate_dst (N := 9) rfl ?_); refine box_event ?hg (N := 9) ?hd (cs := #[.int .i64 0, .int .i64 0, .string ⟨#[]⟩]) (t := 50) ?hr ?_; (case hd => rfl); (case hg => rfl); (case hr => first | (go_simp; done) | (go_simp; rfl)); intro gd hgd w3 hbox hb; have HB3 := Aside0.mk (below_step HB2.out hb); have HN3 := Aside0.mk (HN2.out.below hb); have HX3 := Aside0.mk (LocB.new (F := F) hbox hgd (fun k hk => (HN2.out.2.1 k hk).2) HB2.out.size); have y0 : w3.cell? ⟨gd, 0, none⟩ = some (.int .i64 0) := (blk_cell hbox 0).trans rfl; have y1 : w3.cell? ⟨gd, 1, none⟩ = some (.int .i64 0) := (blk_cell hbox 1).trans rfl; have y2 : w3.cell? ⟨gd, 2, none⟩ = some (.string ⟨#[]⟩) := (blk_cell hbox 2).trans rfl; have x0 := blk_frozen hbox 0; have x1 := blk_frozen hbox 1; have x2 := blk_frozen hbox 2; clear hbox hb hgd))
  obtain ⟨W, hW⟩ : ∃ W, (((w3.setCell ⟨gd, 0, none⟩ (.int .i64 a0)).setCell ⟨gd, 1, none⟩ (.int .i64 a1)).setCell ⟨gd, 2, none⟩ (.string a2)) = W := ⟨_, rfl⟩
  have HX4 := Aside0.mk (HX3.out.put3 (x := .int .i64 a0) (y := .int .i64 a1) (z := .string a2))
  have HN4 := Aside0.mk (HN3.out.set3 HX3.out.2.1 (.int .i64 a0) (.int .i64 a1) (.string a2))
  have HB4 := Aside0.mk (Below.set3 HB3.out HX3.out.2.2 (.int .i64 a0) (.int .i64 a1) (.string a2))
  rw [hW] at HX4 HN4 HB4 ⊢
  clear hW x0 x1 x2 y0 y1 y2; have d0 : W.cell? ⟨gd, 0, none⟩ = some (.int .i64 a0) := (blk_cell HX4.out.1 0).trans rfl
  have d1 : W.cell? ⟨gd, 1, none⟩ = some (.int .i64 a1) := (blk_cell HX4.out.1 1).trans rfl
  have d2 : W.cell? ⟨gd, 2, none⟩ = some (.string a2) := (blk_cell HX4.out.1 2).trans rfl
  go_upto_region 7 with (go_at_call 25; go_loud (refine (HS.out _ _ _ _ HN4.out).mono ?_; rintro e w5 ⟨rfl, F5, hn, hF, hr⟩; have HN5 := Aside0.mk hn; have HX5 := Aside0.mk (HX4.out.near hr hF); have HB5 := Aside0.mk (HB4.out.trans (hr.toBelow (fun k hk => (HN4.out.2.1 k hk).1) HN4.out.2.2)); have f2 : w5.cell? ⟨gd, 2, none⟩ = some (.string a2) := (blk_cell HX5.out.1 2).trans rfl; clear hn hF hr d0 d1 d2))
  rcases HC.out with q00 | ⟨q00, q01⟩ | ⟨q00, q01, q10⟩ | ⟨q00, q01, q10, q11⟩ | ⟨q00, q01, q10, q11, hr⟩
  all_goals
    clear HC HNw HSh HS
    go_wp2_with (first
      | (go_at_call 59; go_loud (refine (HR.out _ ‹_›).mono ?_; rintro e w6 ⟨rfl, hb⟩; have HN5 := Aside0.mk (HN5.out.below hb); have HB5 := Aside0.mk (below_step HB5.out hb); clear hb f2))
      | (go_at_call 30; go_loud (refine (HM.out _ _ _ HN5.out.1).mono ?_; rintro e w7 ⟨rfl, rfl⟩))
      | (go_at_call 54; go_loud (refine (HHe.out _ _ _ HN5.out.1).mono ?_; rintro e w8 ⟨vh, rfl, hl, hb⟩; obtain ⟨A2, c2, rfl⟩ := Kd.R_slice hl; have HB6 := Aside0.mk (below_step HB5.out hb); clear hb hl)))
    go_ret
    exact ⟨rfl, HB6.out⟩
def gemotlaw8_NetKinds.f (a0 : Int) (a1 : Int) (a2 : ByteArray) : Option (Bool) := if a2.size < 9223372036854775808 then some true else none
theorem gemotlaw8_NetKinds.calls (a0 : Int) (a1 : Int) (a2 : ByteArray) (r : Bool) (w : World) (h : gemotlaw8_NetKinds.f a0 a1 a2 = some r) :
    Calls Try.prog 9 #[.int .i64 a0, .int .i64 a1, .string a2] w fun e w' => e = .returned (.bool r) ∧ Below w.heap.size w w' := by
  unfold gemotlaw8_NetKinds.f at h
  split at h
  · cases h
    by_cases hl : a2.size ≤ 1000
    · by_cases hg : goodD ⟨a0, a1, a2⟩
      · exact gemotlaw8_NetKinds.good a0 a1 a2 w hl hg.1 hg.2.1 hg.2.2
      · exact gemotlaw8_NetKinds.bad a0 a1 a2 w hl hg
    · exact gemotlaw8_NetKinds.long a0 a1 a2 w (by omega) (by omega)
  · cases h

end Go.Proofs.Ytagceackfnkifaa.F
