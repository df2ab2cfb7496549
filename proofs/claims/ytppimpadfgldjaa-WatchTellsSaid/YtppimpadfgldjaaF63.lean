-- Laid by mk.py (a program of this session) over the seat's translation.
import Derived.Test.YtppimpadfgldjaaF0
import Derived.Test.YtppimpadfgldjaaB1
import Derived.Test.YtppimpadfgldjaaF115
import Derived.Test.YtppimpadfgldjaaF116
import Derived.Test.YtppimpadfgldjaaF57
import Derived.RegionTactic
import Derived.BigRegion
import Derived.Deep.RegionLaw
import Derived.StillTailTactics
namespace Go.Proofs.Ytppimpadfgldjaa.F
open Go.RowKit Go.Proofs.YtppimpadfgldjaaW.PrintWords Go.Proofs.YtppimpadfgldjaaW.PrintLast Go.Proofs.YtppimpadfgldjaaW.PrintMore
attribute [local go_sem] max2_int min2_int max_two min_two max_three min_three max_four min_four
set_option linter.unusedVariables false
set_option linter.unusedSimpArgs false

/-! ### net_Net_Send: function 63 -/
open Go.Maps Go.Proofs.Ytppimpadfgldjaa.Pure Go.Deep
/-- A datagram that a net takes. -/
def goodD (d : S114) : Prop := (1 ≤ d.f0 ∧ d.f0 ≤ 8) ∧ (1 ≤ d.f1 ∧ d.f1 ≤ 8) ∧ rightB d.f2 = true
instance (d : S114) : Decidable (goodD d) := inferInstanceAs (Decidable (_ ∧ _ ∧ _))
def hearN (s : NS) (d : S114) : NS := { s with heard := insF s.heard d.f2, many := s.many + 1 }
def sendN (s : NS) (d : S114) : NS × Int := if goodD d then addN (hearN s d) d else (s, 1)
theorem process_f (p : Int) : net_process.f p = some (decide (1 ≤ p ∧ p ≤ 8)) := by
  unfold net_process.f
  by_cases c : p ≥ 1
  · rw [if_pos c]
    by_cases d : p ≤ 8
    · rw [decide_eq_true d, decide_eq_true ⟨c, d⟩]
    · rw [decide_eq_false d, decide_eq_false (fun h => d h.2)]
  · rw [if_neg c, decide_eq_false (fun h => c h.1)]
theorem wf_wrap (n : Int) : (Lit.int .i64 (IntKind.i64.wrap n)).wf = true := by
  rw [i64_w]
  unfold wrap64
  simp only [Lit.wf, IntKind.min, IntKind.max, IntKind.signed, IntKind.bits, Bool.and_eq_true, decide_eq_true_eq, if_true, Bool.false_eq_true, if_false]
  omega
set_option maxHeartbeats 2000000 in
set_option maxRecDepth 100000 in
theorem net_Net_Send.bad0 (d : S114) (w : World) (g : Nat) (F : Nat → Prop) (s : NS) (h : NetIn w g F s) (h0 : ¬ (1 ≤ d.f0 ∧ d.f0 ≤ 8)) :
    Calls Try.prog 63 #[.pointer (some ⟨g, 0, none⟩), .agg #[.int .i64 d.f0, .int .i64 d.f1, .string d.f2]] w fun e w' => e = .returned (.int .i64 1) ∧ NetIn w' g (fun k => F k ∨ w.heap.size ≤ k) s ∧ Near F w w' := by
  have HN := Aside0.mk h
  have HP0 := Aside0.mk (fun W => net_process.calls d.f0 false W (by rw [process_f, decide_eq_false h0]))
  clear h h0
  go_enter Try.func63, Try.ntmps63
  go_wp2_with (first
    | ((with_reducible refine gate_dst (N := 3) rfl ?_); refine box_event ?hg (N := 3) ?hd (cs := #[.int .i64 d.f0, .int .i64 d.f1, .string d.f2]) (t := 114) ?hr ?_; (case hd => rfl); (case hg => rfl); (case hr => first | (go_simp; done) | (go_simp; rfl)); intro gd hgd w1 hbox hb; have HGD := Aside0.mk hgd; have HB1 := Aside0.mk hb; have HX := Aside0.mk hbox; have d0 : w1.cell? ⟨gd, 0, none⟩ = some (.int .i64 d.f0) := (blk_cell hbox 0).trans rfl; have d1 : w1.cell? ⟨gd, 1, none⟩ = some (.int .i64 d.f1) := (blk_cell hbox 1).trans rfl; have d2 : w1.cell? ⟨gd, 2, none⟩ = some (.string d.f2) := (blk_cell hbox 2).trans rfl; clear hbox hb hgd)
    | ((with_reducible refine gate_callee (f := 116) rfl ?_); refine goesL_ (some 7) rfl rfl Try.func116 (by kernel_rfl) rfl #[.int .i64 d.f0] rfl (by simp only [List.map_toArray, List.map_cons, List.map_nil] <;> rfl) ?_; (with_reducible refine (HP0.out _).mono ?_); rintro e w' ⟨rfl, ⟨nd, rfl⟩⟩; refine ⟨_, rfl, ?_⟩))
  go_ret
  exact ⟨rfl, ((HN.out.below HB1.out).drewN nd).mono (fun k hk => .inl hk), ((Near.refl F w).below HB1.out).drewN nd⟩
set_option maxHeartbeats 2000000 in
set_option maxRecDepth 100000 in
theorem net_Net_Send.bad1 (d : S114) (w : World) (g : Nat) (F : Nat → Prop) (s : NS) (h : NetIn w g F s) (h0 : 1 ≤ d.f0 ∧ d.f0 ≤ 8) (h1 : ¬ (1 ≤ d.f1 ∧ d.f1 ≤ 8)) :
    Calls Try.prog 63 #[.pointer (some ⟨g, 0, none⟩), .agg #[.int .i64 d.f0, .int .i64 d.f1, .string d.f2]] w fun e w' => e = .returned (.int .i64 1) ∧ NetIn w' g (fun k => F k ∨ w.heap.size ≤ k) s ∧ Near F w w' := by
  have HN := Aside0.mk h
  have HP0 := Aside0.mk (fun W => net_process.calls d.f0 true W (by rw [process_f, decide_eq_true h0]))
  have HP1 := Aside0.mk (fun W => net_process.calls d.f1 false W (by rw [process_f, decide_eq_false h1]))
  clear h h0 h1
  go_enter Try.func63, Try.ntmps63
  go_wp2_with (first
    | ((with_reducible refine gate_dst (N := 3) rfl ?_); refine box_event ?hg (N := 3) ?hd (cs := #[.int .i64 d.f0, .int .i64 d.f1, .string d.f2]) (t := 114) ?hr ?_; (case hd => rfl); (case hg => rfl); (case hr => first | (go_simp; done) | (go_simp; rfl)); intro gd hgd w1 hbox hb; have HGD := Aside0.mk hgd; have HB1 := Aside0.mk hb; have HX := Aside0.mk hbox; have d0 : w1.cell? ⟨gd, 0, none⟩ = some (.int .i64 d.f0) := (blk_cell hbox 0).trans rfl; have d1 : w1.cell? ⟨gd, 1, none⟩ = some (.int .i64 d.f1) := (blk_cell hbox 1).trans rfl; have d2 : w1.cell? ⟨gd, 2, none⟩ = some (.string d.f2) := (blk_cell hbox 2).trans rfl; clear hbox hb hgd)
    | ((with_reducible refine gate_callee (f := 116) rfl ?_); refine goesL_ (some 7) rfl rfl Try.func116 (by kernel_rfl) rfl #[.int .i64 d.f0] rfl (by simp only [List.map_toArray, List.map_cons, List.map_nil] <;> rfl) ?_; (with_reducible refine (HP0.out _).mono ?_); rintro e w' ⟨rfl, ⟨nd, rfl⟩⟩; refine ⟨_, rfl, ?_⟩)
    | (go_at_call 116; (with_reducible refine (HP1.out _).mono ?_); rintro e w' ⟨rfl, ⟨nd1, rfl⟩⟩))
  go_ret
  exact ⟨rfl, ((HN.out.below HB1.out).drewN (nd + nd1)).mono (fun k hk => .inl hk), ((Near.refl F w).below HB1.out).drewN (nd + nd1)⟩
set_option maxHeartbeats 2000000 in
set_option maxRecDepth 100000 in
theorem net_Net_Send.bad2 (d : S114) (w : World) (g : Nat) (F : Nat → Prop) (s : NS) (h : NetIn w g F s) (h0 : 1 ≤ d.f0 ∧ d.f0 ≤ 8) (h1 : 1 ≤ d.f1 ∧ d.f1 ≤ 8) (h2 : rightB d.f2 = false) (hz : d.f2.size < 9223372036854775808) :
    Calls Try.prog 63 #[.pointer (some ⟨g, 0, none⟩), .agg #[.int .i64 d.f0, .int .i64 d.f1, .string d.f2]] w fun e w' => e = .returned (.int .i64 1) ∧ NetIn w' g (fun k => F k ∨ w.heap.size ≤ k) s ∧ Near F w w' := by
  have HN := Aside0.mk h
  have HP0 := Aside0.mk (fun W => net_process.calls d.f0 true W (by rw [process_f, decide_eq_true h0]))
  have HP1 := Aside0.mk (fun W => net_process.calls d.f1 true W (by rw [process_f, decide_eq_true h1]))
  have HR := Aside0.mk (fun W => term_Right.calls d.f2 false W (by rw [term_Right.f, if_pos hz, h2]))
  clear h h0 h1 h2 hz
  go_enter Try.func63, Try.ntmps63
  go_wp2_with (first
    | ((with_reducible refine gate_dst (N := 3) rfl ?_); refine box_event ?hg (N := 3) ?hd (cs := #[.int .i64 d.f0, .int .i64 d.f1, .string d.f2]) (t := 114) ?hr ?_; (case hd => rfl); (case hg => rfl); (case hr => first | (go_simp; done) | (go_simp; rfl)); intro gd hgd w1 hbox hb; have HGD := Aside0.mk hgd; have HB1 := Aside0.mk hb; have HX := Aside0.mk hbox; have d0 : w1.cell? ⟨gd, 0, none⟩ = some (.int .i64 d.f0) := (blk_cell hbox 0).trans rfl; have d1 : w1.cell? ⟨gd, 1, none⟩ = some (.int .i64 d.f1) := (blk_cell hbox 1).trans rfl; have d2 : w1.cell? ⟨gd, 2, none⟩ = some (.string d.f2) := (blk_cell hbox 2).trans rfl; clear hbox hb hgd)
    | ((with_reducible refine gate_callee (f := 116) rfl ?_); refine goesL_ (some 7) rfl rfl Try.func116 (by kernel_rfl) rfl #[.int .i64 d.f0] rfl (by simp only [List.map_toArray, List.map_cons, List.map_nil] <;> rfl) ?_; (with_reducible refine (HP0.out _).mono ?_); rintro e w' ⟨rfl, ⟨nd, rfl⟩⟩; refine ⟨_, rfl, ?_⟩)
    | (go_at_call 116; (with_reducible refine (HP1.out _).mono ?_); rintro e w' ⟨rfl, ⟨nd1, rfl⟩⟩)
    | (go_at_call 101; (with_reducible refine (HR.out _).mono ?_); rintro e w3 ⟨rfl, hb3⟩; have HB3 := Aside0.mk hb3; clear hb3))
  go_ret
  exact ⟨rfl, (((HN.out.below HB1.out).drewN (nd + nd1)).below HB3.out).mono (fun k hk => .inl hk), (((Near.refl F w).below HB1.out).drewN (nd + nd1)).below HB3.out⟩
set_option maxHeartbeats 4000000 in
set_option maxRecDepth 100000 in
theorem net_Net_Send.good (d : S114) (w : World) (g : Nat) (F : Nat → Prop) (s : NS) (h : NetIn w g F s) (h0 : 1 ≤ d.f0 ∧ d.f0 ≤ 8) (h1 : 1 ≤ d.f1 ∧ d.f1 ≤ 8) (h2 : rightB d.f2 = true) (hl : s.lie.length ≤ 400) (hm : s.many < 1000000000) :
    Calls Try.prog 63 #[.pointer (some ⟨g, 0, none⟩), .agg #[.int .i64 d.f0, .int .i64 d.f1, .string d.f2]] w fun e w' => e = .returned (.int .i64 (addN (hearN s d) d).2) ∧ NetIn w' g (fun k => F k ∨ w.heap.size ≤ k) (addN (hearN s d) d).1 ∧ Near F w w' := by
  have hz : d.f2.size < 9223372036854775808 := by have := ((right_iff d.f2).mp h2).2; omega
  have hkey := Go.WideMaps.keyOf_string_mk (P := Try.prog) (s := d.f2) Try.underlying48 (by unfold maxLen; omega)
  have HP0 := Aside0.mk (fun W => net_process.calls d.f0 true W (by rw [process_f, decide_eq_true h0]))
  have HP1 := Aside0.mk (fun W => net_process.calls d.f1 true W (by rw [process_f, decide_eq_true h1]))
  have HR := Aside0.mk (fun W => term_Right.calls d.f2 true W (by rw [term_Right.f, if_pos hz, h2]))
  obtain ⟨v, b, n, D, n1, n2, n3, n4, n5, n6⟩ := id h
  have HN := Aside0.mk h
  have H1 := Aside0.mk n1
  have H2 := Aside0.mk n2
  have H4 := Aside0.mk n4
  have H6 := Aside0.mk n6
  have HM := Aside0.mk (show n < maxLen by unfold maxLen; omega)
  have H5 := Aside0.mk n5
  have HA := Aside0.mk (fun W hW => net_Net_add.calls d W g F (hearN s d) hW hl)
  have H3 := Aside0.mk n3
  generalize addN (hearN s d) d = rr at HA ⊢
  clear h h0 h1 h2 hz n1 n2 n3 n4 n5 n6 hl hm
  go_enter Try.func63, Try.ntmps63
  go_upto_region 3 with (first
    | ((with_reducible refine gate_dst (N := 3) rfl ?_); refine box_event ?hg (N := 3) ?hd (cs := #[.int .i64 d.f0, .int .i64 d.f1, .string d.f2]) (t := 114) ?hr ?_; (case hd => rfl); (case hg => rfl); (case hr => first | (go_simp; done) | (go_simp; rfl)); intro gd hgd w1 hbox hb; have HGD := Aside0.mk hgd; have HB1 := Aside0.mk hb; have HX := Aside0.mk hbox; have d0 : w1.cell? ⟨gd, 0, none⟩ = some (.int .i64 d.f0) := (blk_cell hbox 0).trans rfl; have d1 : w1.cell? ⟨gd, 1, none⟩ = some (.int .i64 d.f1) := (blk_cell hbox 1).trans rfl; have d2 : w1.cell? ⟨gd, 2, none⟩ = some (.string d.f2) := (blk_cell hbox 2).trans rfl; clear hbox hb hgd)
    | ((with_reducible refine gate_callee (f := 116) rfl ?_); refine goesL_ (some 7) rfl rfl Try.func116 (by kernel_rfl) rfl #[.int .i64 d.f0] rfl (by simp only [List.map_toArray, List.map_cons, List.map_nil] <;> rfl) ?_; (with_reducible refine (HP0.out _).mono ?_); rintro e w' ⟨rfl, ⟨nd, rfl⟩⟩; refine ⟨_, rfl, ?_⟩)
    | (go_at_call 116; (with_reducible refine (HP1.out _).mono ?_); rintro e w' ⟨rfl, ⟨nd1, rfl⟩⟩)
    | (go_at_call 101; (with_reducible refine (HR.out _).mono ?_); rintro e w3 ⟨rfl, hb3⟩; have HB3 := Aside0.mk hb3; clear hb3))
  have hg3 : w3.heap[g]? = some (.cells #[v, .map (some b)] 175 (0, 0)) := blk_below (blk_drewN (blk_below H1.out HB1.out) (nd + nd1)) HB3.out
  have hx3 : w3.heap[gd]? = some (.cells #[.int .i64 d.f0, .int .i64 d.f1, .string d.f2] 114 (0, 0)) := blk_below (blk_drewN HX.out (nd + nd1)) HB3.out
  have hb3 : w3.heap[b]? = w.heap[b]? := (HB3.out.block b (Nat.lt_of_lt_of_le H4.out.lt HB1.out.size)).trans (HB1.out.block b H4.out.lt)
  have c1 : w3.cell? ⟨g, 1, none⟩ = some (.map (some b)) := (blk_cell hg3 1).trans rfl
  have e2 : w3.cell? ⟨gd, 2, none⟩ = some (.string d.f2) := (blk_cell hx3 2).trans rfl
  have ho3 := owns_move H4.out hb3
  obtain ⟨c, hlk, hat, hwc⟩ := World.ownsMap.lookup_int (w := w3.drew) (t := 173) (owns_move (w' := w3.drew) ho3 rfl) (string_keyed Try.underlying48) Try.underlying173 Try.underlying3 (by go_simp) hkey
  have HX3 := Aside0.mk hx3
  have HG3 := Aside0.mk hg3
  have HO3 := Aside0.mk ho3
  have HK := Aside0.mk hkey
  have HN3 := Aside0.mk (((HN.out.below HB1.out).drewN (nd + nd1)).below HB3.out)
  have HR3 := Aside0.mk ((((Near.refl F w).below HB1.out).drewN (nd + nd1)).below HB3.out)
  clear hg3 hx3 hb3 ho3 hat hwc hkey
  have hr3 := Kd.R_below (Kd.R_drewN (Kd.R_below H3.out HB1.out) (nd + nd1)) HB3.out
  have HRR := Aside0.mk hr3
  have HW3 := Aside0.mk (show w.heap.size ≤ w3.heap.size from Nat.le_trans HB1.out.size HB3.out.size)
  have hgb : gd ≠ b := by rw [HGD.out]; exact Nat.ne_of_gt H4.out.lt
  have HGB := Aside0.mk hgb
  clear hr3 hgb
  obtain ⟨w4, hup, ho4, hg4⟩ := World.ownsMap.update (w := w3.drew) (t := 173) (val := .int .i64 (IntKind.i64.wrap (c + 1))) (owns_move (w' := w3.drew) HO3.out rfl) (string_keyed Try.underlying48) Try.underlying173 HM.out HK.out (plainElem_int Try.underlying3 (wf_wrap _))
  have HO4 := Aside0.mk ho4
  have HG4 := Aside0.mk hg4
  clear ho4 hg4
  go_region
  all_goals
    have hx4 := blk_grown (w := w3.drew) (blk_drew HX3.out) HG4.out (fun e => HGB.out (by injection e))
    have f0 : w4.cell? ⟨gd, 0, none⟩ = some (.int .i64 d.f0) := (blk_cell hx4 0).trans rfl
    have f1 : w4.cell? ⟨gd, 1, none⟩ = some (.int .i64 d.f1) := (blk_cell hx4 1).trans rfl
    have f2 : w4.cell? ⟨gd, 2, none⟩ = some (.string d.f2) := (blk_cell hx4 2).trans rfl
    have hn4 : NetIn w4 g F (hearN s d) := ⟨v, b, n + 1, _, blk_grown (w := w3.drew) (blk_drew HG3.out) HG4.out (fun e => H2.out.2.2 (by injection e)), H2.out, Kd.R_step (Kd.R_drew HRR.out) (fun k ho hlt => HG4.out.block k hlt (fun e => ho.2.2 (by injection e))), HO4.out, Nat.succ_le_succ H5.out, keysIn_put H6.out d.f2 _⟩
    have HN4 := Aside0.mk hn4
    clear hx4 hn4
    go_wp2_with (go_at_call 115; go_loud (refine (HA.out _ HN4.out).mono ?_; rintro e w5 ⟨rfl, hn, hr⟩; have HN5 := Aside0.mk hn; have HR5 := Aside0.mk hr; clear hn hr))
    go_ret
    exact ⟨rfl, HN5.out.mono (fun k hk => hk.elim .inl (fun q => .inr (Nat.le_trans HW3.out (Nat.le_trans HG4.out.size q)))), (HR3.out.drew.grown HG4.out (fun k e => .inl (by cases e; exact H2.out.2.1))).trans HR5.out (fun k hk => .inl hk)⟩
theorem net_Net_Send.calls (d : S114) (w : World) (g : Nat) (F : Nat → Prop) (s : NS) (h : NetIn w g F s) (hl : s.lie.length ≤ 400) (hm : s.many < 1000000000) (hz : d.f2.size < 9223372036854775808) :
    Calls Try.prog 63 #[.pointer (some ⟨g, 0, none⟩), .agg #[.int .i64 d.f0, .int .i64 d.f1, .string d.f2]] w fun e w' => e = .returned (.int .i64 (sendN s d).2) ∧ NetIn w' g (fun k => F k ∨ w.heap.size ≤ k) (sendN s d).1 ∧ Near F w w' := by
  unfold sendN
  by_cases c : goodD d
  · rw [if_pos c]
    exact net_Net_Send.good d w g F s h c.1 c.2.1 c.2.2 hl hm
  · rw [if_neg c]
    by_cases h0 : 1 ≤ d.f0 ∧ d.f0 ≤ 8
    · by_cases h1 : 1 ≤ d.f1 ∧ d.f1 ≤ 8
      · exact net_Net_Send.bad2 d w g F s h h0 h1 (Bool.eq_false_iff.mpr (fun q => c ⟨h0, h1, q⟩)) hz
      · exact net_Net_Send.bad1 d w g F s h h0 h1
    · exact net_Net_Send.bad0 d w g F s h h0

end Go.Proofs.Ytppimpadfgldjaa.F
