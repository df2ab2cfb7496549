-- Laid by mk.py (a program of this session) over the seat's translation.
import Derived.Test.YtppimpadfgldjaaF0
import Derived.Test.YtppimpadfgldjaaF57
import Derived.RegionTactic
import Derived.BigRegion
import Derived.Deep.RegionLaw
import Derived.Deep.AppendLies
import Derived.StillTailTactics
namespace Go.Proofs.Ytppimpadfgldjaa.F
open Go.RowKit Go.Proofs.YtppimpadfgldjaaW.PrintWords Go.Proofs.YtppimpadfgldjaaW.PrintLast Go.Proofs.YtppimpadfgldjaaW.PrintMore
attribute [local go_sem] max2_int min2_int max_two min_two max_three min_three max_four min_four
set_option linter.unusedVariables false
set_option linter.unusedSimpArgs false

/-! ### net_Net_add: function 115 -/
open Go.Maps Go.Proofs.Ytppimpadfgldjaa.Pure Go.Deep
def addN (s : NS) (d : S114) : NS × Int := if 400 ≤ s.lie.length then (s, 5) else ({ s with lie := s.lie ++ [d] }, 0)
def dgV (d : S114) : Array Value := #[.int .i64 d.f0, .int .i64 d.f1, .string d.f2]
theorem dg_info : (Try.prog.info? 114).map (fun i => (i.zero, i.size, i.bytes)) = some (some (.agg #[.int .i64 0, .int .i64 0, .string ⟨#[]⟩]), 3, 32) := by kernel_rfl
set_option maxHeartbeats 2000000 in
set_option maxRecDepth 100000 in
theorem net_Net_add.full (d : S114) (w : World) (g : Nat) (F : Nat → Prop) (s : NS) (h : NetIn w g F s) (hl : s.lie.length ≤ 400) (hf : 400 ≤ s.lie.length) :
    Calls Try.prog 115 #[.pointer (some ⟨g, 0, none⟩), .agg #[.int .i64 d.f0, .int .i64 d.f1, .string d.f2]] w fun e w' => e = .returned (.int .i64 5) ∧ NetIn w' g (fun k => F k ∨ w.heap.size ≤ k) s ∧ Near F w w' := by
  obtain ⟨v, b, n, D, h1, h2, h3, h4, h5, h6⟩ := id h
  obtain ⟨A, c, rfl⟩ := Kd.R_slice h3
  have H1 := Aside0.mk h1
  have HN := Aside0.mk h
  have q1 : decide ((400 : Int) ≤ (s.lie.length : Int)) = true := decide_eq_true (by omega)
  clear h h1 h2 h3 h4 h5 h6 hl hf
  go_enter Try.func115, Try.ntmps115
  go_wp2_with ((with_reducible refine gate_dst (N := 3) rfl ?_); refine box_event ?hg (N := 3) ?hd (cs := #[.int .i64 d.f0, .int .i64 d.f1, .string d.f2]) (t := 114) ?hr ?_; (case hd => rfl); (case hg => rfl); (case hr => first | (go_simp; done) | (go_simp; rfl)); intro gd hgd w1 hbox hb; have HB1 := Aside0.mk hb; have c0 : w1.cell? ⟨g, 0, none⟩ = some (.slice A s.lie.length c) := (blk_cell (blk_below H1.out hb) 0).trans rfl; clear hbox hb hgd)
  go_ret
  exact ⟨rfl, (HN.out.below HB1.out).mono (fun k hk => .inl hk), (Near.refl F w).below HB1.out⟩
set_option maxHeartbeats 2000000 in
set_option maxRecDepth 100000 in
theorem net_Net_add.room (d : S114) (w : World) (g : Nat) (F : Nat → Prop) (s : NS) (h : NetIn w g F s) (hf : s.lie.length < 400) :
    Calls Try.prog 115 #[.pointer (some ⟨g, 0, none⟩), .agg #[.int .i64 d.f0, .int .i64 d.f1, .string d.f2]] w fun e w' => e = .returned (.int .i64 0) ∧ NetIn w' g (fun k => F k ∨ w.heap.size ≤ k) { s with lie := s.lie ++ [d] } ∧ Near F w w' := by
  obtain ⟨v, b, n, D, h1, h2, h3, h4, h5, h6⟩ := id h
  obtain ⟨A, c, rfl⟩ := Kd.R_slice h3
  have hg := blk_lt h1
  have hbl := h4.lt
  have HG := Aside0.mk hg
  have HBL := Aside0.mk hbl
  have H1 := Aside0.mk h1
  have H2 := Aside0.mk h2
  have H3 := Aside0.mk h3
  have H4 := Aside0.mk h4
  have H5 := Aside0.mk h5
  have H6 := Aside0.mk h6
  have HF := Aside0.mk hf
  have q1 : decide ((400 : Int) ≤ (s.lie.length : Int)) = false := decide_eq_false (by omega)
  clear h h1 h2 h3 h4 h5 h6 hf hg hbl
  go_enter Try.func115, Try.ntmps115
  go_upto_region 3 with ((with_reducible refine gate_dst (N := 3) rfl ?_); refine box_event ?hg (N := 3) ?hd (cs := #[.int .i64 d.f0, .int .i64 d.f1, .string d.f2]) (t := 114) ?hr ?_; (case hd => rfl); (case hg => rfl); (case hr => first | (go_simp; done) | (go_simp; rfl)); intro gd hgd w1 hbox hb; have HB1 := Aside0.mk hb; have HX := Aside0.mk hbox; have c0 : w1.cell? ⟨g, 0, none⟩ = some (.slice A s.lie.length c) := (blk_cell (blk_below H1.out hb) 0).trans rfl; have d0 : w1.cell? ⟨gd, 0, none⟩ = some (.int .i64 d.f0) := (blk_cell hbox 0).trans rfl; have d1 : w1.cell? ⟨gd, 1, none⟩ = some (.int .i64 d.f1) := (blk_cell hbox 1).trans rfl; have d2 : w1.cell? ⟨gd, 2, none⟩ = some (.string d.f2) := (blk_cell hbox 2).trans rfl; clear hbox hb hgd)
  have HR1 := Aside0.mk (Kd.R_mono (Kd.R_below H3.out HB1.out) (fun k hk => (⟨.inl hk.1, hk.2⟩ : (F k ∨ w.heap.size ≤ k) ∧ k ≠ g ∧ k ≠ b)))
  have HS1 := Aside0.mk HB1.out.size
  have c0a : ∀ o, (w1.alloc o).cell? ⟨g, 0, none⟩ = some (.slice A s.lie.length c) := fun o => (blk_cell (blk_alloc (blk_below H1.out HB1.out) o) 0).trans rfl
  go_region_law ((rw [show (w1.alloc (.cells #[.int .i64 d.f0, .int .i64 d.f1, .string d.f2] 114)).drew = w1.drew.alloc (.cells #[.int .i64 d.f0, .int .i64 d.f1, .string d.f2] 114) from rfl]; (refine Kd.R_append_step k114 (w0 := w1) 0 (by rfl) (.tmp 15) (.tmp 17) 124 114 (.agg #[.int .i64 0, .int .i64 0, .string ⟨#[]⟩]) 32 rfl Try.underlying124 dg_info rfl (by decide) (by decide) (.slice A s.lie.length c) s.lie d [.int .i64 d.f0, .int .i64 d.f1, .string d.f2] (fun k => (F k ∨ w.heap.size ≤ k) ∧ k ≠ g ∧ k ≠ b) (fun _ => False) rfl rfl (k114_mkM _ _ _ d) (fun _ hk => hk.elim) (fun k hk => ⟨.inr (Nat.le_trans HS1.out hk), fun e => by have := HG.out; have := HS1.out; have : w1.heap.size ≤ k := hk; omega, fun e => by have := HBL.out; have := HS1.out; have : w1.heap.size ≤ k := hk; omega⟩) (Kd.R_drew HR1.out) (below_drew1 (Below.refl _ _)) (Nat.zero_le _) (by have := HF.out; omega) ?_); intro v1 w2 ho1 hb1 hg1 _; obtain ⟨A1, c1, rfl⟩ := Kd.R_slice ho1; have HO := Aside0.mk ho1; have HGR := Aside0.mk hg1; have hbg : w2.heap[g]? = some (.cells #[.slice A s.lie.length c, .map (some b)] 175 (0, 0)) := blk_grown (w := w1.drew) (blk_drew (blk_below H1.out HB1.out)) hg1 (Kd.R_away HR1.out (fun k hk => hk.2.1)); have hc : w2.cell? ⟨g, 0, none⟩ = some (.slice A s.lie.length c) := (blk_cell hbg 0).trans rfl; have hfz := blk_frozen hbg 0; have HBG := Aside0.mk hbg; clear hbg; clear ho1 hg1 hb1))
  all_goals
    go_wp2
    go_ret
    have ho := HO.out
    simp only [List.length_append, List.length_cons, List.length_nil, Nat.zero_add] at ho
    refine ⟨rfl, ⟨.slice A1 (s.lie.length + 1) c1, b, n, D, blk_put HBG.out 0 _ rfl, ⟨.inl H2.out.1, .inl H2.out.2.1, H2.out.2.2⟩, Kd.R_far ho (fun k hk => hk.2.1) _, owns_move H4.out ?_, H5.out, H6.out⟩, (((Near.refl F w).below HB1.out).drew.grown HGR.out (fun k e => (HR1.out.1 k e).1)).set (.inl H2.out.1) _⟩
    exact (Below.heap_setCell w2 ⟨g, 0, none⟩ _ b (Ne.symm H2.out.2.2)).trans ((HGR.out.block b (Nat.lt_of_lt_of_le HBL.out HS1.out) (Kd.R_away HR1.out (fun k hk => hk.2.2))).trans (HB1.out.block b HBL.out))
theorem net_Net_add.calls (d : S114) (w : World) (g : Nat) (F : Nat → Prop) (s : NS) (h : NetIn w g F s) (hl : s.lie.length ≤ 400) :
    Calls Try.prog 115 #[.pointer (some ⟨g, 0, none⟩), .agg #[.int .i64 d.f0, .int .i64 d.f1, .string d.f2]] w fun e w' => e = .returned (.int .i64 (addN s d).2) ∧ NetIn w' g (fun k => F k ∨ w.heap.size ≤ k) (addN s d).1 ∧ Near F w w' := by
  by_cases hf : 400 ≤ s.lie.length
  · have e : addN s d = (s, 5) := if_pos hf
    rw [e]
    exact net_Net_add.full d w g F s h hl hf
  · have e : addN s d = ({ s with lie := s.lie ++ [d] }, 0) := if_neg hf
    rw [e]
    exact net_Net_add.room d w g F s h (by omega)

end Go.Proofs.Ytppimpadfgldjaa.F
