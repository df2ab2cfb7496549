-- Laid by mk.py (a program of this session) over the seat's translation.
import Derived.Test.YtppimpadfgldjaaF0
import Derived.Test.YtppimpadfgldjaaF113
import Derived.Test.YtppimpadfgldjaaF115
import Derived.Test.YtppimpadfgldjaaF57
import Derived.Test.YtppimpadfgldjaaF61
import Derived.Test.YtppimpadfgldjaaF64
import Derived.RegionTactic
import Derived.BigRegion
import Derived.Deep.RegionLaw
import Derived.StillTailTactics
namespace Go.Proofs.Ytppimpadfgldjaa.F
open Go.RowKit Go.Proofs.YtppimpadfgldjaaW.PrintWords Go.Proofs.YtppimpadfgldjaaW.PrintLast Go.Proofs.YtppimpadfgldjaaW.PrintMore
attribute [local go_sem] max2_int min2_int max_two min_two max_three min_three max_four min_four
set_option linter.unusedVariables false
set_option linter.unusedSimpArgs false

/-! ### gemotref8_Net_Double: function 62 -/
open Go.Maps Go.Proofs.Ytppimpadfgldjaa.Pure Go.Deep
theorem rdR (l : List S114) (i : Int) (h0 : 0 ≤ i) (h1 : i < l.length) : rd_T118 (l.map rD) i = rD (rd_T114 l i) := by
  have h : i.toNat < l.length := by omega
  unfold rd_T118 rd_T114
  simp [List.getD_eq_getElem?_getD, List.getElem?_eq_getElem h]
set_option maxHeartbeats 4000000 in
set_option maxRecDepth 100000 in
theorem gemotref8_Net_Double.calls (i : Int) (w : World) (g : Nat) (F : Nat → Prop) (s : NS) (h : RefIn w g F s) (hl : s.lie.length ≤ 400) :
    Calls Try.prog 62 #[.pointer (some ⟨g, 0, none⟩), .int .i64 i] w fun e w' => e = .returned (.int .i64 (doubleN s i).2) ∧ RefIn w' g (fun k => F k ∨ w.heap.size ≤ k) (doubleN s i).1 ∧ Near F w w' := by
  obtain ⟨v1, v2, P, h1, h2, h3, h4, h5⟩ := id h
  obtain ⟨A, c, rfl⟩ := Kd.R_slice h3
  rw [List.length_map] at h1 h3
  have hlm : (s.lie.map rD).length = s.lie.length := List.length_map _
  have HN := Aside0.mk h
  have HG := Aside0.mk (blk_lt h1)
  have H1 := Aside0.mk h1
  have H2 := Aside0.mk h2
  have H3 := Aside0.mk h3
  have H4 := Aside0.mk h4
  have H5 := Aside0.mk h5
  have c0 : w.cell? ⟨g, 0, none⟩ = some (.slice A s.lie.length c) := (blk_cell h1 0).trans rfl
  by_cases a0 : i < 0
  · have q0 : decide (i < 0) = true := decide_eq_true a0
    have e : doubleN s i = (s, 8) := if_neg (by unfold hasN; rw [decide_eq_false (by omega)]; decide)
    rw [e]
    clear h h1 h2 h3 h4 h5 e a0
    go_enter Try.func62, Try.ntmps62
    go_wp2
    go_ret
    exact ⟨rfl, HN.out.mono (fun k hk => .inl hk), Near.refl F w⟩
  by_cases a1 : (s.lie.length : Int) ≤ i
  · have q0 : decide (i < 0) = false := decide_eq_false a0
    have q1 : decide ((s.lie.length : Int) ≤ i) = true := decide_eq_true a1
    have e : doubleN s i = (s, 8) := if_neg (by unfold hasN; rw [decide_eq_false (by omega)]; decide)
    rw [e]
    clear h h1 h2 h3 h4 h5 e a0 a1
    go_enter Try.func62, Try.ntmps62
    go_wp2
    go_ret
    exact ⟨rfl, HN.out.mono (fun k hk => .inl hk), Near.refl F w⟩
  have q0 : decide (i < 0) = false := decide_eq_false a0
  have q1 : decide ((s.lie.length : Int) ≤ i) = false := decide_eq_false a1
  have e : doubleN s i = addN s (rd_T114 s.lie i) := if_pos (show hasN s i = true from decide_eq_true (by omega))
  rw [e]
  by_cases hf : 400 ≤ s.lie.length
  · have q4 : decide ((400 : Int) ≤ (s.lie.length : Int)) = true := decide_eq_true (by omega)
    have e : addN s (rd_T114 s.lie i) = (s, 5) := if_pos hf
    rw [e]
    clear h h1 h2 h3 h4 h5 e a0 a1 hf
    go_enter Try.func62, Try.ntmps62
    go_wp2
    go_ret
    exact ⟨rfl, HN.out.mono (fun k hk => .inl hk), Near.refl F w⟩
  · have q4 : decide ((400 : Int) ≤ (s.lie.length : Int)) = false := decide_eq_false (by omega)
    obtain ⟨ad, rfl, e0, e1, e2⟩ := at_T118 (Kd.R_reads' h3).2.2 i (by omega) (by rw [hlm]; omega)
    rw [rdR s.lie i (by omega) (by omega)] at e0 e1 e2
    generalize rd_T114 s.lie i = d at e0 e1 e2 ⊢
    have e : addN s d = ({ s with lie := s.lie ++ [d] }, 0) := if_neg hf
    rw [e]
    have p0 := eq_true (show 0 ≤ i by omega)
    have p1 := eq_true (show i < (s.lie.length : Int) by omega)
    have HF := Aside0.mk hf
    have HP := Aside0.mk (And.intro a0 a1)
    simp only [rD] at e0 e1 e2
    clear h h1 h2 h3 h4 h5 e a0 a1 hf
    go_enter Try.func62, Try.ntmps62
    go_upto_region 5 with (fail)
    have HR1 := Aside0.mk (Kd.R_mono (Kd.R_bound H3.out) (fun k hk => (⟨.inl hk.1.1, hk.1.2.1, .inl ⟨hk.1.2.2, hk.2.2.1⟩⟩ : (F k ∨ w.heap.size ≤ k) ∧ k ≠ g ∧ ((P k ∧ k < w.heap.size) ∨ w.heap.size ≤ k))))
    have c0a : ∀ o, (w.alloc o).cell? ⟨g, 0, none⟩ = some (.slice (some ad) s.lie.length c) := fun o => (blk_cell (blk_alloc H1.out o) 0).trans rfl
    have HFR := Aside0.mk (show ∀ k, w.heap.size ≤ k → (F k ∨ w.heap.size ≤ k) ∧ k ≠ g ∧ ((P k ∧ k < w.heap.size) ∨ w.heap.size ≤ k) from fun k hk => ⟨.inr hk, (by have := HG.out; omega), .inr hk⟩)
    go_region_law ((rw [show (w.alloc (.cells #[.int .i64 d.f0, .int .i64 d.f1, .string d.f2] 118)).drew = w.drew.alloc (.cells #[.int .i64 d.f0, .int .i64 d.f1, .string d.f2] 118) from rfl]; (refine Kd.R_append_step k118 (w0 := w) 0 (by rfl) (.tmp 26) (.tmp 34) 108 118 (.agg #[.int .i64 0, .int .i64 0, .string ⟨#[]⟩]) 32 rfl Try.underlying108 rinfo118 rfl (by decide) (by decide) (.slice (some ad) s.lie.length c) (s.lie.map rD) (rD d) [.int .i64 d.f0, .int .i64 d.f1, .string d.f2] (fun k => (F k ∨ w.heap.size ≤ k) ∧ k ≠ g ∧ ((P k ∧ k < w.heap.size) ∨ w.heap.size ≤ k)) (fun _ => False) rfl rfl (k118_mkM _ _ _ (rD d)) (fun _ hk => hk.elim) (fun k hk => HFR.out k hk) (Kd.R_drew HR1.out) (below_drew1 (Below.refl _ _)) (Nat.zero_le _) (by have := HF.out; omega) ?_); intro v1 w2 ho1 hb1 hg1 _; obtain ⟨A1, c1, rfl⟩ := Kd.R_slice ho1; have HO := Aside0.mk ho1; have HGR := Aside0.mk hg1; have hbg : w2.heap[g]? = some (.cells #[.slice (some ad) s.lie.length c, v2] 110 (0, 0)) := blk_grown (w := w.drew) (blk_drew H1.out) hg1 (Kd.R_away HR1.out (fun k hk => hk.2.1)); have hc : w2.cell? ⟨g, 0, none⟩ = some (.slice (some ad) s.lie.length c) := (blk_cell hbg 0).trans rfl; have hfz := blk_frozen hbg 0; have HBG := Aside0.mk hbg; clear hbg; clear ho1 hg1 hb1))
    all_goals
      go_wp2
      go_ret
      have ho := HO.out
      simp only [List.length_append, List.length_cons, List.length_nil, Nat.zero_add, hlm] at ho
      refine ⟨rfl, ⟨.slice A1 (s.lie.length + 1) c1, v2, fun k => (P k ∧ k < w.heap.size) ∨ w.heap.size ≤ k, blk_put HBG.out 0 _ rfl, .inl H2.out, ?_, ?_, H5.out⟩, ((Near.refl F w).drew.grown HGR.out (fun k e => (HR1.out.1 k e).1)).set (.inl H2.out) _⟩
      · have e6 : (({ s with lie := s.lie ++ [d] } : NS).lie.map rD) = s.lie.map rD ++ [rD d] := List.map_append
        rw [e6]
        exact Kd.R_far ho (fun k hk => hk.2.1) _
      · refine Kd.R_far (Kd.R_mono (Kd.R_step (w := w) (Kd.R_bound H4.out) (fun k hk hlt => (HGR.out.block k hlt (fun q => ?_)))) (fun k hk => ?_)) (fun k hk => hk.2.1) _
        · have := (HR1.out.1 k (by rw [← q])).2.2
          rcases this with r | r
          · exact hk.1.2.2 r.1
          · have : k < w.heap.size := hlt
            omega
        · have hlt := hk.2.2.1
          exact ⟨.inl hk.1.1, hk.1.2.1, fun r => r.elim (fun r => hk.1.2.2 r.1) (fun r => by omega)⟩

end Go.Proofs.Ytppimpadfgldjaa.F
