-- Laid by mk.py (a program of this session) over the seat's translation.
import Derived.Test.YtppimpadfgldjaaF0
import Derived.Test.YtppimpadfgldjaaF113
import Derived.Test.YtppimpadfgldjaaF114
import Derived.Test.YtppimpadfgldjaaF57
import Derived.RegionTactic
import Derived.BigRegion
namespace Go.Proofs.Ytppimpadfgldjaa.F
open Go.RowKit Go.Proofs.YtppimpadfgldjaaW.PrintWords Go.Proofs.YtppimpadfgldjaaW.PrintLast Go.Proofs.YtppimpadfgldjaaW.PrintMore
attribute [local go_sem] max2_int min2_int max_two min_two max_three min_three max_four min_four
set_option linter.unusedVariables false
set_option linter.unusedSimpArgs false

/-! ### net_Net_Take: function 59 -/
open Go.Maps Go.Proofs.Ytppimpadfgldjaa.Pure
def takeN (s : NS) (i : Int) : NS × S114 × Int := if hasN s i = true then ({ s with lie := s.lie.eraseIdx i.toNat }, rd_T114 s.lie i, 0) else (s, z114, 8)
theorem put3 {W : World} {g t : Nat} {a b c x y z : Value} (h : W.heap[g]? = some (.cells #[a, b, c] t (0, 0))) : (((W.setCell ⟨g, 0, none⟩ x).setCell ⟨g, 1, none⟩ y).setCell ⟨g, 2, none⟩ z).heap[g]? = some (.cells #[x, y, z] t (0, 0)) := blk_put (blk_put (blk_put h 0 x rfl) 1 y rfl) 2 z rfl
theorem far3 {W : World} {g g' t : Nat} {cs : Array Value} {x y z : Value} (h : W.heap[g]? = some (.cells cs t (0, 0))) (hne : g ≠ g') : (((W.setCell ⟨g', 0, none⟩ x).setCell ⟨g', 1, none⟩ y).setCell ⟨g', 2, none⟩ z).heap[g]? = some (.cells cs t (0, 0)) := blk_far (blk_far (blk_far h hne _) hne _) hne _
theorem set3_heap {W : World} {g k : Nat} (hne : k ≠ g) (x y z : Value) : (((W.setCell ⟨g, 0, none⟩ x).setCell ⟨g, 1, none⟩ y).setCell ⟨g, 2, none⟩ z).heap[k]? = W.heap[k]? :=
  (Below.heap_setCell _ ⟨g, 2, none⟩ _ k hne).trans ((Below.heap_setCell _ ⟨g, 1, none⟩ _ k hne).trans (Below.heap_setCell _ ⟨g, 0, none⟩ _ k hne))
theorem Near.set3 {F : Nat → Prop} {w W : World} {g : Nat} (h : Near F w W) (hp : F g ∨ w.heap.size ≤ g) (x y z : Value) : Near F w (((W.setCell ⟨g, 0, none⟩ x).setCell ⟨g, 1, none⟩ y).setCell ⟨g, 2, none⟩ z) := ((h.set (p := ⟨g, 0, none⟩) hp x).set (p := ⟨g, 1, none⟩) hp y).set (p := ⟨g, 2, none⟩) hp z
set_option maxHeartbeats 2000000 in
set_option maxRecDepth 100000 in
theorem net_Net_Take.none_ (i : Int) (w : World) (g : Nat) (F : Nat → Prop) (s : NS) (h : NetIn w g F s) (q : hasN s i = false) :
    Calls Try.prog 59 #[.pointer (some ⟨g, 0, none⟩), .int .i64 i] w fun e w' => e = .returned (.tuple #[.agg #[.int .i64 0, .int .i64 0, .string ⟨#[]⟩], .int .i64 8]) ∧ NetIn w' g (fun k => F k ∨ w.heap.size ≤ k) s ∧ Near F w w' := by
  have HH := Aside0.mk (fun W hW => net_Net_has.calls i W g F s hW)
  rw [q] at HH
  have HN := Aside0.mk h
  have HB := Aside0.mk (Below.refl w.heap.size w)
  clear h q
  go_enter Try.func59, Try.ntmps59
  go_wp2_with (first
    | ((with_reducible refine gate_dst (N := 4) rfl ?_); refine box_event ?hg (N := 4) ?hd (cs := #[.int .i64 0, .int .i64 0, .string ⟨#[]⟩]) (t := 114) ?hr ?_; (case hd => rfl); (case hg => rfl); (case hr => first | (go_simp; done) | (go_simp; rfl)); intro gd hgd w1 hbox hb; have HGD := Aside0.mk (show w.heap.size ≤ gd by rw [hgd]; exact Nat.le_refl _); have HB1 := Aside0.mk hb; have HX := Aside0.mk hbox; have y0 : w1.cell? ⟨gd, 0, none⟩ = some (.int .i64 0) := (blk_cell hbox 0).trans rfl; have y1 : w1.cell? ⟨gd, 1, none⟩ = some (.int .i64 0) := (blk_cell hbox 1).trans rfl; have y2 : w1.cell? ⟨gd, 2, none⟩ = some (.string ⟨#[]⟩) := (blk_cell hbox 2).trans rfl; have x0 := blk_frozen hbox 0; have x1 := blk_frozen hbox 1; have x2 := blk_frozen hbox 2; clear hbox hb hgd)
    | (go_at_call 113; go_loud (refine (HH.out _ (HN.out.below HB1.out)).mono ?_; rintro e w2 ⟨rfl, rfl⟩)))
  refine bodyPost_ret (results_ct rfl _ _ gd 114 #[.int .i64 0, .int .i64 0, .string ⟨#[]⟩] (0, 0) _ rfl (put3 HX.out) Try.underlying114 rfl (by kernel_rfl)) rfl ?_
  exact ⟨rfl, ((HN.out.tight.below HB1.out).kept (fun k hk _ => set3_heap (by have := HGD.out; omega) _ _ _)).mono (fun k hk => .inl hk.1), ((Near.refl F w).below HB1.out).set3 (.inr HGD.out) _ _ _⟩
theorem deleteDg.callsI (base : Nat) (ok : Nat → Prop) (A : Option Addr) (n c : Nat) (l : List S114) (i : Int) (w : World) (h : Kd.R k114 114 w base ok (.slice A n c) l) (h0 : 0 ≤ i) (hi : i < l.length) (hl : l.length ≤ 400) :
    Calls Try.prog 114 #[.slice A n c, .int .i64 i, .int .i64 (i + 1)] w fun e w' => ∃ v', e = .returned v' ∧ Kd.R k114 114 w' base ok v' (l.eraseIdx i.toNat) ∧ Near ok w w' := by
  have h1 := deleteDg.calls base ok A n c l i.toNat w h (by omega) hl
  rw [show ((i.toNat + 1 : Nat) : Int) = i + 1 by omega, show ((i.toNat : Nat) : Int) = i by omega] at h1
  exact h1
set_option maxHeartbeats 4000000 in
set_option maxRecDepth 100000 in
theorem net_Net_Take.some_ (i : Int) (w : World) (g : Nat) (F : Nat → Prop) (s : NS) (h : NetIn w g F s) (hl : s.lie.length ≤ 400) (q : hasN s i = true) (d : S114) (hd : rd_T114 s.lie i = d) :
    Calls Try.prog 59 #[.pointer (some ⟨g, 0, none⟩), .int .i64 i] w fun e w' => e = .returned (.tuple #[.agg #[.int .i64 d.f0, .int .i64 d.f1, .string d.f2], .int .i64 0]) ∧ NetIn w' g (fun k => F k ∨ w.heap.size ≤ k) { s with lie := s.lie.eraseIdx i.toNat } ∧ Near F w w' := by
  obtain ⟨q0, q1⟩ := of_decide_eq_true q
  have HH := Aside0.mk (fun W hW => net_Net_has.calls i W g F s hW)
  rw [q] at HH
  obtain ⟨v, b, n, D, h1, h2, h3, h4, h5, h6⟩ := id h
  obtain ⟨A, c, rfl⟩ := Kd.R_slice h3
  obtain ⟨ad, rfl, e0, e1, e2⟩ := at_T114 (Kd.R_reads' h3).2.2 i q0 q1
  rw [hd] at e0 e1 e2
  have HN := Aside0.mk h
  have HL := Aside0.mk hl
  have H1 := Aside0.mk h1
  have H2 := Aside0.mk h2
  have H3 := Aside0.mk h3
  have H4 := Aside0.mk h4
  have H5 := Aside0.mk h5
  have H6 := Aside0.mk h6
  have E0 := Aside0.mk e0
  have E1 := Aside0.mk e1
  have E2 := Aside0.mk e2
  have HI := Aside0.mk q0
  have HI1 := Aside0.mk q1
  have hw1 : IntKind.i64.wrap (i + 1) = i + 1 := by rw [i64_w]; unfold wrap64; omega
  have p0 := eq_true q0
  have p1 := eq_true q1
  clear h h1 h2 h3 h4 h5 h6 hl q q0 q1 e0 e1 e2 hd
  go_enter Try.func59, Try.ntmps59
  go_upto_region 4 with (first
    | ((with_reducible refine gate_dst (N := 4) rfl ?_); refine box_event ?hg (N := 4) ?hd (cs := #[.int .i64 0, .int .i64 0, .string ⟨#[]⟩]) (t := 114) ?hr ?_; (case hd => rfl); (case hg => rfl); (case hr => first | (go_simp; done) | (go_simp; rfl)); intro gd hgd w1 hbox hb; have HGD := Aside0.mk hgd; have HB1 := Aside0.mk hb; have HX := Aside0.mk hbox; have c0 : w1.cell? ⟨g, 0, none⟩ = some (.slice (some ad) s.lie.length c) := (blk_cell (blk_below H1.out hb) 0).trans rfl; have e0 := pw_cell_below hb E0.out; have e1 := pw_cell_below hb E1.out; have e2 := pw_cell_below hb E2.out; clear hbox hb hgd)
    | (go_at_call 113; go_loud (refine (HH.out _ (HN.out.below HB1.out)).mono ?_; rintro e w2 ⟨rfl, rfl⟩))
    | ((with_reducible refine gate_dst (N := 6) rfl ?_); refine box_event ?hg (N := 6) ?hd (cs := #[.int .i64 0, .int .i64 0, .string ⟨#[]⟩]) (t := 114) ?hr ?_; (case hd => rfl); (case hg => rfl); (case hr => first | (go_simp; done) | (go_simp; rfl)); intro gt hgt w3 hbox hb; have HGT := Aside0.mk hgt; have HB3 := Aside0.mk hb; have HT := Aside0.mk hbox; have y0 : w3.cell? ⟨gt, 0, none⟩ = some (.int .i64 0) := (blk_cell hbox 0).trans rfl; have y1 : w3.cell? ⟨gt, 1, none⟩ = some (.int .i64 0) := (blk_cell hbox 1).trans rfl; have y2 : w3.cell? ⟨gt, 2, none⟩ = some (.string ⟨#[]⟩) := (blk_cell hbox 2).trans rfl; have x0 := blk_frozen hbox 0; have x1 := blk_frozen hbox 1; have x2 := blk_frozen hbox 2; clear hbox hb hgt))
  have gl : g < w.heap.size := blk_lt H1.out
  have bl_ : b < w.heap.size := H4.out.lt
  have s1 : w.heap.size ≤ w2.heap.size := HB1.out.size
  have gdl : gd < w2.heap.size := blk_lt HX.out
  have ggt : g ≠ gt := by rw [HGT.out]; omega
  have gdt : gd ≠ gt := by rw [HGT.out]; omega
  have ggd : g ≠ gd := by rw [HGD.out]; omega
  have bgt : b ≠ gt := by rw [HGT.out]; omega
  have bgd : b ≠ gd := by rw [HGD.out]; omega
  have gtw : w.heap.size ≤ gt := by rw [HGT.out]; exact s1
  have gdw : w.heap.size ≤ gd := by rw [HGD.out]; exact Nat.le_refl _
  obtain ⟨W, hW⟩ : ∃ W, (((w3.setCell ⟨gt, 0, none⟩ (.int .i64 d.f0)).setCell ⟨gt, 1, none⟩ (.int .i64 d.f1)).setCell ⟨gt, 2, none⟩ (.string d.f2)) = W := ⟨_, rfl⟩
  have hgt : W.heap[gt]? = some (.cells #[.int .i64 d.f0, .int .i64 d.f1, .string d.f2] 114 (0, 0)) := by rw [← hW]; exact put3 HT.out
  have hgg : W.heap[g]? = some (.cells #[.slice (some ad) s.lie.length c, .map (some b)] 175 (0, 0)) := by rw [← hW]; exact far3 (blk_below (blk_below H1.out HB1.out) HB3.out) ggt
  have hgd : W.heap[gd]? = some (.cells #[.int .i64 0, .int .i64 0, .string ⟨#[]⟩] 114 (0, 0)) := by rw [← hW]; exact far3 (blk_below HX.out HB3.out) gdt
  have hbb : W.heap[b]? = w.heap[b]? := by rw [← hW]; exact (set3_heap bgt _ _ _).trans ((HB3.out.block b (Nat.lt_of_lt_of_le bl_ s1)).trans (HB1.out.block b bl_))
  have hR : Kd.R k114 114 W 0 (fun k => (F k ∧ k ≠ g ∧ k ≠ b) ∧ k < w.heap.size) (.slice (some ad) s.lie.length c) s.lie := by
    rw [← hW]
    exact Kd.R_step (Kd.R_below (Kd.R_below (Kd.R_mono (Kd.R_bound H3.out) (fun k hk => ⟨hk.1, hk.2.2.1⟩)) HB1.out) HB3.out) (fun k hk _ => set3_heap (by have := hk.2; omega) _ _ _)
  have hNr : Near F w W := by rw [← hW]; exact (((Near.refl F w).below HB1.out).below HB3.out).set3 (.inr gtw) _ _ _
  rw [hW]
  have cg : W.cell? ⟨g, 0, none⟩ = some (.slice (some ad) s.lie.length c) := (blk_cell hgg 0).trans rfl
  have HDL := Aside0.mk (deleteDg.callsI 0 _ _ _ _ _ i W hR HI.out HI1.out HL.out)
  have HGG := Aside0.mk hgg
  have HG3 := Aside0.mk hgd
  have HT3 := Aside0.mk hgt
  have HBB := Aside0.mk hbb
  have HNR := Aside0.mk hNr
  have QQ := Aside0.mk (And.intro gl (And.intro ggt (And.intro gdt (And.intro ggd (And.intro bgt (And.intro bgd (And.intro gtw (And.intro gdw (And.intro bl_ trivial)))))))))
  clear hgg hgd hgt hbb hNr hR hW c0 x0 x1 x2 y0 y1 y2 gl bl_ s1 gdl ggt gdt ggd bgt bgd gtw gdw e0 e1 e2
  go_upto_region 5 with (go_at_call 114; go_loud (refine (HDL.out).mono ?_; rintro e w4 ⟨v', rfl, hr4, hn4⟩; obtain ⟨A', c', rfl⟩ := Kd.R_slice hr4; have HR4 := Aside0.mk hr4; have HN4 := Aside0.mk hn4; have hg4 := (hn4.2.2 g (blk_lt HGG.out) (fun hk => hk.1.2.1 rfl)).trans HGG.out; have cg4 : w4.cell? ⟨g, 0, none⟩ = some (.slice (some ad) s.lie.length c) := (blk_cell hg4 0).trans rfl; have fg4 := blk_frozen hg4 0; have HG4 := Aside0.mk hg4; clear hr4 hn4 hg4))
  obtain ⟨gl, ggt, gdt, ggd, bgt, bgd, gtw, gdw, bl_, _⟩ := QQ.out
  have n1 := HN4.out.2.2 gt (blk_lt HT3.out) (fun hk => by have := hk.2; omega)
  have n2 := HN4.out.2.2 gd (blk_lt HG3.out) (fun hk => by have := hk.2; omega)
  have n3 := HN4.out.2.2 b (by have := HNR.out.2.1; omega) (fun hk => hk.1.2.2 rfl)
  obtain ⟨V, hV⟩ : ∃ V, w4.setCell ⟨g, 0, none⟩ (.slice A' (s.lie.eraseIdx i.toNat).length c') = V := ⟨_, rfl⟩
  have vt : V.heap[gt]? = some (.cells #[.int .i64 d.f0, .int .i64 d.f1, .string d.f2] 114 (0, 0)) := by rw [← hV]; exact blk_far (n1.trans HT3.out) (Ne.symm ggt) _
  have vd : V.heap[gd]? = some (.cells #[.int .i64 0, .int .i64 0, .string ⟨#[]⟩] 114 (0, 0)) := by rw [← hV]; exact blk_far (n2.trans HG3.out) (Ne.symm ggd) _
  have vg : V.heap[g]? = some (.cells #[.slice A' (s.lie.eraseIdx i.toNat).length c', .map (some b)] 175 (0, 0)) := by rw [← hV]; exact blk_put HG4.out 0 _ rfl
  have vb : V.heap[b]? = w.heap[b]? := by rw [← hV]; exact (Below.heap_setCell w4 ⟨g, 0, none⟩ _ b (Ne.symm H2.out.2.2)).trans (n3.trans HBB.out)
  have vR : Kd.R k114 114 V 0 (fun k => (F k ∧ k ≠ g ∧ k ≠ b) ∧ k < w.heap.size) (.slice A' (s.lie.eraseIdx i.toNat).length c') (s.lie.eraseIdx i.toNat) := by rw [← hV]; exact Kd.R_far HR4.out (fun k hk => hk.1.2.1) _
  have vN : Near F w V := by rw [← hV]; exact (HNR.out.trans HN4.out (fun k hk => .inl hk.1.1)).set (.inl H2.out.1) _
  rw [hV]
  have d0 : V.cell? ⟨gt, 0, none⟩ = some (.int .i64 d.f0) := (blk_cell vt 0).trans rfl
  have d1 : V.cell? ⟨gt, 1, none⟩ = some (.int .i64 d.f1) := (blk_cell vt 1).trans rfl
  have d2 : V.cell? ⟨gt, 2, none⟩ = some (.string d.f2) := (blk_cell vt 2).trans rfl
  have y0 : V.cell? ⟨gd, 0, none⟩ = some (.int .i64 0) := (blk_cell vd 0).trans rfl
  have y1 : V.cell? ⟨gd, 1, none⟩ = some (.int .i64 0) := (blk_cell vd 1).trans rfl
  have y2 : V.cell? ⟨gd, 2, none⟩ = some (.string ⟨#[]⟩) := (blk_cell vd 2).trans rfl
  have x0 := blk_frozen vd 0
  have x1 := blk_frozen vd 1
  have x2 := blk_frozen vd 2
  have VD := Aside0.mk vd
  have VG := Aside0.mk vg
  have VB := Aside0.mk vb
  have VR := Aside0.mk vR
  have VN := Aside0.mk vN
  clear vt vd vg vb vR vN hV n1 n2 n3 gl ggt gdt ggd bgt bgd gtw gdw bl_ cg cg4 fg4
  go_wp2
  obtain ⟨gl, ggt, gdt, ggd, bgt, bgd, gtw, gdw, bl_, _⟩ := QQ.out
  refine bodyPost_ret (results_ct rfl _ _ gd 114 #[.int .i64 d.f0, .int .i64 d.f1, .string d.f2] (0, 0) _ rfl (put3 VD.out) Try.underlying114 rfl (by kernel_rfl)) rfl ?_
  refine ⟨rfl, ⟨.slice A' (s.lie.eraseIdx i.toNat).length c', b, n, D, far3 VG.out ggd, ⟨.inl H2.out.1, .inl H2.out.2.1, H2.out.2.2⟩, Kd.R_mono (Kd.R_step VR.out (fun k hk _ => set3_heap (by have := hk.2; omega) _ _ _)) (fun k hk => ⟨.inl hk.1.1, hk.1.2⟩), owns_move H4.out ((set3_heap bgd _ _ _).trans VB.out), H5.out, H6.out⟩, VN.out.set3 (.inr gdw) _ _ _⟩
theorem net_Net_Take.calls (i : Int) (w : World) (g : Nat) (F : Nat → Prop) (s : NS) (h : NetIn w g F s) (hl : s.lie.length ≤ 400) :
    Calls Try.prog 59 #[.pointer (some ⟨g, 0, none⟩), .int .i64 i] w fun e w' => e = .returned (.tuple #[.agg #[.int .i64 (takeN s i).2.1.f0, .int .i64 (takeN s i).2.1.f1, .string (takeN s i).2.1.f2], .int .i64 (takeN s i).2.2]) ∧ NetIn w' g (fun k => F k ∨ w.heap.size ≤ k) (takeN s i).1 ∧ Near F w w' := by
  unfold takeN
  by_cases q : hasN s i = true
  · rw [if_pos q]
    exact net_Net_Take.some_ i w g F s h hl q _ rfl
  · rw [if_neg q]
    exact net_Net_Take.none_ i w g F s h (Bool.eq_false_iff.mpr q)

end Go.Proofs.Ytppimpadfgldjaa.F
