-- Laid by mk.py (a program of this session) over the seat's translation.
import Derived.Test.YtppimpadfgldjaaF0
import Derived.Test.YtppimpadfgldjaaF113
import Derived.Test.YtppimpadfgldjaaF57
import Derived.Test.YtppimpadfgldjaaF59
import Derived.Test.YtppimpadfgldjaaF62
import Derived.Test.YtppimpadfgldjaaF64
import Derived.RegionTactic
import Derived.BigRegion
import Derived.Deep.RegionLaw
import Derived.StillTailTactics
namespace Go.Proofs.Ytppimpadfgldjaa.F
open Go.RowKit Go.Proofs.YtppimpadfgldjaaW.PrintWords Go.Proofs.YtppimpadfgldjaaW.PrintLast Go.Proofs.YtppimpadfgldjaaW.PrintMore
attribute [local go_sem] max2_int min2_int max_two min_two max_three min_three max_four min_four
set_option linter.unusedVariables false
set_option linter.unusedSimpArgs false

/-! ### gemotref8_Net_Take: function 60 -/
open Go.Maps Go.Proofs.Ytppimpadfgldjaa.Pure Go.Deep
theorem ref_rows {w : World} {A : Option Addr} {n : Nat} {xs : List S118} (h : Kd.C k118 w A n xs) : ReadsRow (fun (x : S118) (cs : List Value) => cs = [.int .i64 x.f0, .int .i64 x.f1, .string x.f2]) k118.sz w A n xs := ReadsRow.imp_ h (Below.refl _ _) (fun _ _ hp => k118_open hp)
theorem gemotref8_Net_Take.miss (i : Int) (w : World) (g : Nat) (F : Nat → Prop) (s : NS) (h : RefIn w g F s) (hi : i < 0 ∨ (s.lie.length : Int) ≤ i) :
    Calls Try.prog 60 #[.pointer (some ⟨g, 0, none⟩), .int .i64 i] w fun e w' => e = .returned (.tuple #[.agg #[.int .i64 0, .int .i64 0, .string ⟨#[]⟩], .int .i64 8]) ∧ RefIn w' g (fun k => F k ∨ w.heap.size ≤ k) s ∧ Near F w w' := by
  obtain ⟨v1, v2, P, h1, h2, h3, h4, h5⟩ := id h; obtain ⟨A, c, rfl⟩ := Kd.R_slice h3; rw [List.length_map] at h1 h3
  have HN := Aside0.mk h
  have H1 := Aside0.mk h1
  by_cases a0 : i < 0
  case' pos =>
    have q0 : decide (i < 0) = true := decide_eq_true a0
  case' neg =>
    have q0 : decide (i < 0) = false := decide_eq_false a0
    have q1 : decide ((s.lie.length : Int) ≤ i) = true := decide_eq_true (by omega)
  all_goals
    clear h h1 h2 h3 h4 h5 hi a0; go_enter Try.func60, Try.ntmps60
    go_wp2_with ((with_reducible refine gate_dst (N := 4) rfl ?_); refine box_event ?hg (N := 4) ?hd (cs := #[.int .i64 0, .int .i64 0, .string ⟨#[]⟩]) (t := 118) ?hr ?_; (case hd => rfl); (case hg => rfl); (case hr => first | (go_simp; done) | (go_simp; rfl)); intro gd hgd w1 hbox hb; have HGD := Aside0.mk hgd; have HB1 := Aside0.mk hb; have HX := Aside0.mk hbox; have c0 : w1.cell? ⟨g, 0, none⟩ = some (.slice A s.lie.length c) := (blk_cell (blk_below H1.out hb) 0).trans rfl; have y0 : w1.cell? ⟨gd, 0, none⟩ = some (.int .i64 0) := (blk_cell hbox 0).trans rfl; have y1 : w1.cell? ⟨gd, 1, none⟩ = some (.int .i64 0) := (blk_cell hbox 1).trans rfl; have y2 : w1.cell? ⟨gd, 2, none⟩ = some (.string ⟨#[]⟩) := (blk_cell hbox 2).trans rfl; have x0 := blk_frozen hbox 0; have x1 := blk_frozen hbox 1; have x2 := blk_frozen hbox 2; clear hbox hb hgd)
    refine bodyPost_ret (results_ct rfl _ _ gd 118 #[.int .i64 0, .int .i64 0, .string ⟨#[]⟩] (0, 0) _ rfl (put3 HX.out) Try.underlying118 rfl (by kernel_rfl)) rfl ?_
    have hgw : w.heap.size ≤ gd := by rw [HGD.out]; exact Nat.le_refl _
    exact ⟨rfl, (((HN.out.mono (fun k hk => (.inl hk : F k ∨ w.heap.size ≤ k))).tight.below HB1.out).kept (fun k hk _ => set3_heap (by have := hk.2; have := HGD.out; omega) _ _ _)).mono (fun k hk => hk.1), ((Near.refl F w).below HB1.out).set3 (.inr hgw) _ _ _⟩
set_option maxHeartbeats 8000000 in
set_option maxRecDepth 100000 in
theorem gemotref8_Net_Take.hit (n : Nat) (w : World) (g : Nat) (F : Nat → Prop) (s : NS) (h : RefIn w g F s) (hn : n < s.lie.length) (hl : s.lie.length ≤ 400) (d : S114) (hd : rd_T114 s.lie (n : Int) = d) :
    Calls Try.prog 60 #[.pointer (some ⟨g, 0, none⟩), .int .i64 (n : Int)] w fun e w' => e = .returned (.tuple #[.agg #[.int .i64 d.f0, .int .i64 d.f1, .string d.f2], .int .i64 0]) ∧ RefIn w' g (fun k => F k ∨ w.heap.size ≤ k) { s with lie := s.lie.eraseIdx n } ∧ Near F w w' := by
  obtain ⟨v1, v2, P, h1, h2, h3, h4, h5⟩ := id h; obtain ⟨A, c, rfl⟩ := Kd.R_slice h3; have hlm : (s.lie.map rD).length = s.lie.length := List.length_map _
  have h3c := (Kd.R_reads' h3).2
  rw [hlm] at h1 h3 h3c
  obtain ⟨ad, rfl, e0, e1, e2⟩ := at_T118 h3c.2 (n : Int) (by omega) (by omega)
  rw [rdR s.lie (n : Int) (by omega) (by omega), hd] at e0 e1 e2
  simp only [rD, Int.toNat_natCast] at e0 e1 e2
  have HN := Aside0.mk h
  have HGL := Aside0.mk (blk_lt h1)
  have H1 := Aside0.mk h1
  have H2 := Aside0.mk h2
  have H3 := Aside0.mk h3
  have H4 := Aside0.mk h4
  have H5 := Aside0.mk h5
  have E0 := Aside0.mk e0
  have E1 := Aside0.mk e1
  have E2 := Aside0.mk e2
  have HC := Aside0.mk h3c
  have HI := Aside0.mk hn
  have HLL := Aside0.mk hl
  have q0 : decide ((n : Int) < 0) = false := decide_eq_false (by omega)
  have q1 : decide ((s.lie.length : Int) ≤ (n : Int)) = false := decide_eq_false (by omega)
  have hw1 : IntKind.i64.wrap ((n : Int) + 1) = ((n + 1 : Nat) : Int) := by rw [i64_w]; unfold wrap64; omega
  have p0 := eq_true (show (0 : Int) ≤ (n : Int) by omega)
  have p1 := eq_true (show (n : Int) < (s.lie.length : Int) by omega)
  have p2 := eq_true hn
  have q2 : decide (s.lie.length ≤ n) = false := decide_eq_false (by omega)
  clear h h1 h2 h3 h4 h5 hl hn e0 e1 e2 hd h3c; go_enter Try.func60, Try.ntmps60
  go_upto_region 4 with (first
    | ((with_reducible refine gate_dst (N := 4) rfl ?_); refine box_event ?hg (N := 4) ?hd (cs := #[.int .i64 0, .int .i64 0, .string ⟨#[]⟩]) (t := 118) ?hr ?_; (case hd => rfl); (case hg => rfl); (case hr => first | (go_simp; done) | (go_simp; rfl)); intro gd hgd w1 hbox hb; have HGD := Aside0.mk hgd; have HB1 := Aside0.mk hb; have HX := Aside0.mk hbox; have c0 : w1.cell? ⟨g, 0, none⟩ = some (.slice (some ad) s.lie.length c) := (blk_cell (blk_below H1.out hb) 0).trans rfl; have e0 := pw_cell_below hb E0.out; have e1 := pw_cell_below hb E1.out; have e2 := pw_cell_below hb E2.out; clear hbox hb hgd)
    | ((with_reducible refine gate_dst (N := 6) rfl ?_); refine box_event ?hg (N := 6) ?hd (cs := #[.int .i64 0, .int .i64 0, .string ⟨#[]⟩]) (t := 118) ?hr ?_; (case hd => rfl); (case hg => rfl); (case hr => first | (go_simp; done) | (go_simp; rfl)); intro gt hgt w3 hbox hb; have HGT := Aside0.mk hgt; have HB3_ := Aside0.mk hb; have HT := Aside0.mk hbox; have y0 : w3.cell? ⟨gt, 0, none⟩ = some (.int .i64 0) := (blk_cell hbox 0).trans rfl; have y1 : w3.cell? ⟨gt, 1, none⟩ = some (.int .i64 0) := (blk_cell hbox 1).trans rfl; have y2 : w3.cell? ⟨gt, 2, none⟩ = some (.string ⟨#[]⟩) := (blk_cell hbox 2).trans rfl; have x0 := blk_frozen hbox 0; have x1 := blk_frozen hbox 1; have x2 := blk_frozen hbox 2; clear hbox hb hgt))
  have gl : g < w.heap.size := HGL.out
  have s1 : w.heap.size ≤ w1.heap.size := HB1.out.size
  have gdl : gd < w1.heap.size := blk_lt HX.out
  have ggt : g ≠ gt := by have := HGT.out; omega
  have gdt : gd ≠ gt := by have := HGT.out; omega
  have ggd : g ≠ gd := by have := HGD.out; omega
  have hw3 : w1.heap.size ≤ w3.heap.size := HB3_.out.size
  have gtw : w.heap.size ≤ gt := by have := HGT.out; omega
  have gdw : w.heap.size ≤ gd := by rw [HGD.out]; exact Nat.le_refl _
  obtain ⟨V, hV⟩ : ∃ V, (((w3.setCell ⟨gt, 0, none⟩ (.int .i64 d.f0)).setCell ⟨gt, 1, none⟩ (.int .i64 d.f1)).setCell ⟨gt, 2, none⟩ (.string d.f2)) = V := ⟨_, rfl⟩
  have vt : V.heap[gt]? = some (.cells #[.int .i64 d.f0, .int .i64 d.f1, .string d.f2] 118 (0, 0)) := by rw [← hV]; exact put3 HT.out
  have vg : V.heap[g]? = some (.cells #[.slice (some ad) s.lie.length c, v2] 110 (0, 0)) := by rw [← hV]; exact far3 (blk_below (blk_below H1.out HB1.out) HB3_.out) ggt
  have vd : V.heap[gd]? = some (.cells #[.int .i64 0, .int .i64 0, .string ⟨#[]⟩] 118 (0, 0)) := by rw [← hV]; exact far3 (blk_below HX.out HB3_.out) gdt
  have vS : w3.heap.size ≤ V.heap.size := by rw [← hV]; exact (((Near.refl (fun _ => True) w3).set3 (.inl trivial) _ _ _).1.size)
  have vE : ∀ k, k < w.heap.size → V.heap[k]? = w.heap[k]? := fun k hk => by
    rw [← hV]
    exact (set3_heap (by omega) _ _ _).trans ((HB3_.out.block k (by omega)).trans (HB1.out.block k hk))
  have vN : Near F w V := by rw [← hV]; exact (((Near.refl F w).below HB1.out).below HB3_.out).set3 (.inr gtw) _ _ _
  have vR : Kd.R k118 118 V 0 (fun k => (F k ∧ k ≠ g ∧ P k) ∧ k < w.heap.size) (.slice (some ad) s.lie.length c) (s.lie.map rD) :=
    Kd.R_step (Kd.R_mono (Kd.R_bound H3.out) (fun k hk => (⟨hk.1, hk.2.2.1⟩ : (F k ∧ k ≠ g ∧ P k) ∧ k < w.heap.size))) (fun k hk _ => vE k hk.2)
  have hcc := (Kd.R_reads' vR).2
  rw [hlm] at hcc
  have CG := Aside0.mk (show V.cell? ⟨g, 0, none⟩ = some (.slice (some ad) s.lie.length c) from (blk_cell vg 0).trans rfl)
  have VG := Aside0.mk vg
  have VT := Aside0.mk vt
  have VD := Aside0.mk vd
  have VE := Aside0.mk vE
  have VN := Aside0.mk vN
  have HDW := Aside0.mk (show gd < V.heap.size from by omega)
  have QQ := Aside0.mk (show g < w.heap.size ∧ g ≠ gt ∧ gd ≠ gt ∧ g ≠ gd ∧ w.heap.size ≤ gt ∧ w.heap.size ≤ gd ∧ w.heap.size ≤ V.heap.size from ⟨gl, ggt, gdt, ggd, gtw, gdw, by omega⟩)
  have hll : (s.lie.map rD).length ≤ 400 := by rw [hlm]; exact HLL.out
  have hnl : n < (s.lie.map rD).length := by rw [hlm]; exact HI.out
  rw [hV]
  clear vg vt vd vE vN hV c0 e0 e1 e2 x0 x1 x2 y0 y1 y2 gl s1 gdl ggt gdt ggd hw3 gtw gdw vS vR; have HSE := Aside0.mk (show (s.lie.map rD).take n ++ (s.lie.map rD).drop (n + 1) = (s.lie.eraseIdx n).map rD by rw [List.eraseIdx_eq_take_drop_succ, List.map_append, List.map_take, List.map_drop])
  generalize s.lie.map rD = L at hlm hcc HSE hll hnl HC
  have HLL := Aside0.mk hll
  have HNL := Aside0.mk hnl
  have HC1 := Aside0.mk (show Kd.C k118 V (some ad) n (L.take n) by
    have h := Kd.C_take (m := n) (show Kd.C k118 V (some ad) L.length L by rw [hlm]; exact hcc.2) (by omega)
    rw [show (L.take n).length = n by rw [List.length_take]; omega] at h
    exact h)
  have h2 := Kd.C_drop (m := n + 1) (c := c) (show Kd.C k118 V (some ad) L.length L by rw [hlm]; exact hcc.2) (by omega) (by omega)
  rw [List.length_drop, Option.map_some, show (n + 1) * k118.sz = (n + 1) * 3 from rfl, hlm] at h2
  have HC2 := Aside0.mk h2
  clear hll hnl h2 HC; have hpm : ((n + 1 : Nat) : Int) ≤ (s.lie.length : Int) := by have := HI.out; omega
  have hpc : n ≤ c := by have := HI.out; omega
  have hlc : s.lie.length ≤ c := hcc.1
  have hpn : n + 1 ≤ s.lie.length := HI.out
  have hpi : (n : Int) ≤ (c : Int) := by omega
  have hlci : (s.lie.length : Int) ≤ (c : Int) := by omega
  have hq1 : (0 : Int) ≤ (n : Int) + 1 := by omega
  have hq2 : (n : Int) + 1 ≤ (s.lie.length : Int) := by omega
  clear hcc; refine start_ (n := 20) (S := fun w' => Below V.heap.size V w') (ds := [19]) #[false, false, false, false, false, false, false, false, false, false, false, false, false, false, false, false, false, false, false, false] (by kernel_rfl) rfl rfl (below_drew1 (Below.refl _ _)) (fun hHeld => ?_)
  generalize hWd : V.drew = Wd at hHeld ⊢
  clear hWd; refine pure_ (i := 0) (N := some 26) (v := ?_) (a' := ?_) #[true, false, false, false, false, false, false, false, false, false, false, false, false, false, false, false, false, false, false, false] rfl rfl (by kernel_rfl) (fun _ _ _ h => h) (Or.inl ⟨by rfl, ?_⟩) ?_ ?_
  rotate_left
  · intro w'; go_simp; with_reducible rfl
  rotate_left; · (simp only [Act.put, List.setIfInBounds_toArray, List.set_cons_zero, List.set_cons_succ, i64_w, i32_w]; rfl)
  refine pure_ (i := 2) (N := some 28) (v := ?_) (a' := ?_) #[true, false, true, false, false, false, false, false, false, false, false, false, false, false, false, false, false, false, false, false] rfl rfl (by kernel_rfl) (fun _ _ _ h => h) (Or.inl ⟨by rfl, ?_⟩) ?_ ?_
  rotate_left
  · intro w'; go_simp; with_reducible rfl
  rotate_left; · (simp only [Act.put, List.setIfInBounds_toArray, List.set_cons_zero, List.set_cons_succ, i64_w, i32_w]; rfl)
  refine pure_ (i := 3) (N := some 29) (v := ?_) (a' := ?_) #[true, false, true, true, false, false, false, false, false, false, false, false, false, false, false, false, false, false, false, false] rfl rfl (by kernel_rfl) (fun _ _ _ h => h) (Or.inl ⟨by rfl, ?_⟩) ?_ ?_
  rotate_left
  · intro w'; go_simp; with_reducible rfl
  rotate_left; · (simp only [Act.put, List.setIfInBounds_toArray, List.set_cons_zero, List.set_cons_succ, i64_w, i32_w]; rfl)
  refine pure_ (i := 4) (N := some 30) (v := ?_) (a' := ?_) #[true, false, true, true, true, false, false, false, false, false, false, false, false, false, false, false, false, false, false, false] rfl rfl (by kernel_rfl) (fun _ _ _ h => h) (Or.inl ⟨by rfl, ?_⟩) ?_ ?_
  rotate_left
  · intro w'; go_simp; with_reducible rfl
  rotate_left; · (simp only [Act.put, List.setIfInBounds_toArray, List.set_cons_zero, List.set_cons_succ, i64_w, i32_w]; rfl)
  refine take_ (i := 5) (N := some 31) (v := ?_) (a' := ?_) #[true, false, true, true, true, true, false, false, false, false, false, false, false, false, false, false, false, false, false, false] rfl rfl (by kernel_rfl) (fun _ _ _ h => h) (Or.inl ⟨by rfl, ?_⟩) hHeld ?_ ?_
  rotate_left
  · intro w' hs_; have s0_ := pw_cell_below hs_ CG.out; clear hs_; go_simp; with_reducible rfl
  rotate_left; · (simp only [Act.put, List.setIfInBounds_toArray, List.set_cons_zero, List.set_cons_succ, i64_w, i32_w]; rfl)
  refine pure_ (i := 6) (N := some 32) (v := ?_) (a' := ?_) #[true, false, true, true, true, true, true, false, false, false, false, false, false, false, false, false, false, false, false, false] rfl rfl (by kernel_rfl) (fun _ _ _ h => h) (Or.inl ⟨by rfl, ?_⟩) ?_ ?_
  rotate_left
  · intro w'; go_simp; with_reducible rfl
  rotate_left; · (simp only [Act.put, List.setIfInBounds_toArray, List.set_cons_zero, List.set_cons_succ, i64_w, i32_w]; rfl)
  refine pure_ (i := 7) (N := some 33) (v := ?_) (a' := ?_) #[true, false, true, true, true, true, true, true, false, false, false, false, false, false, false, false, false, false, false, false] rfl rfl (by kernel_rfl) (fun _ _ _ h => h) (Or.inl ⟨by rfl, ?_⟩) ?_ ?_
  rotate_left
  · intro w'; go_simp; with_reducible rfl
  rotate_left; · (simp only [Act.put, List.setIfInBounds_toArray, List.set_cons_zero, List.set_cons_succ, i64_w, i32_w]; rfl)
  refine pure_ (i := 9) (N := some 35) (v := ?_) (a' := ?_) #[true, false, true, true, true, true, true, true, false, true, false, false, false, false, false, false, false, false, false, false] rfl rfl (by kernel_rfl) (fun _ _ _ h => h) (Or.inl ⟨by rfl, ?_⟩) ?_ ?_
  rotate_left
  · intro w'; go_simp; with_reducible rfl
  rotate_left; · (simp only [Act.put, List.setIfInBounds_toArray, List.set_cons_zero, List.set_cons_succ, i64_w, i32_w]; rfl)
  refine pure_ (i := 10) (N := some 36) (v := ?_) (a' := ?_) #[true, false, true, true, true, true, true, true, false, true, true, false, false, false, false, false, false, false, false, false] rfl rfl (by kernel_rfl) (fun _ _ _ h => h) (Or.inl ⟨by rfl, ?_⟩) ?_ ?_
  rotate_left
  · intro w'; go_simp; with_reducible rfl
  rotate_left; · (simp only [Act.put, List.setIfInBounds_toArray, List.set_cons_zero, List.set_cons_succ, i64_w, i32_w]; rfl)
  refine pure_ (i := 11) (N := some 37) (v := ?_) (a' := ?_) #[true, false, true, true, true, true, true, true, false, true, true, true, false, false, false, false, false, false, false, false] rfl rfl (by kernel_rfl) (fun _ _ _ h => h) (Or.inl ⟨by rfl, ?_⟩) ?_ ?_
  rotate_left
  · intro w'; go_simp; with_reducible rfl
  rotate_left; · (simp only [Act.put, List.setIfInBounds_toArray, List.set_cons_zero, List.set_cons_succ, i64_w, i32_w]; rfl)
  refine take_ (i := 12) (N := some 38) (v := ?_) (a' := ?_) #[true, false, true, true, true, true, true, true, false, true, true, true, true, false, false, false, false, false, false, false] rfl rfl (by kernel_rfl) (fun _ _ _ h => h) (Or.inl ⟨by rfl, ?_⟩) hHeld ?_ ?_
  rotate_left
  · intro w' hs_; have s0_ := pw_cell_below hs_ CG.out; clear hs_; go_simp; with_reducible rfl
  rotate_left; · (simp only [Act.put, List.setIfInBounds_toArray, List.set_cons_zero, List.set_cons_succ, i64_w, i32_w]; rfl)
  refine pure_ (i := 13) (N := some 39) (v := ?_) (a' := ?_) #[true, false, true, true, true, true, true, true, false, true, true, true, true, true, false, false, false, false, false, false] rfl rfl (by kernel_rfl) (fun _ _ _ h => h) (Or.inl ⟨by rfl, ?_⟩) ?_ ?_
  rotate_left
  · intro w'; go_simp; with_reducible rfl
  rotate_left; · (simp only [Act.put, List.setIfInBounds_toArray, List.set_cons_zero, List.set_cons_succ, i64_w, i32_w]; rfl)
  refine pure_ (i := 14) (N := some 40) (v := ?_) (a' := ?_) #[true, false, true, true, true, true, true, true, false, true, true, true, true, true, true, false, false, false, false, false] rfl rfl (by kernel_rfl) (fun _ _ _ h => h) (Or.inl ⟨by rfl, ?_⟩) ?_ ?_
  rotate_left
  · intro w'; go_simp; with_reducible rfl
  rotate_left; · (simp only [Act.put, List.setIfInBounds_toArray, List.set_cons_zero, List.set_cons_succ, i64_w, i32_w]; rfl)
  refine pure_ (i := 15) (N := some 41) (v := ?_) (a' := ?_) #[true, false, true, true, true, true, true, true, false, true, true, true, true, true, true, true, false, false, false, false] rfl rfl (by kernel_rfl) (fun _ _ _ h => h) (Or.inl ⟨by rfl, ?_⟩) ?_ ?_
  rotate_left
  · intro w'; go_simp; with_reducible rfl
  rotate_left; · (simp only [Act.put, List.setIfInBounds_toArray, List.set_cons_zero, List.set_cons_succ, i64_w, i32_w]; rfl)
  have hHeld0 := Aside0.mk hHeld
  have HOL := Aside0.mk (World.ownsRow_lit (base := Wd.heap.size) (e := 118) (size := 3) Wd #[] 0 (Nat.le_refl _) (by simp [maxLen]) rfl)
  refine one_ (i := 1) (N := some 27) #[true, true, true, true, true, true, true, true, false, true, true, true, true, true, true, true, false, false, false, false] rfl rfl (by kernel_rfl) (by decide) (fun K hK => ?_)
  refine value_ (v := .slice (some ⟨Wd.heap.size, 0, none⟩) 0 0) (w1 := Wd.alloc (.cells #[] 118)) (by rfl) rfl (by go_simp; done) ?_
  refine hK.out _ _ (below_step hHeld0.out (below_alloc (Below.refl _ _) _)) (fun hHeld => ?_)
  clear hK K; refine norm_ (a' := ?_) ?_ ?_
  rotate_left
  · show Act.put _ (some 27) _ = _
    (simp only [Act.put, List.setIfInBounds_toArray, List.set_cons_zero, List.set_cons_succ, i64_w, i32_w]; rfl)
  refine one_ (i := 8) (N := some 34) #[true, true, true, true, true, true, true, true, true, true, true, true, true, true, true, true, false, false, false, false] rfl rfl (by kernel_rfl) (by decide) (fun K hK => ?_)
  refine Kd.R_append_rows_step k118 (Rr := fun (x : S118) (cs : List Value) => cs = [.int .i64 x.f0, .int .i64 x.f1, .string x.f2]) (w0 := Wd) Wd.heap.size (by rfl) (.tmp 27) (.tmp 33) 108 118 (.agg #[.int .i64 0, .int .i64 0, .string ⟨#[]⟩]) 32 rfl Try.underlying108 rinfo118 rfl (by decide) (by decide) (.slice (some ⟨Wd.heap.size, 0, none⟩) 0 0) [] (L.take n) (some ad) n c (fun _ => True) (fun _ => False) rfl rfl ?aO ?aR (fun x cs e => by subst e; exact k118_mkM _ _ _ x) (fun _ h => h.elim) (fun _ _ => trivial) ?aB ?aS ?aL ?_
  case aO => exact ⟨fun _ _ => trivial, [], HOL.out, Reps.none _ _⟩
  case aR => exact ref_rows (Kd.C_alloc (Kd.C_below HC1.out hHeld0.out) _)
  case aB => exact below_alloc (Below.refl _ _) _
  case aS => simp
  case aL => have := HLL.out; simp; omega
  intro v3 w3 ho3 hb3 hg3 hat3; clear hg3 hat3; have HO3 := Aside0.mk ho3
  have HB3 := Aside0.mk hb3
  clear ho3 hb3; refine hK.out _ _ (below_step hHeld0.out HB3.out) (fun hHeld => ?_)
  clear hK K; refine norm_ (a' := ?_) ?_ ?_
  rotate_left
  · show Act.put _ (some 34) _ = _
    (simp only [Act.put, List.setIfInBounds_toArray, List.set_cons_zero, List.set_cons_succ, i64_w, i32_w]; rfl)
  refine one_ (i := 16) (N := some 42) #[true, true, true, true, true, true, true, true, true, true, true, true, true, true, true, true, true, false, false, false] rfl rfl (by kernel_rfl) (by decide) (fun K hK => ?_)
  refine Kd.R_append_rows_step k118 (Rr := fun (x : S118) (cs : List Value) => cs = [.int .i64 x.f0, .int .i64 x.f1, .string x.f2]) (w0 := Wd) Wd.heap.size (by rfl) (.tmp 34) (.tmp 41) 108 118 (.agg #[.int .i64 0, .int .i64 0, .string ⟨#[]⟩]) 32 rfl Try.underlying108 rinfo118 rfl (by decide) (by decide) v3 ([] ++ L.take n) (L.drop (n + 1)) _ (s.lie.length - (n + 1)) _ (fun _ => True) (fun _ => False) rfl rfl ?aO ?aR (fun x cs e => by subst e; exact k118_mkM _ _ _ x) (fun _ h => h.elim) (fun _ _ => trivial) ?aB ?aS ?aL ?_
  case aO => exact HO3.out
  case aR => exact ref_rows (Kd.C_below HC2.out (below_step hHeld0.out HB3.out))
  case aB => exact HB3.out
  case aS => exact HB3.out.size
  case aL => have := HLL.out; rw [List.length_append, List.length_take]; simp; omega
  intro v4 w4 ho4 hb4 hg4 hat4; clear hg4 hat4; rw [List.nil_append] at ho4
  obtain ⟨A4, c4, rfl⟩ := Kd.R_slice ho4; have HO4 := Aside0.mk ho4
  have HB4 := Aside0.mk (below_step hHeld0.out hb4)
  clear ho4 hb4; refine hK.out _ _ (HB4.out) (fun hHeld => ?_)
  clear hK K; refine norm_ (a' := ?_) ?_ ?_
  rotate_left
  · show Act.put _ (some 42) _ = _
    (simp only [Act.put, List.setIfInBounds_toArray, List.set_cons_zero, List.set_cons_succ, i64_w, i32_w]; rfl)
  refine pure_ (i := 17) (N := some 43) (v := ?_) (a' := ?_) #[true, true, true, true, true, true, true, true, true, true, true, true, true, true, true, true, true, true, false, false] rfl rfl (by kernel_rfl) (fun _ _ _ h => h) (Or.inl ⟨by rfl, ?_⟩) ?_ ?_
  rotate_left
  · intro w'; go_simp; with_reducible rfl
  rotate_left; · (simp only [Act.put, List.setIfInBounds_toArray, List.set_cons_zero, List.set_cons_succ, i64_w, i32_w]; rfl)
  refine pure_ (i := 18) (N := some 44) (v := ?_) (a' := ?_) #[true, true, true, true, true, true, true, true, true, true, true, true, true, true, true, true, true, true, true, false] rfl rfl (by kernel_rfl) (fun _ _ _ h => h) (Or.inl ⟨by rfl, ?_⟩) ?_ ?_
  rotate_left
  · intro w'; go_simp; with_reducible rfl
  rotate_left; · (simp only [Act.put, List.setIfInBounds_toArray, List.set_cons_zero, List.set_cons_succ, i64_w, i32_w]; rfl)
  have hg4 := blk_below VG.out HB4.out
  have x1_ := blk_frozen hg4 0; have y1_ : w4.cell? ⟨g, 0, none⟩ = some (.slice (some ad) s.lie.length c) := (blk_cell hg4 0).trans rfl
  refine last_ (i := 19) (N := none) #[true, true, true, true, true, true, true, true, true, true, true, true, true, true, true, true, true, true, true, true] rfl rfl (by kernel_rfl) (by decide) (fun K hK => ?_)
  refine skip_ (w1 := w4.setCell ⟨g, 0, none⟩ (.slice A4 (L.take n ++ L.drop (n + 1)).length c4)) (by rfl) rfl (by first | (go_simp; done) | (go_simp; rfl)) ?_
  refine hK.out _ _ ?_
  clear hK K; refine done_ (by kernel_rfl) ?_
  obtain ⟨gl, ggt, gdt, ggd, gtw, gdw, hvS⟩ := QQ.out; have hSW : V.heap.size ≤ w4.heap.size := HB4.out.size
  have hSD : V.heap.size ≤ Wd.heap.size := hHeld0.out.size
  obtain ⟨U, hU⟩ : ∃ U, w4.setCell ⟨g, 0, none⟩ (.slice A4 (L.take n ++ L.drop (n + 1)).length c4) = U := ⟨_, rfl⟩
  have ut : U.heap[gt]? = some (.cells #[.int .i64 d.f0, .int .i64 d.f1, .string d.f2] 118 (0, 0)) := by rw [← hU]; exact blk_far (blk_below VT.out HB4.out) (Ne.symm ggt) _
  have ud : U.heap[gd]? = some (.cells #[.int .i64 0, .int .i64 0, .string ⟨#[]⟩] 118 (0, 0)) := by rw [← hU]; exact blk_far (blk_below VD.out HB4.out) (Ne.symm ggd) _
  have ug : U.heap[g]? = some (.cells #[.slice A4 (L.take n ++ L.drop (n + 1)).length c4, v2] 110 (0, 0)) := by rw [← hU]; exact blk_put hg4 0 _ rfl
  have uE : ∀ k, k < w.heap.size → k ≠ g → U.heap[k]? = w.heap[k]? := fun k hk hne => by
    rw [← hU]
    exact (Below.heap_setCell w4 ⟨g, 0, none⟩ _ k hne).trans ((HB4.out.block k (by omega)).trans (VE.out k hk))
  have uN : Near F w U := by rw [← hU]; exact (VN.out.below HB4.out).set (.inl H2.out) _
  have uL : Kd.R k118 118 U 0 (fun k => Wd.heap.size ≤ k) (.slice A4 (L.take n ++ L.drop (n + 1)).length c4) (L.take n ++ L.drop (n + 1)) := by
    rw [← hU]
    exact Kd.R_far (Kd.R_mono (Kd.R_lower (Kd.R_bound HO4.out) (Nat.zero_le _)) (fun k hk => hk.2.1)) (fun k (hk : Wd.heap.size ≤ k) (e : k = g) => by omega) _
  have uS : w.heap.size ≤ U.heap.size := uN.1.size
  have uH : Kd.R Kd.string 9 U 0 (fun k => (F k ∧ k ≠ g ∧ ¬ P k) ∧ k < w.heap.size) v2 s.heard := Kd.R_step (Kd.R_mono (Kd.R_bound H4.out) (fun k hk => (⟨hk.1, hk.2.2.1⟩ : (F k ∧ k ≠ g ∧ ¬ P k) ∧ k < w.heap.size))) (fun k hk _ => uE k hk.2 hk.1.2.1)
  have d0 : U.cell? ⟨gt, 0, none⟩ = some (.int .i64 d.f0) := (blk_cell ut 0).trans rfl
  have d1 : U.cell? ⟨gt, 1, none⟩ = some (.int .i64 d.f1) := (blk_cell ut 1).trans rfl
  have d2 : U.cell? ⟨gt, 2, none⟩ = some (.string d.f2) := (blk_cell ut 2).trans rfl
  have y0 : U.cell? ⟨gd, 0, none⟩ = some (.int .i64 0) := (blk_cell ud 0).trans rfl
  have y1 : U.cell? ⟨gd, 1, none⟩ = some (.int .i64 0) := (blk_cell ud 1).trans rfl
  have y2 : U.cell? ⟨gd, 2, none⟩ = some (.string ⟨#[]⟩) := (blk_cell ud 2).trans rfl
  have x0 := blk_frozen ud 0; have x1 := blk_frozen ud 1; have x2 := blk_frozen ud 2; have UD := Aside0.mk ud
  have UG := Aside0.mk ug
  have UL := Aside0.mk uL
  have UN := Aside0.mk uN
  have UH := Aside0.mk uH
  have QS := Aside0.mk (And.intro hSW (And.intro hSD uS))
  rw [hU]
  generalize (if c = n + 1 then some ad else some (ad.add ((n + 1) * 3)) : Option Addr) = Ax_
  clear ut ud ug uE uN uL uS uH hU hg4 x1_ y1_ hSW hSD hHeld hpc hpn hpi hpm hlc hlci hq1 hq2 gl ggt gdt ggd gtw gdw hvS; go_wp2; obtain ⟨gl, ggt, gdt, ggd, gtw, gdw, hvS⟩ := QQ.out; obtain ⟨hSW, hSD, uS⟩ := QS.out; refine bodyPost_ret (results_ct rfl _ _ gd 118 #[.int .i64 d.f0, .int .i64 d.f1, .string d.f2] (0, 0) _ rfl (put3 UD.out) Try.underlying118 rfl (by kernel_rfl)) rfl ?_
  refine ⟨rfl, ⟨.slice A4 (L.take n ++ L.drop (n + 1)).length c4, v2, fun k => Wd.heap.size ≤ k, far3 UG.out ggd, .inl H2.out, ?_, Kd.R_mono (Kd.R_step UH.out (fun k hk _ => set3_heap (by have := hk.2; omega) _ _ _)) (fun k hk => ⟨.inl hk.1.1, hk.1.2.1, fun r => by have := hk.2; omega⟩), H5.out⟩, UN.out.set3 (.inr gdw) _ _ _⟩
  show Kd.R k118 118 _ 0 _ _ ((s.lie.eraseIdx n).map rD)
  rw [← HSE.out]
  exact Kd.R_mono (Kd.R_step UL.out (fun k (hk : Wd.heap.size ≤ k) _ => set3_heap (fun e => by have := HDW.out; omega) _ _ _)) (fun k (hk : Wd.heap.size ≤ k) => ⟨.inr (by omega), by omega, hk⟩)
theorem gemotref8_Net_Take.calls (i : Int) (w : World) (g : Nat) (F : Nat → Prop) (s : NS) (h : RefIn w g F s) (hl : s.lie.length ≤ 400) :
    Calls Try.prog 60 #[.pointer (some ⟨g, 0, none⟩), .int .i64 i] w fun e w' => e = .returned (.tuple #[.agg #[.int .i64 (takeN s i).2.1.f0, .int .i64 (takeN s i).2.1.f1, .string (takeN s i).2.1.f2], .int .i64 (takeN s i).2.2]) ∧ RefIn w' g (fun k => F k ∨ w.heap.size ≤ k) (takeN s i).1 ∧ Near F w w' := by
  unfold takeN
  by_cases q : hasN s i = true
  · rw [if_pos q]
    have q' := of_decide_eq_true (show decide (0 ≤ i ∧ i < (s.lie.length : Int)) = true from q)
    obtain ⟨n, rfl⟩ : ∃ n : Nat, i = (n : Int) := ⟨i.toNat, by omega⟩
    exact gemotref8_Net_Take.hit n w g F s h (by omega) hl _ rfl
  · rw [if_neg q]
    exact gemotref8_Net_Take.miss i w g F s h (by
      by_cases a : i < 0
      · exact .inl a
      · refine .inr ?_
        by_cases b : (s.lie.length : Int) ≤ i
        · exact b
        · exact absurd (decide_eq_true (show 0 ≤ i ∧ i < (s.lie.length : Int) by omega)) q)

end Go.Proofs.Ytppimpadfgldjaa.F
