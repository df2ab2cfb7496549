-- Laid by mk.py (a program of this session) over the seat's translation.
import Derived.Test.YtppimpadfgldjaaF0
import Derived.Test.YtppimpadfgldjaaB1
import Derived.Test.YtppimpadfgldjaaB4
import Derived.Test.YtppimpadfgldjaaF115
import Derived.Test.YtppimpadfgldjaaF117
import Derived.Test.YtppimpadfgldjaaF57
import Derived.Test.YtppimpadfgldjaaF63
import Derived.RegionTactic
import Derived.BigRegion
import Derived.Deep.RegionLaw
import Derived.StillTailTactics
import Derived.Test.YtppimpadfgldjaaLIns
namespace Go.Proofs.Ytppimpadfgldjaa.F
open Go.RowKit Go.Proofs.YtppimpadfgldjaaW.PrintWords Go.Proofs.YtppimpadfgldjaaW.PrintLast Go.Proofs.YtppimpadfgldjaaW.PrintMore
attribute [local go_sem] max2_int min2_int max_two min_two max_three min_three max_four min_four
set_option linter.unusedVariables false
set_option linter.unusedSimpArgs false

/-! ### gemotref8_Net_Send: function 64 -/
open Go.Maps Go.Proofs.Ytppimpadfgldjaa.Pure Go.Deep
def rD (d : S114) : S118 := ⟨d.f0, d.f1, d.f2⟩
/-- The document's net in memory: it bears a plain net's row and what was heard. -/
def RefIn (w : World) (g : Nat) (F : Nat → Prop) (s : NS) : Prop :=
  ∃ (v1 v2 : Value) (P : Nat → Prop), w.heap[g]? = some (.cells #[v1, v2] 110 (0, 0)) ∧ F g ∧ Kd.R k118 118 w 0 (fun k => F k ∧ k ≠ g ∧ P k) v1 (s.lie.map rD) ∧ Kd.R Kd.string 9 w 0 (fun k => F k ∧ k ≠ g ∧ ¬ P k) v2 s.heard ∧ Srt s.heard
theorem RefIn.kept {w w' : World} {g : Nat} {F : Nat → Prop} {s : NS} (h : RefIn w g F s) (hk : ∀ k, F k → k < w.heap.size → w'.heap[k]? = w.heap[k]?) : RefIn w' g F s := by
  obtain ⟨v1, v2, P, h1, h2, h3, h4, h5⟩ := h; exact ⟨v1, v2, P, (hk g h2 (blk_lt h1)).trans h1, h2, Kd.R_step h3 (fun k ho hlt => hk k ho.1 hlt), Kd.R_step h4 (fun k ho hlt => hk k ho.1 hlt), h5⟩
theorem RefIn.mono {w : World} {g : Nat} {F F' : Nat → Prop} {s : NS} (h : RefIn w g F s) (hF : ∀ k, F k → F' k) : RefIn w g F' s := by
  obtain ⟨v1, v2, P, h1, h2, h3, h4, h5⟩ := h; exact ⟨v1, v2, P, h1, hF _ h2, Kd.R_mono h3 (fun k hk => ⟨hF k hk.1, hk.2⟩), Kd.R_mono h4 (fun k hk => ⟨hF k hk.1, hk.2⟩), h5⟩
theorem RefIn.below {w w' : World} {g : Nat} {F : Nat → Prop} {s : NS} (h : RefIn w g F s) (hb : Below w.heap.size w w') : RefIn w' g F s := h.kept (fun k _ hlt => hb.block k hlt)
theorem RefIn.drew {w : World} {g : Nat} {F : Nat → Prop} {s : NS} (h : RefIn w g F s) : RefIn w.drew g F s := h.kept (fun _ _ _ => rfl)
theorem RefIn.drewN {w : World} {g : Nat} {F : Nat → Prop} {s : NS} (h : RefIn w g F s) (m : Nat) : RefIn (w.drewN m) g F s := h.kept (fun _ _ _ => rfl)
theorem RefIn.tight {w : World} {g : Nat} {F : Nat → Prop} {s : NS} (h : RefIn w g F s) : RefIn w g (fun k => F k ∧ k < w.heap.size) s := by
  obtain ⟨v1, v2, P, h1, h2, h3, h4, h5⟩ := h; exact ⟨v1, v2, P, h1, ⟨h2, blk_lt h1⟩, Kd.R_mono (Kd.R_bound h3) (fun k hk => ⟨⟨hk.1.1, hk.2.2.1⟩, hk.1.2⟩), Kd.R_mono (Kd.R_bound h4) (fun k hk => ⟨⟨hk.1.1, hk.2.2.1⟩, hk.1.2⟩), h5⟩
theorem put_any (v : Value) (l : List ByteArray) (s : ByteArray) (P : Nat → Prop) (hs : Srt l) (hl : l.length < 1000000000) (w : World) (h : Kd.R Kd.string 9 w 0 P v l) :
    Calls Try.prog 117 #[v, .string s] w fun e w' => ∃ u : Value, e = .returned u ∧ Kd.R Kd.string 9 w' 0 (fun k => P k ∨ w.heap.size ≤ k) u (insF l s) ∧ Kept w w' P ∧ Below 0 w w' := by
  have h0 : Below ({ w with heap := #[] } : World).heap.size { w with heap := #[] } w := ⟨rfl, rfl, rfl, Nat.zero_le _, fun k hk => absurd hk (Nat.not_lt_zero k)⟩
  refine (gemotref2_Put.calls (l.length + 1) P v l s (insF l s) { w with heap := #[] } w h0 h (put_ins s hs (by omega) (by omega))).mono ?_
  rintro e w' ⟨u, he, ho, hb, hk⟩; exact ⟨u, he, ho, hk, ⟨hb.os, hb.tape, hb.output, hk.1, fun k hk => absurd hk (Nat.not_lt_zero k)⟩⟩
theorem rinfo118 : (Try.prog.info? 118).map (fun i => (i.zero, i.size, i.bytes)) = some (some (.agg #[.int .i64 0, .int .i64 0, .string ⟨#[]⟩]), 3, 32) := by kernel_rfl
set_option maxHeartbeats 4000000 in
set_option maxRecDepth 100000 in
theorem gemotref8_Net_Send.bad (d : S114) (w : World) (g : Nat) (F : Nat → Prop) (s : NS) (h : RefIn w g F s) (h0 : ¬ goodD d) (hz : d.f2.size < 9223372036854775808) :
    Calls Try.prog 64 #[.pointer (some ⟨g, 0, none⟩), .agg #[.int .i64 d.f0, .int .i64 d.f1, .string d.f2]] w fun e w' => e = .returned (.int .i64 1) ∧ RefIn w' g (fun k => F k ∨ w.heap.size ≤ k) s ∧ Near F w w' := by
  have HN := Aside0.mk h
  have HR := Aside0.mk (fun W => gemotref1_Right.calls d.f2 (rightB d.f2) W (by rw [gemotref1_Right.f, if_pos hz]))
  have hr : (1 ≤ d.f0 ∧ d.f0 ≤ 8) → (1 ≤ d.f1 ∧ d.f1 ≤ 8) → rightB d.f2 = false := fun a b => Bool.eq_false_iff.mpr (fun c => h0 ⟨a, b, c⟩)
  clear h h0 hz; go_enter Try.func64, Try.ntmps64
  by_cases a0 : d.f0 < 1
  case' pos =>
    have q0 : decide (d.f0 < 1) = true := decide_eq_true a0
  case' neg =>
    have q0 : decide (d.f0 < 1) = false := decide_eq_false a0
    by_cases a1 : 8 < d.f0
    case' pos =>
      have q1 : decide (8 < d.f0) = true := decide_eq_true a1
    case' neg =>
      have q1 : decide (8 < d.f0) = false := decide_eq_false a1
      by_cases a2 : d.f1 < 1
      case' pos =>
        have q2 : decide (d.f1 < 1) = true := decide_eq_true a2
      case' neg =>
        have q2 : decide (d.f1 < 1) = false := decide_eq_false a2
        by_cases a3 : 8 < d.f1
        case' pos =>
          have q3 : decide (8 < d.f1) = true := decide_eq_true a3
        case' neg =>
          have q3 : decide (8 < d.f1) = false := decide_eq_false a3
          have q4 := hr ⟨by omega, by omega⟩ ⟨by omega, by omega⟩
          rw [q4] at HR
  all_goals
    clear hr
    go_wp2_with (first
      | ((with_reducible refine gate_dst (N := 3) rfl ?_); refine box_event ?hg (N := 3) ?hd (cs := #[.int .i64 d.f0, .int .i64 d.f1, .string d.f2]) (t := 118) ?hr ?_; (case hd => rfl); (case hg => rfl); (case hr => first | (go_simp; done) | (go_simp; rfl)); intro gd hgd w1 hbox hb; have HGD := Aside0.mk hgd; have HB1 := Aside0.mk hb; have HX := Aside0.mk hbox; have d0 : w1.cell? ⟨gd, 0, none⟩ = some (.int .i64 d.f0) := (blk_cell hbox 0).trans rfl; have d1 : w1.cell? ⟨gd, 1, none⟩ = some (.int .i64 d.f1) := (blk_cell hbox 1).trans rfl; have d2 : w1.cell? ⟨gd, 2, none⟩ = some (.string d.f2) := (blk_cell hbox 2).trans rfl; clear hbox hb hgd)
      | ((with_reducible refine gate_callee (f := 106) rfl ?_); refine goesL_ (some 26) rfl rfl Try.func106 (by kernel_rfl) rfl #[.string d.f2] rfl (by simp only [List.map_toArray, List.map_cons, List.map_nil] <;> rfl) ?_; (with_reducible refine (HR.out _).mono ?_); rintro e w3 ⟨rfl, hb3⟩; have HB3 := Aside0.mk (below_step HB1.out hb3); clear hb3; refine ⟨_, rfl, ?_⟩)
      | (go_at_call 106; (with_reducible refine (HR.out _).mono ?_); rintro e w3 ⟨rfl, hb3⟩; have HB3 := Aside0.mk (below_step HB1.out hb3); clear hb3))
    go_ret
    first
      | exact ⟨rfl, (HN.out.below HB3.out).mono (fun k hk => .inl hk), (Near.refl F w).below HB3.out⟩
      | exact ⟨rfl, (HN.out.below HB1.out).mono (fun k hk => .inl hk), (Near.refl F w).below HB1.out⟩
set_option maxHeartbeats 8000000 in
set_option maxRecDepth 100000 in
theorem gemotref8_Net_Send.good (d : S114) (w : World) (g : Nat) (F : Nat → Prop) (s : NS) (h : RefIn w g F s) (h0 : 1 ≤ d.f0 ∧ d.f0 ≤ 8) (h1 : 1 ≤ d.f1 ∧ d.f1 ≤ 8) (h2 : rightB d.f2 = true) (hl : s.lie.length ≤ 400) (hm : s.heard.length < 1000000000) :
    Calls Try.prog 64 #[.pointer (some ⟨g, 0, none⟩), .agg #[.int .i64 d.f0, .int .i64 d.f1, .string d.f2]] w fun e w' => e = .returned (.int .i64 (addN (hearN s d) d).2) ∧ RefIn w' g (fun k => F k ∨ w.heap.size ≤ k) (addN (hearN s d) d).1 ∧ Near F w w' := by
  have hz : d.f2.size < 9223372036854775808 := by have := ((right_iff d.f2).mp h2).2; omega
  have HR := Aside0.mk (fun W => gemotref1_Right.calls d.f2 true W (by rw [gemotref1_Right.f, if_pos hz, h2]))
  obtain ⟨v1, v2, P, n1, n2, n3, n4, n5⟩ := id h; obtain ⟨A, c, rfl⟩ := Kd.R_slice n3; rw [List.length_map] at n1 n3
  have H1 := Aside0.mk n1
  have H2 := Aside0.mk n2
  have H3 := Aside0.mk n3
  have H4 := Aside0.mk n4
  have H5 := Aside0.mk n5
  have HM := Aside0.mk hm
  have q0 : decide (d.f0 < 1) = false := decide_eq_false (by omega)
  have q1 : decide (8 < d.f0) = false := decide_eq_false (by omega)
  have q2 : decide (d.f1 < 1) = false := decide_eq_false (by omega)
  have q3 : decide (8 < d.f1) = false := decide_eq_false (by omega)
  have HL := Aside0.mk hl
  clear h h0 h1 h2 hz n1 n2 n3 n4 n5 hm hl; go_enter Try.func64, Try.ntmps64
  go_upto_region 3 with (first
      | ((with_reducible refine gate_dst (N := 3) rfl ?_); refine box_event ?hg (N := 3) ?hd (cs := #[.int .i64 d.f0, .int .i64 d.f1, .string d.f2]) (t := 118) ?hr ?_; (case hd => rfl); (case hg => rfl); (case hr => first | (go_simp; done) | (go_simp; rfl)); intro gd hgd w1 hbox hb; have HGD := Aside0.mk hgd; have HB1 := Aside0.mk hb; have HX := Aside0.mk hbox; have d0 : w1.cell? ⟨gd, 0, none⟩ = some (.int .i64 d.f0) := (blk_cell hbox 0).trans rfl; have d1 : w1.cell? ⟨gd, 1, none⟩ = some (.int .i64 d.f1) := (blk_cell hbox 1).trans rfl; have d2 : w1.cell? ⟨gd, 2, none⟩ = some (.string d.f2) := (blk_cell hbox 2).trans rfl; clear hbox hb hgd)
      | ((with_reducible refine gate_callee (f := 106) rfl ?_); refine goesL_ (some 26) rfl rfl Try.func106 (by kernel_rfl) rfl #[.string d.f2] rfl (by simp only [List.map_toArray, List.map_cons, List.map_nil] <;> rfl) ?_; (with_reducible refine (HR.out _).mono ?_); rintro e w3 ⟨rfl, hb3⟩; have HB3 := Aside0.mk hb3; clear hb3; refine ⟨_, rfl, ?_⟩)
      | (go_at_call 106; (with_reducible refine (HR.out _).mono ?_); rintro e w3 ⟨rfl, hb3⟩; have HB3 := Aside0.mk hb3; clear hb3))
  have hg3 : w3.heap[g]? = some (.cells #[.slice A s.lie.length c, v2] 110 (0, 0)) := blk_below (blk_below H1.out HB1.out) HB3.out
  have hx3 : w3.heap[gd]? = some (.cells #[.int .i64 d.f0, .int .i64 d.f1, .string d.f2] 118 (0, 0)) := blk_below HX.out HB3.out
  have HW := Aside0.mk (below_step HB1.out HB3.out)
  have HGL := Aside0.mk (blk_lt H1.out)
  have HR3 := Aside0.mk (Kd.R_below H3.out HW.out)
  have HR4 := Aside0.mk (Kd.R_mono (Kd.R_below (Kd.R_bound H4.out) HW.out) (fun k hk => (⟨hk.1, hk.2.2.1⟩ : (F k ∧ k ≠ g ∧ ¬ P k) ∧ k < w.heap.size)))
  have HP := Aside0.mk (fun (W : World) (hb : Below w3.heap.size w3 W) => put_any v2 s.heard d.f2 _ H5.out HM.out W (Kd.R_below HR4.out hb))
  have HG3 := Aside0.mk hg3
  have HX3 := Aside0.mk hx3
  have C1 := Aside0.mk (show w3.cell? ⟨g, 1, none⟩ = some v2 from (blk_cell hg3 1).trans rfl)
  have E2 := Aside0.mk (show w3.cell? ⟨gd, 2, none⟩ = some (.string d.f2) from (blk_cell hx3 2).trans rfl)
  clear hg3 hx3 q0 q1 q2 q3 HR d0 d1 d2; refine start_ (n := 11) (S := fun w' => Below w3.heap.size w3 w') (ds := [7, 10]) #[false, false, false, false, false, false, false, false, false, false, false] (by kernel_rfl) rfl rfl (below_drew1 (Below.refl _ _)) (fun hHeld => ?_)
  generalize hWd : w3.drew = Wd at hHeld ⊢
  clear hWd; refine pure_ (i := 0) (N := some 29) (v := ?_) (a' := ?_) #[true, false, false, false, false, false, false, false, false, false, false] rfl rfl (by kernel_rfl) (fun _ _ _ h => h) (Or.inl ⟨by rfl, ?_⟩) ?_ ?_
  rotate_left
  · intro w'; go_simp; with_reducible rfl
  rotate_left; · (simp only [Act.put, List.setIfInBounds_toArray, List.set_cons_zero, List.set_cons_succ, i64_w, i32_w]; rfl)
  refine pure_ (i := 1) (N := some 30) (v := ?_) (a' := ?_) #[true, true, false, false, false, false, false, false, false, false, false] rfl rfl (by kernel_rfl) (fun _ _ _ h => h) (Or.inl ⟨by rfl, ?_⟩) ?_ ?_
  rotate_left
  · intro w'; go_simp; with_reducible rfl
  rotate_left; · (simp only [Act.put, List.setIfInBounds_toArray, List.set_cons_zero, List.set_cons_succ, i64_w, i32_w]; rfl)
  refine pure_ (i := 2) (N := some 31) (v := ?_) (a' := ?_) #[true, true, true, false, false, false, false, false, false, false, false] rfl rfl (by kernel_rfl) (fun _ _ _ h => h) (Or.inl ⟨by rfl, ?_⟩) ?_ ?_
  rotate_left
  · intro w'; go_simp; with_reducible rfl
  rotate_left; · (simp only [Act.put, List.setIfInBounds_toArray, List.set_cons_zero, List.set_cons_succ, i64_w, i32_w]; rfl)
  refine pure_ (i := 3) (N := some 32) (v := ?_) (a' := ?_) #[true, true, true, true, false, false, false, false, false, false, false] rfl rfl (by kernel_rfl) (fun _ _ _ h => h) (Or.inl ⟨by rfl, ?_⟩) ?_ ?_
  rotate_left
  · intro w'; go_simp; with_reducible rfl
  rotate_left; · (simp only [Act.put, List.setIfInBounds_toArray, List.set_cons_zero, List.set_cons_succ, i64_w, i32_w]; rfl)
  refine take_ (i := 4) (N := some 33) (v := ?_) (a' := ?_) #[true, true, true, true, true, false, false, false, false, false, false] rfl rfl (by kernel_rfl) (fun _ _ _ h => h) (Or.inl ⟨by rfl, ?_⟩) hHeld ?_ ?_
  rotate_left
  · intro w' hs_; have s0_ := pw_cell_below hs_ C1.out; clear hs_; go_simp; with_reducible rfl
  rotate_left; · (simp only [Act.put, List.setIfInBounds_toArray, List.set_cons_zero, List.set_cons_succ, i64_w, i32_w]; rfl)
  refine pure_ (i := 5) (N := some 34) (v := ?_) (a' := ?_) #[true, true, true, true, true, true, false, false, false, false, false] rfl rfl (by kernel_rfl) (fun _ _ _ h => h) (Or.inl ⟨by rfl, ?_⟩) ?_ ?_
  rotate_left
  · intro w'; go_simp; with_reducible rfl
  rotate_left; · (simp only [Act.put, List.setIfInBounds_toArray, List.set_cons_zero, List.set_cons_succ, i64_w, i32_w]; rfl)
  refine take_ (i := 6) (N := some 35) (v := ?_) (a' := ?_) #[true, true, true, true, true, true, true, false, false, false, false] rfl rfl (by kernel_rfl) (fun _ _ _ h => h) (Or.inl ⟨by rfl, ?_⟩) hHeld ?_ ?_
  rotate_left
  · intro w' hs_; have s0_ := pw_cell_below hs_ E2.out; clear hs_; go_simp; with_reducible rfl
  rotate_left; · (simp only [Act.put, List.setIfInBounds_toArray, List.set_cons_zero, List.set_cons_succ, i64_w, i32_w]; rfl)
  refine last_ (i := 7) (N := some 36) #[true, true, true, true, true, true, true, true, false, false, false] rfl rfl (by kernel_rfl) (by decide) (fun K hK => ?_)
  refine goes_ Try.func117 (by kernel_rfl) rfl #[v2, .string d.f2] (by rfl) rfl rfl (by (try simp only [List.map_toArray, List.map_cons, List.map_nil]); first | done | rfl) ?_
  refine (HP.out _ hHeld).mono ?_
  rintro e w4 ⟨v4, rfl, ho, hk, hb⟩; obtain ⟨A4, c4, rfl⟩ := Kd.R_slice ho; have HO4 := Aside0.mk ho; have HK4 := Aside0.mk hk; have HB4 := Aside0.mk hb; have hg4 : w4.heap[g]? = some (.cells #[.slice A s.lie.length c, v2] 110 (0, 0)) := (hk.2 g (blk_lt (blk_below HG3.out hHeld)) (fun q => q.1.2.1 rfl)).trans (blk_below HG3.out hHeld); have hx4 : w4.heap[gd]? = some (.cells #[.int .i64 d.f0, .int .i64 d.f1, .string d.f2] 118 (0, 0)) := (hk.2 gd (blk_lt (blk_below HX3.out hHeld)) (fun q => by have := q.2; have := HGD.out; omega)).trans (blk_below HX3.out hHeld); have HG4 := Aside0.mk hg4; have HX4 := Aside0.mk hx4; have x1_ := blk_frozen hg4 1; have y1_ : w4.cell? ⟨g, 1, none⟩ = some v2 := (blk_cell hg4 1).trans rfl; clear ho hk hb hg4 hx4
  refine ⟨_, rfl, ?_⟩
  refine hK.out _ _ ?_
  clear hK K; refine norm_ (a' := ?_) ?_ ?_
  rotate_left
  · show Act.put _ (some 36) _ = _
    (simp only [Act.put, List.setIfInBounds_toArray, List.set_cons_zero, List.set_cons_succ, i64_w, i32_w]; rfl)
  refine pure_ (i := 8) (N := some 37) (v := ?_) (a' := ?_) #[true, true, true, true, true, true, true, true, true, false, false] rfl rfl (by kernel_rfl) (fun _ _ _ h => h) (Or.inl ⟨by rfl, ?_⟩) ?_ ?_
  rotate_left
  · intro w'; go_simp; with_reducible rfl
  rotate_left; · (simp only [Act.put, List.setIfInBounds_toArray, List.set_cons_zero, List.set_cons_succ, i64_w, i32_w]; rfl)
  refine pure_ (i := 9) (N := some 38) (v := ?_) (a' := ?_) #[true, true, true, true, true, true, true, true, true, true, false] rfl rfl (by kernel_rfl) (fun _ _ _ h => h) (Or.inl ⟨by rfl, ?_⟩) ?_ ?_
  rotate_left
  · intro w'; go_simp; with_reducible rfl
  rotate_left; · (simp only [Act.put, List.setIfInBounds_toArray, List.set_cons_zero, List.set_cons_succ, i64_w, i32_w]; rfl)
  refine last_ (i := 10) (N := none) #[true, true, true, true, true, true, true, true, true, true, true] rfl rfl (by kernel_rfl) (by decide) (fun K hK => ?_)
  refine skip_ (w1 := w4.setCell ⟨g, 1, none⟩ (.slice A4 (insF s.heard d.f2).length c4)) (by rfl) rfl (by first | (go_simp; done) | (go_simp; rfl)) ?_
  refine hK.out _ _ ?_
  clear hK K; refine done_ (by kernel_rfl) ?_
  have HG6 := Aside0.mk (show (w4.setCell ⟨g, 1, none⟩ (.slice A4 (insF s.heard d.f2).length c4)).heap[g]? = some (.cells #[.slice A s.lie.length c, (.slice A4 (insF s.heard d.f2).length c4)] 110 (0, 0)) from blk_put HG4.out 1 _ rfl)
  have hgdn : gd ≠ g := by have := HGL.out; rw [HGD.out]; omega
  have HX6 := Aside0.mk (show (w4.setCell ⟨g, 1, none⟩ (.slice A4 (insF s.heard d.f2).length c4)).heap[gd]? = some (.cells #[.int .i64 d.f0, .int .i64 d.f1, .string d.f2] 118 (0, 0)) from blk_far HX4.out hgdn _)
  have HWd := Aside0.mk hHeld
  have HS4 := Aside0.mk (show w.heap.size ≤ Wd.heap.size from Nat.le_trans HW.out.size hHeld.size)
  have HL6 := Aside0.mk (show Kd.R k118 118 (w4.setCell ⟨g, 1, none⟩ (.slice A4 (insF s.heard d.f2).length c4)) 0 (fun k => (F k ∧ k ≠ g ∧ P k) ∧ k < w.heap.size) (.slice A s.lie.length c) (s.lie.map rD) from
    Kd.R_far (Kd.R_step (Kd.R_below (Kd.R_mono (Kd.R_below (Kd.R_bound H3.out) HW.out) (fun k hk => (⟨hk.1, hk.2.2.1⟩ : (F k ∧ k ≠ g ∧ P k) ∧ k < w.heap.size))) HWd.out) (fun k hk hlt => HK4.out.2 k hlt (fun q => q.1.2.2 hk.1.2.2))) (fun k hk => hk.1.2.1) _)
  have HH6 := Aside0.mk (show Kd.R Kd.string 9 (w4.setCell ⟨g, 1, none⟩ (.slice A4 (insF s.heard d.f2).length c4)) 0 (fun k => (((F k ∧ k ≠ g ∧ ¬ P k) ∧ k < w.heap.size) ∨ Wd.heap.size ≤ k) ∧ k < (w4.setCell ⟨g, 1, none⟩ (.slice A4 (insF s.heard d.f2).length c4)).heap.size) (.slice A4 (insF s.heard d.f2).length c4) (insF s.heard d.f2) from
    Kd.R_mono (Kd.R_bound (Kd.R_far HO4.out (fun k hk => hk.elim (fun q => q.1.2.1) (fun q (e : k = g) => by have := HGL.out; have := HS4.out; omega)) _)) (fun k hk => ⟨hk.1, hk.2.2.1⟩))
  have HN6 := Aside0.mk (show Near F w (w4.setCell ⟨g, 1, none⟩ (.slice A4 (insF s.heard d.f2).length c4)) from ((((Near.refl F w).below HW.out).below HWd.out).trans (F' := fun k => (F k ∧ k ≠ g ∧ ¬ P k) ∧ k < w.heap.size) ⟨HB4.out, HK4.out⟩ (fun k hk => .inl hk.1.1)).set (.inl H2.out) _)
  have HSr := Aside0.mk (insF_srt d.f2 H5.out)
  have HZ6 := Aside0.mk (show Wd.heap.size ≤ (w4.setCell ⟨g, 1, none⟩ (.slice A4 (insF s.heard d.f2).length c4)).heap.size from Nat.le_trans HK4.out.1 (Below.setCell (B := 0) (Below.refl 0 w4) (Nat.zero_le _) (.slice A4 (insF s.heard d.f2).length c4)).size)
  generalize w4.setCell ⟨g, 1, none⟩ (.slice A4 (insF s.heard d.f2).length c4) = w6 at HG6 HX6 HL6 HH6 HN6 HZ6 ⊢
  have c0 : w6.cell? ⟨g, 0, none⟩ = some (.slice A s.lie.length c) := (blk_cell HG6.out 0).trans rfl
  clear hHeld HP C1 E2 x1_ y1_ hgdn HR3 HR4; by_cases hf : 400 ≤ s.lie.length
  · have q4 : decide ((400 : Int) ≤ (s.lie.length : Int)) = true := decide_eq_true (by omega)
    clear hf; go_wp2; go_ret
    have e : addN (hearN s d) d = (hearN s d, 5) := if_pos (show 400 ≤ (hearN s d).lie.length from by have := of_decide_eq_true q4; show 400 ≤ s.lie.length; omega)
    rw [e]
    refine ⟨rfl, ⟨.slice A s.lie.length c, (.slice A4 (insF s.heard d.f2).length c4), fun k => P k ∧ k < w.heap.size, HG6.out, .inl H2.out, Kd.R_mono HL6.out (fun k hk => ⟨.inl hk.1.1, hk.1.2.1, hk.1.2.2, hk.2⟩), Kd.R_mono HH6.out (fun k hk => ?_), HSr.out⟩, HN6.out⟩
    rcases hk.1 with q | q
    · exact ⟨.inl q.1.1, q.1.2.1, fun r => q.1.2.2 r.1⟩
    · have := HS4.out; have := HGL.out
      exact ⟨.inr (by omega), by omega, fun r => by have := r.2; omega⟩
  · have q4 : decide ((400 : Int) ≤ (s.lie.length : Int)) = false := decide_eq_false (by omega)
    have HF := Aside0.mk hf
    clear hf; have e0_ : w6.cell? ⟨gd, 0, none⟩ = some (.int .i64 d.f0) := (blk_cell HX6.out 0).trans rfl
    have e1_ : w6.cell? ⟨gd, 1, none⟩ = some (.int .i64 d.f1) := (blk_cell HX6.out 1).trans rfl
    have e2_ : w6.cell? ⟨gd, 2, none⟩ = some (.string d.f2) := (blk_cell HX6.out 2).trans rfl
    go_upto_region 6 with (fail)
    have HR1 := Aside0.mk (Kd.R_mono HL6.out (fun k hk => (⟨.inl hk.1.1, hk.1.2.1, .inl ⟨hk.1.2.2, hk.2⟩⟩ : (F k ∨ w.heap.size ≤ k) ∧ k ≠ g ∧ ((P k ∧ k < w.heap.size) ∨ w6.heap.size ≤ k))))
    have c0a : ∀ o, (w6.alloc o).cell? ⟨g, 0, none⟩ = some (.slice A s.lie.length c) := fun o => (blk_cell (blk_alloc HG6.out o) 0).trans rfl
    have e5 : (s.lie.map rD).length = s.lie.length := List.length_map _
    have hfr : ∀ k, w6.heap.size ≤ k → (F k ∨ w.heap.size ≤ k) ∧ k ≠ g ∧ ((P k ∧ k < w.heap.size) ∨ w6.heap.size ≤ k) := fun k hk => ⟨.inr (by have := HS4.out; have := HZ6.out; omega), (by have := HGL.out; have := HS4.out; have := HZ6.out; omega), .inr hk⟩
    have HFR := Aside0.mk hfr
    clear hfr; go_region_law ((rw [show (w6.alloc (.cells #[.int .i64 d.f0, .int .i64 d.f1, .string d.f2] 118)).drew = w6.drew.alloc (.cells #[.int .i64 d.f0, .int .i64 d.f1, .string d.f2] 118) from rfl]; (refine Kd.R_append_step k118 (w0 := w6) 0 (by rfl) (.tmp 49) (.tmp 51) 108 118 (.agg #[.int .i64 0, .int .i64 0, .string ⟨#[]⟩]) 32 rfl Try.underlying108 rinfo118 rfl (by decide) (by decide) (.slice A s.lie.length c) (s.lie.map rD) (rD d) [.int .i64 d.f0, .int .i64 d.f1, .string d.f2] (fun k => (F k ∨ w.heap.size ≤ k) ∧ k ≠ g ∧ ((P k ∧ k < w.heap.size) ∨ w6.heap.size ≤ k)) (fun _ => False) rfl rfl (k118_mkM _ _ _ (rD d)) (fun _ hk => hk.elim) (fun k hk => HFR.out k hk) (Kd.R_drew HR1.out) (below_drew1 (Below.refl _ _)) (Nat.zero_le _) (by have := HF.out; omega) ?_); intro v1 w2 ho1 hb1 hg1 _; obtain ⟨A1, c1, rfl⟩ := Kd.R_slice ho1; have HO := Aside0.mk ho1; have HGR := Aside0.mk hg1; have hbg : w2.heap[g]? = some (.cells #[.slice A s.lie.length c, (.slice A4 (insF s.heard d.f2).length c4)] 110 (0, 0)) := blk_grown (w := w6.drew) (blk_drew HG6.out) hg1 (Kd.R_away HR1.out (fun k hk => hk.2.1)); have hc : w2.cell? ⟨g, 0, none⟩ = some (.slice A s.lie.length c) := (blk_cell hbg 0).trans rfl; have hfz := blk_frozen hbg 0; have HBG := Aside0.mk hbg; clear hbg; clear ho1 hg1 hb1))
    all_goals
      go_wp2; go_ret
      have e : addN (hearN s d) d = ({ hearN s d with lie := s.lie ++ [d] }, 0) := if_neg (show ¬ 400 ≤ (hearN s d).lie.length from HF.out)
      rw [e]
      have ho := HO.out; simp only [List.length_append, List.length_cons, List.length_nil, Nat.zero_add, e5] at ho; refine ⟨rfl, ⟨.slice A1 (s.lie.length + 1) c1, (.slice A4 (insF s.heard d.f2).length c4), fun k => (P k ∧ k < w.heap.size) ∨ w6.heap.size ≤ k, ?_, .inl H2.out, ?_, ?_, HSr.out⟩, (HN6.out.drew.grown HGR.out (fun k e => (HR1.out.1 k e).1)).set (.inl H2.out) _⟩
      · exact blk_put HBG.out 0 _ rfl
      · have e6 : (({ hearN s d with lie := s.lie ++ [d] } : NS).lie.map rD) = s.lie.map rD ++ [rD d] := List.map_append
        rw [e6]
        exact Kd.R_far ho (fun k hk => hk.2.1) _
      · refine Kd.R_far (Kd.R_mono (Kd.R_step (w := w6) HH6.out (fun k hk hlt => (HGR.out.block k hlt (fun q => ?_)))) (fun k hk => ?_)) (fun k hk => hk.2.1) _
        · have := (HR1.out.1 k (by rw [← q])).2.2
          have hS := HS4.out; rcases this with r | r
          · rcases hk.1 with t | t
            · exact t.1.2.2 r.1
            · omega
          · have : k < w6.heap.size := hlt
            omega
        · have := HS4.out; have := HGL.out
          have hlt := hk.2; rcases hk.1 with q | q
          · exact ⟨.inl q.1.1, q.1.2.1, fun r => r.elim (fun r => q.1.2.2 r.1) (fun r => by omega)⟩
          · exact ⟨.inr (by omega), by omega, fun r => r.elim (fun r => by have := r.2; omega) (fun r => by omega)⟩
theorem gemotref8_Net_Send.calls (d : S114) (w : World) (g : Nat) (F : Nat → Prop) (s : NS) (h : RefIn w g F s) (hl : s.lie.length ≤ 400) (hm : s.heard.length < 1000000000) (hz : d.f2.size < 9223372036854775808) :
    Calls Try.prog 64 #[.pointer (some ⟨g, 0, none⟩), .agg #[.int .i64 d.f0, .int .i64 d.f1, .string d.f2]] w fun e w' => e = .returned (.int .i64 (sendN s d).2) ∧ RefIn w' g (fun k => F k ∨ w.heap.size ≤ k) (sendN s d).1 ∧ Near F w w' := by
  unfold sendN
  by_cases c : goodD d
  · rw [if_pos c]
    exact gemotref8_Net_Send.good d w g F s h c.1 c.2.1 c.2.2 hl hm
  · rw [if_neg c]
    exact gemotref8_Net_Send.bad d w g F s h c hz

end Go.Proofs.Ytppimpadfgldjaa.F
