-- Laid by mk.py (a program of this session) over the seat's translation.
import Derived.Test.YtppimpadfgldjaaWX
import Derived.Test.YtppimpadfgldjaaF0
import Derived.Test.YtppimpadfgldjaaF115
import Derived.Test.YtppimpadfgldjaaF56
import Derived.Test.YtppimpadfgldjaaF57
import Derived.Test.YtppimpadfgldjaaF59
import Derived.Test.YtppimpadfgldjaaF60
import Derived.Test.YtppimpadfgldjaaF61
import Derived.Test.YtppimpadfgldjaaF62
import Derived.Test.YtppimpadfgldjaaF63
import Derived.Test.YtppimpadfgldjaaF64
import Derived.Test.YtppimpadfgldjaaF65
import Derived.Test.YtppimpadfgldjaaF66
import Derived.Test.YtppimpadfgldjaaF67
import Derived.RegionTactic
import Derived.BigRegion
import Derived.StillTailTactics
import Derived.StillTactics
import Derived.Deep.RegionWith
import Derived.Deep.LoopGhost
import Derived.Deep.CutBlock
import Derived.Test.YtppimpadfgldjaaLNetLaw
namespace Go.Proofs.Ytppimpadfgldjaa.F
open Go.RowKit Go.Proofs.YtppimpadfgldjaaW.PrintWords Go.Proofs.YtppimpadfgldjaaW.PrintLast Go.Proofs.YtppimpadfgldjaaW.PrintMore
attribute [local go_sem] max2_int min2_int max_two min_two max_three min_three max_four min_four
set_option linter.unusedVariables false
set_option linter.unusedSimpArgs false

/-! ### gemotlaw8_NetPlays: function 12 -/
open Go.Maps Go.Proofs.Ytppimpadfgldjaa.Pure
theorem NetL.inn {B : Nat} {w : World} {g : Nat} {s : NS} {F : Nat → Prop} (h : NetL B w g s F) : NetIn w g F s := h.1
/-- The document's net in blocks that there are, none of them below a bound, none of them of a set. -/
def RefL (B : Nat) (w : World) (g : Nat) (s : NS) (F G : Nat → Prop) : Prop := RefIn w g G s ∧ (∀ k, G k → B ≤ k ∧ k < w.heap.size ∧ ¬ F k) ∧ B ≤ w.heap.size
theorem RefL.below {B : Nat} {w w' : World} {g : Nat} {s : NS} {F G : Nat → Prop} (h : RefL B w g s F G) (hb : Below w.heap.size w w') : RefL B w' g s F G :=
  ⟨h.1.below hb, fun k hk => ⟨(h.2.1 k hk).1, Nat.lt_of_lt_of_le (h.2.1 k hk).2.1 hb.size, (h.2.1 k hk).2.2⟩, Nat.le_trans h.2.2 hb.size⟩
theorem RefL.drew {B : Nat} {w : World} {g : Nat} {s : NS} {F G : Nat → Prop} (h : RefL B w g s F G) : RefL B w.drew g s F G := h.below (below_drew1 (Below.refl _ _))
/-- The net acts: the document's stays. -/
theorem RefL.near {B : Nat} {w w' : World} {g : Nat} {s : NS} {F F' G : Nat → Prop} (h : RefL B w g s F G) (hr : Near F w w') (hF : ∀ k, F' k → F k ∨ w.heap.size ≤ k) : RefL B w' g s F' G :=
  ⟨h.1.kept (fun k hk hlt => hr.2.2 k hlt (h.2.1 k hk).2.2), fun k hk => ⟨(h.2.1 k hk).1, Nat.lt_of_lt_of_le (h.2.1 k hk).2.1 hr.1.size, fun q => (hF k q).elim (h.2.1 k hk).2.2 (fun r => Nat.not_le_of_lt (h.2.1 k hk).2.1 r)⟩, Nat.le_trans h.2.2 hr.1.size⟩
/-- What an act of the document's net leaves. -/
def StepR (B : Nat) (w : World) (q g : Nat) (s s' : NS) (F G : Nat → Prop) (w' : World) : Prop := ∃ G', NetL B w' g s F ∧ RefL B w' q s' F G' ∧ Below B w w' ∧ Near G w w'
theorem StepR.mk {B : Nat} {w w' : World} {q g : Nat} {s s1 s' : NS} {F G : Nat → Prop} (hn : NetL B w g s F) (h : RefL B w q s1 F G) (hr : RefIn w' q (fun k => G k ∨ w.heap.size ≤ k) s') (hk : Near G w w') : StepR B w q g s s' F G w' := by
  obtain ⟨h1, h2, h3⟩ := h; refine ⟨_, ⟨hn.1.kept (fun k hF hlt => hk.2.2 k hlt (fun r => (h2 k r).2.2 hF)), fun k hF => ⟨(hn.2.1 k hF).1, Nat.lt_of_lt_of_le (hn.2.1 k hF).2 hk.1.size⟩, Nat.le_trans hn.2.2 hk.1.size⟩, ⟨hr.tight, fun k hG => ⟨?_, hG.2, ?_⟩, Nat.le_trans hn.2.2 hk.1.size⟩, hk.toBelow (fun k hG => (h2 k hG).1) hn.2.2, hk⟩
  · exact hG.1.elim (fun r => (h2 k r).1) (fun r => Nat.le_trans hn.2.2 r)
  · exact hG.1.elim (fun r => (h2 k r).2.2) (fun r e => Nat.not_le_of_lt (hn.2.1 k e).2 r)
theorem refSendL {B : Nat} {w : World} {g q : Nat} {s s1 : NS} {F G : Nat → Prop} (hn : NetL B w g s F) (h : RefL B w q s1 F G) (d : S114) (hl : s1.lie.length ≤ 400) (hm : s1.heard.length < 1000000000) (hz : d.f2.size < 9223372036854775808) :
    Calls Try.prog 64 #[.pointer (some ⟨q, 0, none⟩), .agg #[.int .i64 d.f0, .int .i64 d.f1, .string d.f2]] w fun e w' => e = .returned (.int .i64 (sendN s1 d).2) ∧ StepR B w q g s (sendN s1 d).1 F G w' :=
  (gemotref8_Net_Send.calls d w q G s1 h.1 hl hm hz).mono fun e w' hh => ⟨hh.1, StepR.mk hn h hh.2.1 hh.2.2⟩
theorem refDoubleL {B : Nat} {w : World} {g q : Nat} {s s1 : NS} {F G : Nat → Prop} (hn : NetL B w g s F) (h : RefL B w q s1 F G) (i : Int) (hl : s1.lie.length ≤ 400) :
    Calls Try.prog 62 #[.pointer (some ⟨q, 0, none⟩), .int .i64 i] w fun e w' => e = .returned (.int .i64 (doubleN s1 i).2) ∧ StepR B w q g s (doubleN s1 i).1 F G w' :=
  (gemotref8_Net_Double.calls i w q G s1 h.1 hl).mono fun e w' hh => ⟨hh.1, StepR.mk hn h hh.2.1 hh.2.2⟩
theorem refTakeL {B : Nat} {w : World} {g q : Nat} {s s1 : NS} {F G : Nat → Prop} (hn : NetL B w g s F) (h : RefL B w q s1 F G) (i : Int) (hl : s1.lie.length ≤ 400) :
    Calls Try.prog 60 #[.pointer (some ⟨q, 0, none⟩), .int .i64 i] w fun e w' => e = .returned (.tuple #[.agg #[.int .i64 (takeN s1 i).2.1.f0, .int .i64 (takeN s1 i).2.1.f1, .string (takeN s1 i).2.1.f2], .int .i64 (takeN s1 i).2.2]) ∧ StepR B w q g s (takeN s1 i).1 F G w' :=
  (gemotref8_Net_Take.calls i w q G s1 h.1 hl).mono fun e w' hh => ⟨hh.1, StepR.mk hn h hh.2.1 hh.2.2⟩
/-- The document's net's rows are read. -/
theorem RefL.reads {B : Nat} {w : World} {g : Nat} {s : NS} {F G : Nat → Prop} (h : RefL B w g s F G) : ∃ A1 c1 A2 c2, w.cell? ⟨g, 0, none⟩ = some (.slice A1 s.lie.length c1) ∧ w.cell? ⟨g, 1, none⟩ = some (.slice A2 s.heard.length c2) ∧ Kd.C k118 w A1 s.lie.length (s.lie.map rD) ∧ Kd.C Kd.string w A2 s.heard.length s.heard := by
  obtain ⟨⟨v1, v2, P, h1, h2, h3, h4, h5⟩, _, _⟩ := h
  obtain ⟨A1, c1, rfl⟩ := Kd.R_slice h3; obtain ⟨A2, c2, rfl⟩ := Kd.R_slice h4; have e1 := (Kd.R_reads' h3).2.2
  rw [List.length_map] at e1 h1
  exact ⟨A1, c1, A2, c2, (blk_cell h1 0).trans rfl, (blk_cell h1 1).trans rfl, e1, (Kd.R_reads' h4).2.2⟩
def PlayS (i : Nat) (s : NS) : Prop := s.lie.length ≤ i ∧ s.many ≤ i ∧ s.heard.length ≤ i
theorem PlayS.up {i : Nat} {s : NS} (h : PlayS i s) : PlayS (i + 1) s := ⟨Nat.le_succ_of_le h.1, Nat.le_succ_of_le h.2.1, Nat.le_succ_of_le h.2.2⟩
theorem PlayS.add {i : Nat} {s : NS} (h : s.lie.length ≤ i ∧ s.many ≤ i + 1 ∧ s.heard.length ≤ i + 1) (d : S114) : PlayS (i + 1) (addN s d).1 := by
  unfold addN
  split
  · exact ⟨Nat.le_succ_of_le h.1, h.2.1, h.2.2⟩
  · refine ⟨?_, h.2.1, h.2.2⟩
    show (s.lie ++ [d]).length ≤ _
    rw [List.length_append, List.length_singleton]
    exact Nat.succ_le_succ h.1
theorem PlayS.send {i : Nat} {s : NS} (h : PlayS i s) (d : S114) : PlayS (i + 1) (sendN s d).1 := by
  unfold sendN
  split
  · exact PlayS.add (s := hearN s d) ⟨h.1, Nat.succ_le_succ h.2.1, Nat.le_trans (insF_len _ _) (Nat.succ_le_succ h.2.2)⟩ d
  · exact h.up
theorem PlayS.double {i : Nat} {s : NS} (h : PlayS i s) (n : Int) : PlayS (i + 1) (doubleN s n).1 := by
  unfold doubleN
  split
  · exact PlayS.add ⟨h.1, Nat.le_succ_of_le h.2.1, Nat.le_succ_of_le h.2.2⟩ _
  · exact h.up
theorem PlayS.take {i : Nat} {s : NS} (h : PlayS i s) (n : Int) : PlayS (i + 1) (takeN s n).1 := by
  unfold takeN
  split
  · refine ⟨?_, Nat.le_succ_of_le h.2.1, Nat.le_succ_of_le h.2.2⟩
    show (s.lie.eraseIdx n.toNat).length ≤ _
    have h1 := List.length_eraseIdx_le s.lie n.toNat
    have h2 := h.1; omega
  · exact h.up
theorem Below.put5 {w W : World} {g : Nat} (h : Below w.heap.size w W) (hg : w.heap.size ≤ g) (a b c d e : Value) : Below w.heap.size w (((((W.setCell ⟨g, 0, none⟩ a).setCell ⟨g, 1, none⟩ b).setCell ⟨g, 2, none⟩ c).setCell ⟨g, 3, none⟩ d).setCell ⟨g, 4, none⟩ e) := ((((h.setCell (p := ⟨g, 0, none⟩) hg a).setCell (p := ⟨g, 1, none⟩) hg b).setCell (p := ⟨g, 2, none⟩) hg c).setCell (p := ⟨g, 3, none⟩) hg d).setCell (p := ⟨g, 4, none⟩) hg e
theorem fill5 {W : World} {g t : Nat} {a b c d e x y z u v : Value} (h : W.heap[g]? = some (.cells #[a, b, c, d, e] t (0, 0))) : (((((W.setCell ⟨g, 0, none⟩ x).setCell ⟨g, 1, none⟩ y).setCell ⟨g, 2, none⟩ z).setCell ⟨g, 3, none⟩ u).setCell ⟨g, 4, none⟩ v).heap[g]? = some (.cells #[x, y, z, u, v] t (0, 0)) := blk_put (blk_put (blk_put (blk_put (blk_put h 0 x rfl) 1 y rfl) 2 z rfl) 3 u rfl) 4 v rfl
set_option maxHeartbeats 4000000 in
set_option maxRecDepth 100000 in
theorem gemotlaw8_NetPlays.long (A0 : Option Addr) (c0 : Nat) (l0 : List S112) (w : World) (hl : 60 < l0.length) : Calls Try.prog 12 #[.slice A0 l0.length c0] w fun e w' => e = .returned (.bool true) ∧ Below w.heap.size w w' := by
  have HSh := Aside0.mk (fun W => gemotlaw8_shown.any W)
  have q : decide ((60 : Int) < (l0.length : Int)) = true := decide_eq_true (by omega)
  clear hl; go_enter Try.func12, Try.ntmps12
  go_wp2_with (first
    | (go_at_call 56; go_loud (refine (HSh.out _).mono ?_; rintro e w1 ⟨rfl, hb⟩; have HB1 := Aside0.mk hb; clear hb)))
  go_ret
  exact ⟨rfl, HB1.out⟩
set_option maxHeartbeats 16000000 in
set_option maxRecDepth 100000 in
theorem gemotlaw8_NetPlays.good (A0 : Option Addr) (c0 : Nat) (l0 : List S112) (w : World) (hr0 : Kd.C k112 w A0 l0.length l0) (hl : l0.length ≤ 60) (hw : ∀ x ∈ l0, In64 x.f0 ∧ x.f4.size ≤ 9223372036854775807) : Calls Try.prog 12 #[.slice A0 l0.length c0] w fun e w' => e = .returned (.bool true) ∧ Below w.heap.size w w' := by
  have HNw := Aside0.mk (fun W => newL W)
  have HSh := Aside0.mk (fun W => gemotlaw8_shown.any W)
  have q : decide ((60 : Int) < (l0.length : Int)) = false := decide_eq_false (by omega)
  have HR0 := Aside0.mk hr0
  have HL := Aside0.mk hl
  have HW := Aside0.mk (show ∀ i : Nat, i < l0.length → In64 (rd_T112 l0 (i : Int)).f0 ∧ (rd_T112 l0 (i : Int)).f4.size ≤ 9223372036854775807 from fun i h => by
    have e : rd_T112 l0 (i : Int) = l0[i] := by unfold rd_T112; simp [List.getD_eq_getElem?_getD, List.getElem?_eq_getElem h]
    rw [e]; exact hw _ (List.getElem_mem h))
  have HHe := Aside0.mk (fun (W : World) (g : Nat) (F : Nat → Prop) (s : NS) (h : NetL w.heap.size W g s F) (hm : s.many ≤ 100) => net_Net_Heard.calls W g F s h.1 (by omega))
  clear hr0 hl hw; go_enter Try.func12, Try.ntmps12
  go_wp2_with (first
    | (go_at_call 56; go_loud (refine (HSh.out _).mono ?_; rintro e w1 ⟨rfl, hb⟩; have HB1 := Aside0.mk hb; clear hb))
    | (go_at_call 57; go_loud (refine (HNw.out _).mono ?_; rintro e w2 ⟨g, F, rfl, hn, hb⟩; have HN2 := Aside0.mk (hn.lower HB1.out.size); have HB2 := Aside0.mk (below_step HB1.out hb); clear hn hb)))
  have HN3 := Aside0.mk (HN2.out.below (below_alloc (Below.refl _ _) (.cells #[.slice none 0 0, .slice none 0 0] 110)))
  have HB3 := Aside0.mk (below_alloc HB2.out (.cells #[.slice none 0 0, .slice none 0 0] 110))
  have HRf := Aside0.mk (show RefL w.heap.size (w2.alloc (.cells #[.slice none 0 0, .slice none 0 0] 110)) w2.heap.size ⟨[], [], 0⟩ F (fun k => k = w2.heap.size) from
    ⟨⟨.slice none 0 0, .slice none 0 0, fun _ => True, blk_new _ _, rfl, Kd.R_nil _ _ _ _ _, Kd.R_nil _ _ _ _ _, List.Pairwise.nil⟩, fun k hk => ⟨by have := HB2.out.size; omega, by rw [hk]; exact blk_lt (blk_new _ _), fun h => by have := (HN2.out.2.1 k h).2; omega⟩, HB3.out.size⟩)
  generalize w2.heap.size = gq at HRf ⊢
  go_loopg [6] l0.length (fun kq v6 w' => ∃ (i : Nat) (F G : Nat → Prop) (s : NS), v6 = .int .i64 (i : Int) ∧ Aside0 (i + kq = l0.length) ∧ Aside0 (PlayS i s) ∧ Aside0 (NetL w.heap.size w' g s F) ∧ Aside0 (RefL w.heap.size w' gq s F G) ∧ Aside0 (Below w.heap.size w w'))
  case atStart => exact ⟨0, F, (fun k => k = gq), ⟨[], [], 0⟩, rfl, ⟨Nat.zero_add _⟩, ⟨Nat.le_refl _, Nat.le_refl _, Nat.le_refl _⟩, HN3, HRf, HB3⟩
  case round =>
    clear HNw HSh HN2 HB2 HB1 HN3 HRf HB3; obtain ⟨i, F', G', s, rfl, HK, HSi, HN0, HQ0, HB0⟩ := hrel; by_cases ci : i < l0.length
    · obtain ⟨k1, rfl⟩ : ∃ k1, gk = k1 + 1 := ⟨gk - 1, by have := HK.out; omega⟩
      have cb : decide ((i : Int) < (l0.length : Int)) = true := decide_eq_true (by omega)
      have cb2 : decide (i < l0.length) = true := decide_eq_true ci
      have hw1 : IntKind.i64.wrap ((i : Int) + 1) = ((i + 1 : Nat) : Int) := by rw [i64_w]; unfold wrap64; have := HL.out; omega
      obtain ⟨i0, i4⟩ := HW.out i ci
      obtain ⟨ad, rfl, e0, e1, e2, e3, e4⟩ := at_T112 (Kd.C_below HR0.out HB0.out) (i : Int) (by omega) (by omega)
      simp only [Int.toNat_natCast] at e0 e1 e2 e3 e4
      generalize (rd_T112 l0 (i : Int)).f0 = x0 at i0 e0
      generalize (rd_T112 l0 (i : Int)).f1 = x1 at e1
      generalize (rd_T112 l0 (i : Int)).f2 = x2 at e2
      generalize (rd_T112 l0 (i : Int)).f3 = x3 at e3
      generalize (rd_T112 l0 (i : Int)).f4 = X at e4 i4
      have E0 := Aside0.mk e0
      have E1 := Aside0.mk e1
      have E2 := Aside0.mk e2
      have E3 := Aside0.mk e3
      have E4 := Aside0.mk e4
      have HPo := Aside0.mk (fun (W : World) => pick_calls x0 5 i0 (by decide) (by decide) W)
      generalize pk x0 5 = o at HPo
      have HCI := Aside0.mk ci
      have I4 := Aside0.mk i4
      have HS4 := Aside0.mk (show s.lie.length ≤ 60 ∧ s.many ≤ 60 ∧ s.heard.length ≤ 60 by have := HSi.out.1; have := HSi.out.2.1; have := HSi.out.2.2; have := HL.out; omega)
      clear i0 i4; go_upto_region 10 with ((with_reducible refine gate_dst (N := 7) rfl ?_); refine box_event ?hg (N := 7) ?hd (cs := #[.int .i64 0, .int .i64 0, .int .i64 0, .int .i64 0, .string ⟨#[]⟩]) (t := 112) ?hr ?_; (case hd => rfl); (case hg => rfl); (case hr => first | (go_simp; done) | (go_simp; rfl)); intro gx hgx w3 hbox hb; have HGX := Aside0.mk hgx; have HB3 := Aside0.mk hb; have HX := Aside0.mk hbox; replace e0 := pw_cell_below hb E0.out; replace e1 := pw_cell_below hb E1.out; replace e2 := pw_cell_below hb E2.out; replace e3 := pw_cell_below hb E3.out; replace e4 := pw_cell_below hb E4.out; have y0 : w3.cell? ⟨gx, 0, none⟩ = some (.int .i64 0) := (blk_cell hbox 0).trans rfl; have y1 : w3.cell? ⟨gx, 1, none⟩ = some (.int .i64 0) := (blk_cell hbox 1).trans rfl; have y2 : w3.cell? ⟨gx, 2, none⟩ = some (.int .i64 0) := (blk_cell hbox 2).trans rfl; have y3 : w3.cell? ⟨gx, 3, none⟩ = some (.int .i64 0) := (blk_cell hbox 3).trans rfl; have y4 : w3.cell? ⟨gx, 4, none⟩ = some (.string ⟨#[]⟩) := (blk_cell hbox 4).trans rfl; have z0 := blk_frozen hbox 0; have z1 := blk_frozen hbox 1; have z2 := blk_frozen hbox 2; have z3 := blk_frozen hbox 3; have z4 := blk_frozen hbox 4; clear hbox hb hgx)
      have HBV := Aside0.mk (Below.put5 (g := gx) HB3.out (Nat.le_of_eq HGX.out.symm) (.int .i64 x0) (.int .i64 x1) (.int .i64 x2) (.int .i64 x3) (.string X))
      have HXV := Aside0.mk (fill5 (x := .int .i64 x0) (y := .int .i64 x1) (z := .int .i64 x2) (u := .int .i64 x3) (v := .string X) HX.out)
      generalize (((((w3.setCell ⟨gx, 0, none⟩ (.int .i64 x0)).setCell ⟨gx, 1, none⟩ (.int .i64 x1)).setCell ⟨gx, 2, none⟩ (.int .i64 x2)).setCell ⟨gx, 3, none⟩ (.int .i64 x3)).setCell ⟨gx, 4, none⟩ (.string X)) = V at HBV HXV ⊢
      have HFB := Aside0.mk (show ∀ k, F' k → k < wr.heap.size from fun k hk => (HN0.out.2.1 k hk).2)
      have HN1 := Aside0.mk (HN0.out.below HBV.out)
      have HQ1 := Aside0.mk (HQ0.out.below HBV.out)
      have HB1 := Aside0.mk (below_step HB0.out HBV.out)
      have xc4 : V.cell? ⟨gx, 4, none⟩ = some (.string X) := (blk_cell HXV.out 4).trans rfl
      have xc0 : V.cell? ⟨gx, 0, none⟩ = some (.int .i64 x0) := (blk_cell HXV.out 0).trans rfl
      clear HN0 HQ0 HB0 HX HB3 e0 e1 e2 e3 e4 y0 y1 y2 y3 y4 z0 z1 z2 z3 z4 E0 E1 E2 E3 E4; by_cases cX : 600 < X.size
      · have t1 : decide ((600 : Int) < (X.size : Int)) = true := decide_eq_true (by omega)
        have t2 : decide (600 < X.size) = true := decide_eq_true cX
        clear cX; go_wp2; go_ret
        exact ⟨rfl, HB1.out⟩
      have t1 : decide ((600 : Int) < (X.size : Int)) = false := decide_eq_false (by omega)
      have t2 : decide (600 < X.size) = false := decide_eq_false cX
      have HX6 := Aside0.mk cX
      clear cX; go_upto_block 2 with (go_at_call 58; (with_reducible refine (HPo.out _).mono ?_); rintro e w' ⟨rfl, ⟨nd, rfl⟩⟩)
      have HBd := Aside0.mk (pw_below_drewN (Below.refl V.heap.size V) nd)
      have HN := Aside0.mk (HN1.out.below HBd.out)
      have HQ := Aside0.mk (HQ1.out.below HBd.out)
      have HB := Aside0.mk (below_step HB1.out HBd.out)
      have HXU := Aside0.mk (blk_below HXV.out HBd.out)
      have HXF := Aside0.mk (show ¬ F' gx from fun q => by have := HFB.out gx q; have := HGX.out; omega)
      generalize V.drewN nd = U at HN HQ HB HXU ⊢
      have X3 := Aside0.mk (show U.cell? ⟨gx, 3, none⟩ = some (.int .i64 x3) from (blk_cell HXU.out 3).trans rfl)
      clear HN1 HQ1 HB1 xc4 xc0 HXV HBV HBd t1 t2; go_cut [] from 28 to 216 (fun w' => ∃ (s5 : NS) (F5 G6 : Nat → Prop), Aside0 (PlayS (i + 1) s5) ∧ Aside0 (NetL w.heap.size w' g s5 F5) ∧ Aside0 (RefL w.heap.size w' gq s5 F5 G6) ∧ Aside0 (Below w.heap.size w w'))
      case first =>
       as_aux_lemma =>
        rcases (show o = 3 ∨ o = 4 ∨ (¬ o = 3 ∧ ¬ o = 4) by omega) with ho | ho | ho
        case inl =>
          subst ho; have HA := Aside0.mk (fun (W : World) (h : NetL w.heap.size W g s F') => takeL h x3 (by have := HS4.out.1; omega))
          have HC := Aside0.mk (fun (W : World) (F : Nat → Prop) (h : NetL w.heap.size W g (takeN s x3).1 F) (hq : RefL w.heap.size W gq s F G') => refTakeL h hq x3 (by have := HS4.out.1; omega))
          have HSs := Aside0.mk (HSi.out.take x3)
          generalize takeN s x3 = tk at HA HC HSs
          obtain ⟨s5, ⟨d0, d1, T⟩, er⟩ := tk
          dsimp only at HA HC HSs
          have n0 : (d0 != d0) = false := bne_self_eq_false d0
          have n1 : (d1 != d1) = false := bne_self_eq_false d1
          have n2 : (T.toList != T.toList) = false := bne_self_eq_false _
          have n3 : (er != er) = false := bne_self_eq_false er
          have x3c := X3.out
          go_upto_region 17 with (first
            | (go_at_call 59; go_loud (refine (HA.out _ HN.out).mono ?_; rintro e w5 ⟨rfl, F5, hn, hF, hr⟩; have HQ5 := Aside0.mk (HQ.out.near hr hF); have HB5 := Aside0.mk (HB.out.trans (hr.toBelow (fun k hk => (HN.out.2.1 k hk).1) HN.out.2.2)); have hx5 := (hr.2.2 gx (blk_lt HXU.out) HXF.out).trans HXU.out; have HN5 := Aside0.mk hn; have HX5 := Aside0.mk hx5; clear hn hF hr hx5))
            | ((with_reducible refine gate_dst (N := 8) rfl ?_); refine box_event ?hg (N := 8) ?hd (cs := #[.int .i64 0, .int .i64 0, .string ⟨#[]⟩]) (t := 114) ?hr ?_; (case hd => rfl); (case hg => rfl); (case hr => first | (go_simp; done) | (go_simp; rfl)); intro g8 hgx_ w8 hbox hb; have y0_ : w8.cell? ⟨g8, 0, none⟩ = some (.int .i64 0) := (blk_cell hbox 0).trans rfl; have y1_ : w8.cell? ⟨g8, 1, none⟩ = some (.int .i64 0) := (blk_cell hbox 1).trans rfl; have y2_ : w8.cell? ⟨g8, 2, none⟩ = some (.string ⟨#[]⟩) := (blk_cell hbox 2).trans rfl; have f0_ := blk_frozen hbox 0; have f1_ := blk_frozen hbox 1; have f2_ := blk_frozen hbox 2; have HG8 := Aside0.mk hgx_; have HB8 := Aside0.mk hb; have HX8 := Aside0.mk hbox; clear hbox hb hgx_))
          have HV8 := Aside0.mk (Below.set3 (B := w5.heap.size) HB8.out (Nat.le_of_eq HG8.out.symm) (.int .i64 d0) (.int .i64 d1) (.string T))
          have HC8 := Aside0.mk (put3 (x := .int .i64 d0) (y := .int .i64 d1) (z := .string T) HX8.out)
          generalize ((w8.setCell ⟨g8, 0, none⟩ (.int .i64 d0)).setCell ⟨g8, 1, none⟩ (.int .i64 d1)).setCell ⟨g8, 2, none⟩ (.string T) = V8 at HV8 HC8 ⊢
          have HN8 := Aside0.mk (HN5.out.below HV8.out)
          have HQ8 := Aside0.mk (HQ5.out.below HV8.out)
          have HB8b := Aside0.mk (below_step HB5.out HV8.out)
          have x3c : V8.cell? ⟨gx, 3, none⟩ = some (.int .i64 x3) := (blk_cell (blk_below HX5.out HV8.out) 3).trans rfl
          clear y0_ y1_ y2_ f0_ f1_ f2_ HX8 HB8
          go_upto_region 18 with (first
            | (go_at_call 60; go_loud (refine (HC.out _ _ HN8.out HQ8.out).mono ?_; rintro e w9 ⟨rfl, G6, hn, hq, hb, hc9⟩; have HN9 := Aside0.mk hn; have HQ9 := Aside0.mk hq; have HB9 := Aside0.mk (HB8b.out.trans hb); have HC9 := Aside0.mk ((hc9.2.2 g8 (blk_lt HC8.out) (fun hk => by have := HG8.out; have := (HQ5.out.2.1 g8 hk).2.1; omega)).trans HC8.out); clear hn hq hb hc9))
            | ((with_reducible refine gate_dst (N := 10) rfl ?_); refine box_event ?hg (N := 10) ?hd (cs := #[.int .i64 0, .int .i64 0, .string ⟨#[]⟩]) (t := 118) ?hr ?_; (case hd => rfl); (case hg => rfl); (case hr => first | (go_simp; done) | (go_simp; rfl)); intro g10 hgx_ w10 hbox hb; have y0_ : w10.cell? ⟨g10, 0, none⟩ = some (.int .i64 0) := (blk_cell hbox 0).trans rfl; have y1_ : w10.cell? ⟨g10, 1, none⟩ = some (.int .i64 0) := (blk_cell hbox 1).trans rfl; have y2_ : w10.cell? ⟨g10, 2, none⟩ = some (.string ⟨#[]⟩) := (blk_cell hbox 2).trans rfl; have f0_ := blk_frozen hbox 0; have f1_ := blk_frozen hbox 1; have f2_ := blk_frozen hbox 2; have HG10 := Aside0.mk hgx_; have HB10 := Aside0.mk hb; have HX10 := Aside0.mk hbox; clear hbox hb hgx_))
          have HV10 := Aside0.mk (Below.set3 (B := w9.heap.size) HB10.out (Nat.le_of_eq HG10.out.symm) (.int .i64 d0) (.int .i64 d1) (.string T))
          have HC10 := Aside0.mk (put3 (x := .int .i64 d0) (y := .int .i64 d1) (z := .string T) HX10.out)
          generalize ((w10.setCell ⟨g10, 0, none⟩ (.int .i64 d0)).setCell ⟨g10, 1, none⟩ (.int .i64 d1)).setCell ⟨g10, 2, none⟩ (.string T) = w6 at HV10 HC10 ⊢
          have HN6 := Aside0.mk (HN9.out.below HV10.out)
          have HQ6 := Aside0.mk (HQ9.out.below HV10.out)
          have HB6 := Aside0.mk (below_step HB9.out HV10.out)
          have ha := blk_below HC9.out HV10.out
          have a0_ : w6.cell? ⟨g8, 0, none⟩ = some (.int .i64 d0) := (blk_cell ha 0).trans rfl
          have a1_ : w6.cell? ⟨g8, 1, none⟩ = some (.int .i64 d1) := (blk_cell ha 1).trans rfl
          have a2_ : w6.cell? ⟨g8, 2, none⟩ = some (.string T) := (blk_cell ha 2).trans rfl
          have b0_ : w6.cell? ⟨g10, 0, none⟩ = some (.int .i64 d0) := (blk_cell HC10.out 0).trans rfl
          have b1_ : w6.cell? ⟨g10, 1, none⟩ = some (.int .i64 d1) := (blk_cell HC10.out 1).trans rfl
          have b2_ : w6.cell? ⟨g10, 2, none⟩ = some (.string T) := (blk_cell HC10.out 2).trans rfl
          clear ha y0_ y1_ y2_ f0_ f1_ f2_ x3c HX10 HB10; go_wp2; go_meet
          case rel => exact ⟨s5, F5, G6, HSs, HN6, HQ6, HB6⟩
        case inr.inl =>
          subst ho; have HA := Aside0.mk (fun (W : World) (h : NetL w.heap.size W g s F') => doubleL h x3 (by have := HS4.out.1; omega))
          have HC := Aside0.mk (fun (W : World) (F : Nat → Prop) (h : NetL w.heap.size W g (doubleN s x3).1 F) (hq : RefL w.heap.size W gq s F G') => refDoubleL h hq x3 (by have := HS4.out.1; omega))
          have HSs := Aside0.mk (HSi.out.double x3)
          generalize doubleN s x3 = tk at HA HC HSs
          obtain ⟨s5, er⟩ := tk; dsimp only at HA HC HSs
          have n3 : (er != er) = false := bne_self_eq_false er
          go_upto_region 21 with (fail)
          refine start_ (n := 9) (S := fun w' => w'.heap[gx]? = some (.cells #[.int .i64 x0, .int .i64 x1, .int .i64 x2, .int .i64 x3, .string X] 112 (0, 0))) (ds := [7]) #[false, false, false, false, false, false, false, false, false] (by kernel_rfl) rfl rfl (blk_drew HXU.out) (fun hHeld => ?_)
          refine pure_ (i := 0) (N := some 106) (v := ?_) (a' := ?_) #[true, false, false, false, false, false, false, false, false] rfl rfl (by kernel_rfl) (fun _ _ _ h => h) (Or.inl ⟨by rfl, ?_⟩) ?_ ?_
          rotate_left
          · intro w'; go_simp; with_reducible rfl
          rotate_left; · (simp only [Act.put, List.setIfInBounds_toArray, List.set_cons_zero, List.set_cons_succ, i64_w, i32_w]; rfl)
          refine pure_ (i := 1) (N := some 107) (v := ?_) (a' := ?_) #[true, true, false, false, false, false, false, false, false] rfl rfl (by kernel_rfl) (fun _ _ _ h => h) (Or.inl ⟨by rfl, ?_⟩) ?_ ?_
          rotate_left
          · intro w'; go_simp; with_reducible rfl
          rotate_left; · (simp only [Act.put, List.setIfInBounds_toArray, List.set_cons_zero, List.set_cons_succ, i64_w, i32_w]; rfl)
          refine take_ (i := 2) (N := some 108) (v := ?_) (a' := ?_) #[true, true, true, false, false, false, false, false, false] rfl rfl (by kernel_rfl) (fun _ _ _ h => h) (Or.inl ⟨by rfl, ?_⟩) hHeld ?_ ?_
          rotate_left
          · intro w' hs_; have s0_ : w'.cell? ⟨gx, 3, none⟩ = some (.int .i64 x3) := (blk_cell hs_ 3).trans rfl; clear hs_; go_simp; with_reducible rfl
          rotate_left; · (simp only [Act.put, List.setIfInBounds_toArray, List.set_cons_zero, List.set_cons_succ, i64_w, i32_w]; rfl)
          refine pure_ (i := 4) (N := some 110) (v := ?_) (a' := ?_) #[true, true, true, false, true, false, false, false, false] rfl rfl (by kernel_rfl) (fun _ _ _ h => h) (Or.inl ⟨by rfl, ?_⟩) ?_ ?_
          rotate_left
          · intro w'; go_simp; with_reducible rfl
          rotate_left; · (simp only [Act.put, List.setIfInBounds_toArray, List.set_cons_zero, List.set_cons_succ, i64_w, i32_w]; rfl)
          refine pure_ (i := 5) (N := some 111) (v := ?_) (a' := ?_) #[true, true, true, false, true, true, false, false, false] rfl rfl (by kernel_rfl) (fun _ _ _ h => h) (Or.inl ⟨by rfl, ?_⟩) ?_ ?_
          rotate_left
          · intro w'; go_simp; with_reducible rfl
          rotate_left; · (simp only [Act.put, List.setIfInBounds_toArray, List.set_cons_zero, List.set_cons_succ, i64_w, i32_w]; rfl)
          refine take_ (i := 6) (N := some 112) (v := ?_) (a' := ?_) #[true, true, true, false, true, true, true, false, false] rfl rfl (by kernel_rfl) (fun _ _ _ h => h) (Or.inl ⟨by rfl, ?_⟩) hHeld ?_ ?_
          rotate_left
          · intro w' hs_; have s0_ : w'.cell? ⟨gx, 3, none⟩ = some (.int .i64 x3) := (blk_cell hs_ 3).trans rfl; clear hs_; go_simp; with_reducible rfl
          rotate_left; · (simp only [Act.put, List.setIfInBounds_toArray, List.set_cons_zero, List.set_cons_succ, i64_w, i32_w]; rfl)
          refine one_ (i := 3) (N := some 109) #[true, true, true, true, true, true, true, false, false] rfl rfl (by kernel_rfl) (by decide) (fun K hK => ?_)
          refine goes_ Try.func61 (by kernel_rfl) rfl #[.pointer (some ⟨g, 0, none⟩), .int .i64 x3] (by rfl) rfl rfl (by (try simp only [List.map_toArray, List.map_cons, List.map_nil]); first | done | rfl) ?_
          with_reducible refine (HA.out _ HN.out.drew).mono ?_
          rintro e w5 ⟨rfl, F5, hn, hF, hr⟩; have HB5 := Aside0.mk ((below_drew1 HB.out).trans (hr.toBelow (fun k hk => (HN.out.2.1 k hk).1) HN.out.2.2)); have HQ5 := Aside0.mk (HQ.out.drew.near hr hF); have HN5 := Aside0.mk hn; have hx5 := (hr.2.2 gx (blk_lt HXU.out) HXF.out).trans (blk_drew HXU.out); clear hn hF hr
          refine ⟨_, rfl, ?_⟩
          refine hK.out _ _ (hx5) (fun hHeld => ?_)
          clear hK K; refine norm_ (a' := ?_) ?_ ?_
          rotate_left
          · show Act.put _ (some 109) _ = _
            (simp only [Act.put, List.setIfInBounds_toArray, List.set_cons_zero, List.set_cons_succ, i64_w, i32_w]; rfl)
          refine last_ (i := 7) (N := some 113) #[true, true, true, true, true, true, true, true, false] rfl rfl (by kernel_rfl) (by decide) (fun K hK => ?_)
          refine goes_ Try.func62 (by kernel_rfl) rfl #[.pointer (some ⟨gq, 0, none⟩), .int .i64 x3] (by rfl) rfl rfl (by (try simp only [List.map_toArray, List.map_cons, List.map_nil]); first | done | rfl) ?_
          refine (HC.out _ _ HN5.out HQ5.out).mono ?_
          rintro e w6 ⟨rfl, G6, hn, hq, hb, -⟩; have HN6 := Aside0.mk hn; have HQ6 := Aside0.mk hq; have HB6 := Aside0.mk (HB5.out.trans hb); clear hn hq hb
          refine ⟨_, rfl, ?_⟩
          refine hK.out _ _ ?_
          clear hK K; refine norm_ (a' := ?_) ?_ ?_
          rotate_left
          · show Act.put _ (some 113) _ = _
            (simp only [Act.put, List.setIfInBounds_toArray, List.set_cons_zero, List.set_cons_succ, i64_w, i32_w]; rfl)
          refine pure_ (i := 8) (N := some 114) (v := ?_) (a' := ?_) #[true, true, true, true, true, true, true, true, true] rfl rfl (by kernel_rfl) (fun _ _ _ h => h) (Or.inl ⟨by rfl, ?_⟩) ?_ ?_
          rotate_left
          · intro w'; go_simp; with_reducible rfl
          rotate_left; · (simp only [Act.put, List.setIfInBounds_toArray, List.set_cons_zero, List.set_cons_succ, i64_w, i32_w]; rfl)
          refine done_ (by kernel_rfl) ?_
          go_wp2; go_meet
          case rel => exact ⟨s5, F5, G6, HSs, HN6, HQ6, HB6⟩
        case inr.inr =>
          have z3 : (o == 3) = false := beq_eq_false_iff_ne.mpr ho.1
          have z4 : (o == 4) = false := beq_eq_false_iff_ne.mpr ho.2
          have z3b : ¬ o = 3 := ho.1
          have z4b : ¬ o = 4 := ho.2
          have HA := Aside0.mk (fun (W : World) (h : NetL w.heap.size W g s F') => sendL h ⟨x1, x2, X⟩ (by have := HS4.out.1; omega) (by have := HS4.out.2.1; omega) (by show X.size < _; have := I4.out; omega))
          have HC := Aside0.mk (fun (W : World) (F : Nat → Prop) (h : NetL w.heap.size W g (sendN s ⟨x1, x2, X⟩).1 F) (hq : RefL w.heap.size W gq s F G') => refSendL h hq ⟨x1, x2, X⟩ (by have := HS4.out.1; omega) (by have := HS4.out.2.2; omega) (by show X.size < _; have := I4.out; omega))
          have HSs := Aside0.mk (HSi.out.send ⟨x1, x2, X⟩)
          generalize sendN s ⟨x1, x2, X⟩ = tk at HA HC HSs
          obtain ⟨s5, er⟩ := tk; dsimp only at HA HC HSs
          have n3 : (er != er) = false := bne_self_eq_false er
          clear ho; go_upto_region 13 with (fail)
          refine start_ (n := 19) (S := fun w' => w'.heap[gx]? = some (.cells #[.int .i64 x0, .int .i64 x1, .int .i64 x2, .int .i64 x3, .string X] 112 (0, 0))) (ds := [17]) #[false, false, false, false, false, false, false, false, false, false, false, false, false, false, false, false, false, false, false] (by kernel_rfl) rfl rfl (blk_drew HXU.out) (fun hHeld => ?_)
          refine pure_ (i := 0) (N := some 45) (v := ?_) (a' := ?_) #[true, false, false, false, false, false, false, false, false, false, false, false, false, false, false, false, false, false, false] rfl rfl (by kernel_rfl) (fun _ _ _ h => h) (Or.inl ⟨by rfl, ?_⟩) ?_ ?_
          rotate_left
          · intro w'; go_simp; with_reducible rfl
          rotate_left; · (simp only [Act.put, List.setIfInBounds_toArray, List.set_cons_zero, List.set_cons_succ, i64_w, i32_w]; rfl)
          refine pure_ (i := 1) (N := some 46) (v := ?_) (a' := ?_) #[true, true, false, false, false, false, false, false, false, false, false, false, false, false, false, false, false, false, false] rfl rfl (by kernel_rfl) (fun _ _ _ h => h) (Or.inl ⟨by rfl, ?_⟩) ?_ ?_
          rotate_left
          · intro w'; go_simp; with_reducible rfl
          rotate_left; · (simp only [Act.put, List.setIfInBounds_toArray, List.set_cons_zero, List.set_cons_succ, i64_w, i32_w]; rfl)
          refine take_ (i := 2) (N := some 47) (v := ?_) (a' := ?_) #[true, true, true, false, false, false, false, false, false, false, false, false, false, false, false, false, false, false, false] rfl rfl (by kernel_rfl) (fun _ _ _ h => h) (Or.inl ⟨by rfl, ?_⟩) hHeld ?_ ?_
          rotate_left
          · intro w' hs_; have s0_ : w'.cell? ⟨gx, 1, none⟩ = some (.int .i64 x1) := (blk_cell hs_ 1).trans rfl; clear hs_; go_simp; with_reducible rfl
          rotate_left; · (simp only [Act.put, List.setIfInBounds_toArray, List.set_cons_zero, List.set_cons_succ, i64_w, i32_w]; rfl)
          refine pure_ (i := 3) (N := some 48) (v := ?_) (a' := ?_) #[true, true, true, true, false, false, false, false, false, false, false, false, false, false, false, false, false, false, false] rfl rfl (by kernel_rfl) (fun _ _ _ h => h) (Or.inl ⟨by rfl, ?_⟩) ?_ ?_
          rotate_left
          · intro w'; go_simp; with_reducible rfl
          rotate_left; · (simp only [Act.put, List.setIfInBounds_toArray, List.set_cons_zero, List.set_cons_succ, i64_w, i32_w]; rfl)
          refine take_ (i := 4) (N := some 49) (v := ?_) (a' := ?_) #[true, true, true, true, true, false, false, false, false, false, false, false, false, false, false, false, false, false, false] rfl rfl (by kernel_rfl) (fun _ _ _ h => h) (Or.inl ⟨by rfl, ?_⟩) hHeld ?_ ?_
          rotate_left
          · intro w' hs_; have s0_ : w'.cell? ⟨gx, 2, none⟩ = some (.int .i64 x2) := (blk_cell hs_ 2).trans rfl; clear hs_; go_simp; with_reducible rfl
          rotate_left; · (simp only [Act.put, List.setIfInBounds_toArray, List.set_cons_zero, List.set_cons_succ, i64_w, i32_w]; rfl)
          refine pure_ (i := 5) (N := some 50) (v := ?_) (a' := ?_) #[true, true, true, true, true, true, false, false, false, false, false, false, false, false, false, false, false, false, false] rfl rfl (by kernel_rfl) (fun _ _ _ h => h) (Or.inl ⟨by rfl, ?_⟩) ?_ ?_
          rotate_left
          · intro w'; go_simp; with_reducible rfl
          rotate_left; · (simp only [Act.put, List.setIfInBounds_toArray, List.set_cons_zero, List.set_cons_succ, i64_w, i32_w]; rfl)
          refine take_ (i := 6) (N := some 51) (v := ?_) (a' := ?_) #[true, true, true, true, true, true, true, false, false, false, false, false, false, false, false, false, false, false, false] rfl rfl (by kernel_rfl) (fun _ _ _ h => h) (Or.inl ⟨by rfl, ?_⟩) hHeld ?_ ?_
          rotate_left
          · intro w' hs_; have s0_ : w'.cell? ⟨gx, 4, none⟩ = some (.string X) := (blk_cell hs_ 4).trans rfl; clear hs_; go_simp; with_reducible rfl
          rotate_left; · (simp only [Act.put, List.setIfInBounds_toArray, List.set_cons_zero, List.set_cons_succ, i64_w, i32_w]; rfl)
          refine pure_ (i := 7) (N := some 52) (v := ?_) (a' := ?_) #[true, true, true, true, true, true, true, true, false, false, false, false, false, false, false, false, false, false, false] rfl rfl (by kernel_rfl) (fun _ _ _ h => h) (Or.inl ⟨by rfl, ?_⟩) ?_ ?_
          rotate_left
          · intro w'; go_simp; with_reducible rfl
          rotate_left; · (simp only [Act.put, List.setIfInBounds_toArray, List.set_cons_zero, List.set_cons_succ, i64_w, i32_w]; rfl)
          refine pure_ (i := 9) (N := some 54) (v := ?_) (a' := ?_) #[true, true, true, true, true, true, true, true, false, true, false, false, false, false, false, false, false, false, false] rfl rfl (by kernel_rfl) (fun _ _ _ h => h) (Or.inl ⟨by rfl, ?_⟩) ?_ ?_
          rotate_left
          · intro w'; go_simp; with_reducible rfl
          rotate_left; · (simp only [Act.put, List.setIfInBounds_toArray, List.set_cons_zero, List.set_cons_succ, i64_w, i32_w]; rfl)
          refine pure_ (i := 10) (N := some 55) (v := ?_) (a' := ?_) #[true, true, true, true, true, true, true, true, false, true, true, false, false, false, false, false, false, false, false] rfl rfl (by kernel_rfl) (fun _ _ _ h => h) (Or.inl ⟨by rfl, ?_⟩) ?_ ?_
          rotate_left
          · intro w'; go_simp; with_reducible rfl
          rotate_left; · (simp only [Act.put, List.setIfInBounds_toArray, List.set_cons_zero, List.set_cons_succ, i64_w, i32_w]; rfl)
          refine take_ (i := 11) (N := some 56) (v := ?_) (a' := ?_) #[true, true, true, true, true, true, true, true, false, true, true, true, false, false, false, false, false, false, false] rfl rfl (by kernel_rfl) (fun _ _ _ h => h) (Or.inl ⟨by rfl, ?_⟩) hHeld ?_ ?_
          rotate_left
          · intro w' hs_; have s0_ : w'.cell? ⟨gx, 1, none⟩ = some (.int .i64 x1) := (blk_cell hs_ 1).trans rfl; clear hs_; go_simp; with_reducible rfl
          rotate_left; · (simp only [Act.put, List.setIfInBounds_toArray, List.set_cons_zero, List.set_cons_succ, i64_w, i32_w]; rfl)
          refine pure_ (i := 12) (N := some 57) (v := ?_) (a' := ?_) #[true, true, true, true, true, true, true, true, false, true, true, true, true, false, false, false, false, false, false] rfl rfl (by kernel_rfl) (fun _ _ _ h => h) (Or.inl ⟨by rfl, ?_⟩) ?_ ?_
          rotate_left
          · intro w'; go_simp; with_reducible rfl
          rotate_left; · (simp only [Act.put, List.setIfInBounds_toArray, List.set_cons_zero, List.set_cons_succ, i64_w, i32_w]; rfl)
          refine take_ (i := 13) (N := some 58) (v := ?_) (a' := ?_) #[true, true, true, true, true, true, true, true, false, true, true, true, true, true, false, false, false, false, false] rfl rfl (by kernel_rfl) (fun _ _ _ h => h) (Or.inl ⟨by rfl, ?_⟩) hHeld ?_ ?_
          rotate_left
          · intro w' hs_; have s0_ : w'.cell? ⟨gx, 2, none⟩ = some (.int .i64 x2) := (blk_cell hs_ 2).trans rfl; clear hs_; go_simp; with_reducible rfl
          rotate_left; · (simp only [Act.put, List.setIfInBounds_toArray, List.set_cons_zero, List.set_cons_succ, i64_w, i32_w]; rfl)
          refine pure_ (i := 14) (N := some 59) (v := ?_) (a' := ?_) #[true, true, true, true, true, true, true, true, false, true, true, true, true, true, true, false, false, false, false] rfl rfl (by kernel_rfl) (fun _ _ _ h => h) (Or.inl ⟨by rfl, ?_⟩) ?_ ?_
          rotate_left
          · intro w'; go_simp; with_reducible rfl
          rotate_left; · (simp only [Act.put, List.setIfInBounds_toArray, List.set_cons_zero, List.set_cons_succ, i64_w, i32_w]; rfl)
          refine take_ (i := 15) (N := some 60) (v := ?_) (a' := ?_) #[true, true, true, true, true, true, true, true, false, true, true, true, true, true, true, true, false, false, false] rfl rfl (by kernel_rfl) (fun _ _ _ h => h) (Or.inl ⟨by rfl, ?_⟩) hHeld ?_ ?_
          rotate_left
          · intro w' hs_; have s0_ : w'.cell? ⟨gx, 4, none⟩ = some (.string X) := (blk_cell hs_ 4).trans rfl; clear hs_; go_simp; with_reducible rfl
          rotate_left; · (simp only [Act.put, List.setIfInBounds_toArray, List.set_cons_zero, List.set_cons_succ, i64_w, i32_w]; rfl)
          refine pure_ (i := 16) (N := some 61) (v := ?_) (a' := ?_) #[true, true, true, true, true, true, true, true, false, true, true, true, true, true, true, true, true, false, false] rfl rfl (by kernel_rfl) (fun _ _ _ h => h) (Or.inl ⟨by rfl, ?_⟩) ?_ ?_
          rotate_left
          · intro w'; go_simp; with_reducible rfl
          rotate_left; · (simp only [Act.put, List.setIfInBounds_toArray, List.set_cons_zero, List.set_cons_succ, i64_w, i32_w]; rfl)
          refine one_ (i := 8) (N := some 53) #[true, true, true, true, true, true, true, true, true, true, true, true, true, true, true, true, true, false, false] rfl rfl (by kernel_rfl) (by decide) (fun K hK => ?_)
          refine goes_ Try.func63 (by kernel_rfl) rfl #[.pointer (some ⟨g, 0, none⟩), .agg #[.int .i64 x1, .int .i64 x2, .string X]] (by rfl) rfl rfl (by (try simp only [List.map_toArray, List.map_cons, List.map_nil]); first | done | rfl) ?_
          with_reducible refine (HA.out _ HN.out.drew).mono ?_
          rintro e w5 ⟨rfl, F5, hn, hF, hr⟩; have HB5 := Aside0.mk ((below_drew1 HB.out).trans (hr.toBelow (fun k hk => (HN.out.2.1 k hk).1) HN.out.2.2)); have HQ5 := Aside0.mk (HQ.out.drew.near hr hF); have HN5 := Aside0.mk hn; have hx5 := (hr.2.2 gx (blk_lt HXU.out) HXF.out).trans (blk_drew HXU.out); clear hn hF hr
          refine ⟨_, rfl, ?_⟩
          refine hK.out _ _ (hx5) (fun hHeld => ?_)
          clear hK K; refine norm_ (a' := ?_) ?_ ?_
          rotate_left
          · show Act.put _ (some 53) _ = _
            (simp only [Act.put, List.setIfInBounds_toArray, List.set_cons_zero, List.set_cons_succ, i64_w, i32_w]; rfl)
          refine last_ (i := 17) (N := some 62) #[true, true, true, true, true, true, true, true, true, true, true, true, true, true, true, true, true, true, false] rfl rfl (by kernel_rfl) (by decide) (fun K hK => ?_)
          refine goes_ Try.func64 (by kernel_rfl) rfl #[.pointer (some ⟨gq, 0, none⟩), .agg #[.int .i64 x1, .int .i64 x2, .string X]] (by rfl) rfl rfl (by (try simp only [List.map_toArray, List.map_cons, List.map_nil]); first | done | rfl) ?_
          refine (HC.out _ _ HN5.out HQ5.out).mono ?_
          rintro e w6 ⟨rfl, G6, hn, hq, hb, -⟩; have HN6 := Aside0.mk hn; have HQ6 := Aside0.mk hq; have HB6 := Aside0.mk (HB5.out.trans hb); clear hn hq hb
          refine ⟨_, rfl, ?_⟩
          refine hK.out _ _ ?_
          clear hK K; refine norm_ (a' := ?_) ?_ ?_
          rotate_left
          · show Act.put _ (some 62) _ = _
            (simp only [Act.put, List.setIfInBounds_toArray, List.set_cons_zero, List.set_cons_succ, i64_w, i32_w]; rfl)
          refine pure_ (i := 18) (N := some 63) (v := ?_) (a' := ?_) #[true, true, true, true, true, true, true, true, true, true, true, true, true, true, true, true, true, true, true] rfl rfl (by kernel_rfl) (fun _ _ _ h => h) (Or.inl ⟨by rfl, ?_⟩) ?_ ?_
          rotate_left
          · intro w'; go_simp; with_reducible rfl
          rotate_left; · (simp only [Act.put, List.setIfInBounds_toArray, List.set_cons_zero, List.set_cons_succ, i64_w, i32_w]; rfl)
          refine done_ (by kernel_rfl) ?_
          go_wp2; go_meet
          case rel => exact ⟨s5, F5, G6, HSs, HN6, HQ6, HB6⟩
      case rest =>
       as_aux_lemma =>
        clear HSi HS4 HXU HXF X3 HN HQ HB; obtain ⟨s5, F5, G6, HSs, HN6, HQ6, HB6⟩ := hcut; have HM5 := Aside0.mk (show s5.lie.length ≤ 61 ∧ s5.many ≤ 61 ∧ s5.heard.length ≤ 61 by have := HSs.out.1; have := HSs.out.2.1; have := HSs.out.2.2; have := HL.out; have := HCI.out; omega)
        have HLi := Aside0.mk (fun (W : World) (h : NetIn W g F5 s5) => net_Net_Lie.calls W g F5 _ h (by have := HM5.out.1; omega))
        have HHe5 := Aside0.mk (fun (W : World) (h : NetIn W g F5 s5) => net_Net_Heard.calls W g F5 _ h (by have := HM5.out.2.1; omega))
        have HMa := Aside0.mk (fun (W : World) (h : NetIn W g F5 s5) => net_Net_Many.calls W g F5 _ h)
        go_upto_region 25 with (first
          | (go_at_call 65; go_loud (refine (HLi.out _ HN6.out.1).mono ?_; rintro e w7 ⟨vl, rfl, hl, hb⟩; obtain ⟨A7, c7, rfl⟩ := Kd.R_slice hl; have HN7 := Aside0.mk (HN6.out.below hb); have HQ7 := Aside0.mk (HQ6.out.below hb); have HB7 := Aside0.mk (below_step HB6.out hb); have HA7 := Aside0.mk (Kd.R_reads' hl).2.2; clear hb hl))
          | (go_at_call 66; go_loud (refine (HHe5.out _ HN7.out.1).mono ?_; rintro e w8 ⟨vh, rfl, hl, hb⟩; obtain ⟨A8, c8, rfl⟩ := Kd.R_slice hl; have HN8 := Aside0.mk (HN7.out.below hb); have HQ8 := Aside0.mk (HQ7.out.below hb); have HB8 := Aside0.mk (below_step HB7.out hb); have HA8 := Aside0.mk (Kd.C_below HA7.out hb); have HH8 := Aside0.mk (Kd.R_reads' hl).2.2; clear hb hl)))
        obtain ⟨A1, c1, A2, c2, q0_, q1_, _, _⟩ := HQ8.out.reads; have Q0 := Aside0.mk q0_
        have Q1 := Aside0.mk q1_
        have m0 : ((s5.lie.length : Int) != (s5.lie.length : Int)) = false := bne_self_eq_false _
        have m1 : ((s5.heard.length : Int) != (s5.heard.length : Int)) = false := bne_self_eq_false _
        clear q0_ q1_ HQ7 HB7 HN7 HA7 HN6 HQ6 HB6 HLi HHe5; refine start_ (n := 28) (S := fun w' => Below w8.heap.size w8 w') (ds := []) #[false, false, false, false, false, false, false, false, false, false, false, false, false, false, false, false, false, false, false, false, false, false, false, false, false, false, false, false] (by kernel_rfl) rfl rfl (below_drew1 (Below.refl _ _)) (fun hHeld => ?_)
        generalize hWd : w8.drew = Wd at hHeld ⊢
        clear hWd; refine pure_ (i := 0) (N := some 119) (v := ?_) (a' := ?_) #[true, false, false, false, false, false, false, false, false, false, false, false, false, false, false, false, false, false, false, false, false, false, false, false, false, false, false, false] rfl rfl (by kernel_rfl) (fun _ _ _ h => h) (Or.inl ⟨by rfl, ?_⟩) ?_ ?_
        rotate_left
        · intro w'; go_simp; with_reducible rfl
        rotate_left; · (simp only [Act.put, List.setIfInBounds_toArray, List.set_cons_zero, List.set_cons_succ, i64_w, i32_w]; rfl)
        refine pure_ (i := 2) (N := some 121) (v := ?_) (a' := ?_) #[true, false, true, false, false, false, false, false, false, false, false, false, false, false, false, false, false, false, false, false, false, false, false, false, false, false, false, false] rfl rfl (by kernel_rfl) (fun _ _ _ h => h) (Or.inl ⟨by rfl, ?_⟩) ?_ ?_
        rotate_left
        · intro w'; go_simp; with_reducible rfl
        rotate_left; · (simp only [Act.put, List.setIfInBounds_toArray, List.set_cons_zero, List.set_cons_succ, i64_w, i32_w]; rfl)
        refine pure_ (i := 3) (N := some 122) (v := ?_) (a' := ?_) #[true, false, true, true, false, false, false, false, false, false, false, false, false, false, false, false, false, false, false, false, false, false, false, false, false, false, false, false] rfl rfl (by kernel_rfl) (fun _ _ _ h => h) (Or.inl ⟨by rfl, ?_⟩) ?_ ?_
        rotate_left
        · intro w'; go_simp; with_reducible rfl
        rotate_left; · (simp only [Act.put, List.setIfInBounds_toArray, List.set_cons_zero, List.set_cons_succ, i64_w, i32_w]; rfl)
        refine pure_ (i := 4) (N := some 123) (v := ?_) (a' := ?_) #[true, false, true, true, true, false, false, false, false, false, false, false, false, false, false, false, false, false, false, false, false, false, false, false, false, false, false, false] rfl rfl (by kernel_rfl) (fun _ _ _ h => h) (Or.inl ⟨by rfl, ?_⟩) ?_ ?_
        rotate_left
        · intro w'; go_simp; with_reducible rfl
        rotate_left; · (simp only [Act.put, List.setIfInBounds_toArray, List.set_cons_zero, List.set_cons_succ, i64_w, i32_w]; rfl)
        refine take_ (i := 5) (N := some 124) (v := ?_) (a' := ?_) #[true, false, true, true, true, true, false, false, false, false, false, false, false, false, false, false, false, false, false, false, false, false, false, false, false, false, false, false] rfl rfl (by kernel_rfl) (fun _ _ _ h => h) (Or.inl ⟨by rfl, ?_⟩) hHeld ?_ ?_
        rotate_left
        · intro w' hs_; have s0_ := pw_cell_below hs_ Q0.out; clear hs_; go_simp; with_reducible rfl
        rotate_left; · (simp only [Act.put, List.setIfInBounds_toArray, List.set_cons_zero, List.set_cons_succ, i64_w, i32_w]; rfl)
        refine pure_ (i := 6) (N := some 125) (v := ?_) (a' := ?_) #[true, false, true, true, true, true, true, false, false, false, false, false, false, false, false, false, false, false, false, false, false, false, false, false, false, false, false, false] rfl rfl (by kernel_rfl) (fun _ _ _ h => h) (Or.inl ⟨by rfl, ?_⟩) ?_ ?_
        rotate_left
        · intro w'; go_simp; with_reducible rfl
        rotate_left; · (simp only [Act.put, List.setIfInBounds_toArray, List.set_cons_zero, List.set_cons_succ, i64_w, i32_w]; rfl)
        refine one_ (i := 1) (N := some 120) #[true, true, true, true, true, true, true, false, false, false, false, false, false, false, false, false, false, false, false, false, false, false, false, false, false, false, false, false] rfl rfl (by kernel_rfl) (by decide) (fun K hK => ?_)
        refine goes_ Try.func67 (by kernel_rfl) rfl #[.pointer (some ⟨g, 0, none⟩)] (by rfl) rfl rfl (by (try simp only [List.map_toArray, List.map_cons, List.map_nil]); first | done | rfl) ?_
        with_reducible refine (HMa.out _ (HN8.out.below hHeld).inn).mono ?_
        rintro e w' ⟨rfl, rfl⟩; refine ⟨_, rfl, ?_⟩
        refine hK.out _ _ (hHeld) (fun hHeld => ?_)
        clear hK K; refine norm_ (a' := ?_) ?_ ?_
        rotate_left
        · show Act.put _ (some 120) _ = _
          (simp only [Act.put, List.setIfInBounds_toArray, List.set_cons_zero, List.set_cons_succ, i64_w, i32_w]; rfl)
        refine pure_ (i := 7) (N := some 126) (v := ?_) (a' := ?_) #[true, true, true, true, true, true, true, true, false, false, false, false, false, false, false, false, false, false, false, false, false, false, false, false, false, false, false, false] rfl rfl (by kernel_rfl) (fun _ _ _ h => h) (Or.inl ⟨by rfl, ?_⟩) ?_ ?_
        rotate_left
        · intro w'; go_simp; with_reducible rfl
        rotate_left; · (simp only [Act.put, List.setIfInBounds_toArray, List.set_cons_zero, List.set_cons_succ, i64_w, i32_w]; rfl)
        refine pure_ (i := 8) (N := some 127) (v := ?_) (a' := ?_) #[true, true, true, true, true, true, true, true, true, false, false, false, false, false, false, false, false, false, false, false, false, false, false, false, false, false, false, false] rfl rfl (by kernel_rfl) (fun _ _ _ h => h) (Or.inl ⟨by rfl, ?_⟩) ?_ ?_
        rotate_left
        · intro w'; go_simp; with_reducible rfl
        rotate_left; · (simp only [Act.put, List.setIfInBounds_toArray, List.set_cons_zero, List.set_cons_succ, i64_w, i32_w]; rfl)
        refine pure_ (i := 9) (N := some 128) (v := ?_) (a' := ?_) #[true, true, true, true, true, true, true, true, true, true, false, false, false, false, false, false, false, false, false, false, false, false, false, false, false, false, false, false] rfl rfl (by kernel_rfl) (fun _ _ _ h => h) (Or.inl ⟨by rfl, ?_⟩) ?_ ?_
        rotate_left
        · intro w'; go_simp; with_reducible rfl
        rotate_left; · (simp only [Act.put, List.setIfInBounds_toArray, List.set_cons_zero, List.set_cons_succ, i64_w, i32_w]; rfl)
        refine pure_ (i := 10) (N := some 129) (v := ?_) (a' := ?_) #[true, true, true, true, true, true, true, true, true, true, true, false, false, false, false, false, false, false, false, false, false, false, false, false, false, false, false, false] rfl rfl (by kernel_rfl) (fun _ _ _ h => h) (Or.inl ⟨by rfl, ?_⟩) ?_ ?_
        rotate_left
        · intro w'; go_simp; with_reducible rfl
        rotate_left; · (simp only [Act.put, List.setIfInBounds_toArray, List.set_cons_zero, List.set_cons_succ, i64_w, i32_w]; rfl)
        refine pure_ (i := 11) (N := some 130) (v := ?_) (a' := ?_) #[true, true, true, true, true, true, true, true, true, true, true, true, false, false, false, false, false, false, false, false, false, false, false, false, false, false, false, false] rfl rfl (by kernel_rfl) (fun _ _ _ h => h) (Or.inl ⟨by rfl, ?_⟩) ?_ ?_
        rotate_left
        · intro w'; go_simp; with_reducible rfl
        rotate_left; · (simp only [Act.put, List.setIfInBounds_toArray, List.set_cons_zero, List.set_cons_succ, i64_w, i32_w]; rfl)
        refine pure_ (i := 12) (N := some 131) (v := ?_) (a' := ?_) #[true, true, true, true, true, true, true, true, true, true, true, true, true, false, false, false, false, false, false, false, false, false, false, false, false, false, false, false] rfl rfl (by kernel_rfl) (fun _ _ _ h => h) (Or.inl ⟨by rfl, ?_⟩) ?_ ?_
        rotate_left
        · intro w'; go_simp; with_reducible rfl
        rotate_left; · (simp only [Act.put, List.setIfInBounds_toArray, List.set_cons_zero, List.set_cons_succ, i64_w, i32_w]; rfl)
        refine pure_ (i := 13) (N := some 132) (v := ?_) (a' := ?_) #[true, true, true, true, true, true, true, true, true, true, true, true, true, true, false, false, false, false, false, false, false, false, false, false, false, false, false, false] rfl rfl (by kernel_rfl) (fun _ _ _ h => h) (Or.inl ⟨by rfl, ?_⟩) ?_ ?_
        rotate_left
        · intro w'; go_simp; with_reducible rfl
        rotate_left; · (simp only [Act.put, List.setIfInBounds_toArray, List.set_cons_zero, List.set_cons_succ, i64_w, i32_w]; rfl)
        refine take_ (i := 14) (N := some 133) (v := ?_) (a' := ?_) #[true, true, true, true, true, true, true, true, true, true, true, true, true, true, true, false, false, false, false, false, false, false, false, false, false, false, false, false] rfl rfl (by kernel_rfl) (fun _ _ _ h => h) (Or.inl ⟨by rfl, ?_⟩) hHeld ?_ ?_
        rotate_left
        · intro w' hs_; have s0_ := pw_cell_below hs_ Q0.out; clear hs_; go_simp; with_reducible rfl
        rotate_left; · (simp only [Act.put, List.setIfInBounds_toArray, List.set_cons_zero, List.set_cons_succ, i64_w, i32_w]; rfl)
        refine pure_ (i := 15) (N := some 134) (v := ?_) (a' := ?_) #[true, true, true, true, true, true, true, true, true, true, true, true, true, true, true, true, false, false, false, false, false, false, false, false, false, false, false, false] rfl rfl (by kernel_rfl) (fun _ _ _ h => h) (Or.inl ⟨by rfl, ?_⟩) ?_ ?_
        rotate_left
        · intro w'; go_simp; with_reducible rfl
        rotate_left; · (simp only [Act.put, List.setIfInBounds_toArray, List.set_cons_zero, List.set_cons_succ, i64_w, i32_w]; rfl)
        refine pure_ (i := 16) (N := some 135) (v := ?_) (a' := ?_) #[true, true, true, true, true, true, true, true, true, true, true, true, true, true, true, true, true, false, false, false, false, false, false, false, false, false, false, false] rfl rfl (by kernel_rfl) (fun _ _ _ h => h) (Or.inl ⟨by rfl, ?_⟩) ?_ ?_
        rotate_left
        · intro w'; go_simp; with_reducible rfl
        rotate_left; · (simp only [Act.put, List.setIfInBounds_toArray, List.set_cons_zero, List.set_cons_succ, i64_w, i32_w]; rfl)
        refine pure_ (i := 17) (N := some 136) (v := ?_) (a' := ?_) #[true, true, true, true, true, true, true, true, true, true, true, true, true, true, true, true, true, true, false, false, false, false, false, false, false, false, false, false] rfl rfl (by kernel_rfl) (fun _ _ _ h => h) (Or.inl ⟨by rfl, ?_⟩) ?_ ?_
        rotate_left
        · intro w'; go_simp; with_reducible rfl
        rotate_left; · (simp only [Act.put, List.setIfInBounds_toArray, List.set_cons_zero, List.set_cons_succ, i64_w, i32_w]; rfl)
        refine pure_ (i := 18) (N := some 137) (v := ?_) (a' := ?_) #[true, true, true, true, true, true, true, true, true, true, true, true, true, true, true, true, true, true, true, false, false, false, false, false, false, false, false, false] rfl rfl (by kernel_rfl) (fun _ _ _ h => h) (Or.inl ⟨by rfl, ?_⟩) ?_ ?_
        rotate_left
        · intro w'; go_simp; with_reducible rfl
        rotate_left; · (simp only [Act.put, List.setIfInBounds_toArray, List.set_cons_zero, List.set_cons_succ, i64_w, i32_w]; rfl)
        refine pure_ (i := 19) (N := some 138) (v := ?_) (a' := ?_) #[true, true, true, true, true, true, true, true, true, true, true, true, true, true, true, true, true, true, true, true, false, false, false, false, false, false, false, false] rfl rfl (by kernel_rfl) (fun _ _ _ h => h) (Or.inl ⟨by rfl, ?_⟩) ?_ ?_
        rotate_left
        · intro w'; go_simp; with_reducible rfl
        rotate_left; · (simp only [Act.put, List.setIfInBounds_toArray, List.set_cons_zero, List.set_cons_succ, i64_w, i32_w]; rfl)
        refine pure_ (i := 20) (N := some 139) (v := ?_) (a' := ?_) #[true, true, true, true, true, true, true, true, true, true, true, true, true, true, true, true, true, true, true, true, true, false, false, false, false, false, false, false] rfl rfl (by kernel_rfl) (fun _ _ _ h => h) (Or.inl ⟨by rfl, ?_⟩) ?_ ?_
        rotate_left
        · intro w'; go_simp; with_reducible rfl
        rotate_left; · (simp only [Act.put, List.setIfInBounds_toArray, List.set_cons_zero, List.set_cons_succ, i64_w, i32_w]; rfl)
        refine pure_ (i := 21) (N := some 140) (v := ?_) (a' := ?_) #[true, true, true, true, true, true, true, true, true, true, true, true, true, true, true, true, true, true, true, true, true, true, false, false, false, false, false, false] rfl rfl (by kernel_rfl) (fun _ _ _ h => h) (Or.inl ⟨by rfl, ?_⟩) ?_ ?_
        rotate_left
        · intro w'; go_simp; with_reducible rfl
        rotate_left; · (simp only [Act.put, List.setIfInBounds_toArray, List.set_cons_zero, List.set_cons_succ, i64_w, i32_w]; rfl)
        refine pure_ (i := 22) (N := some 141) (v := ?_) (a' := ?_) #[true, true, true, true, true, true, true, true, true, true, true, true, true, true, true, true, true, true, true, true, true, true, true, false, false, false, false, false] rfl rfl (by kernel_rfl) (fun _ _ _ h => h) (Or.inl ⟨by rfl, ?_⟩) ?_ ?_
        rotate_left
        · intro w'; go_simp; with_reducible rfl
        rotate_left; · (simp only [Act.put, List.setIfInBounds_toArray, List.set_cons_zero, List.set_cons_succ, i64_w, i32_w]; rfl)
        refine pure_ (i := 23) (N := some 142) (v := ?_) (a' := ?_) #[true, true, true, true, true, true, true, true, true, true, true, true, true, true, true, true, true, true, true, true, true, true, true, true, false, false, false, false] rfl rfl (by kernel_rfl) (fun _ _ _ h => h) (Or.inl ⟨by rfl, ?_⟩) ?_ ?_
        rotate_left
        · intro w'; go_simp; with_reducible rfl
        rotate_left; · (simp only [Act.put, List.setIfInBounds_toArray, List.set_cons_zero, List.set_cons_succ, i64_w, i32_w]; rfl)
        refine take_ (i := 24) (N := some 143) (v := ?_) (a' := ?_) #[true, true, true, true, true, true, true, true, true, true, true, true, true, true, true, true, true, true, true, true, true, true, true, true, true, false, false, false] rfl rfl (by kernel_rfl) (fun _ _ _ h => h) (Or.inl ⟨by rfl, ?_⟩) hHeld ?_ ?_
        rotate_left
        · intro w' hs_; have s0_ := pw_cell_below hs_ Q1.out; clear hs_; go_simp; with_reducible rfl
        rotate_left; · (simp only [Act.put, List.setIfInBounds_toArray, List.set_cons_zero, List.set_cons_succ, i64_w, i32_w]; rfl)
        refine pure_ (i := 25) (N := some 144) (v := ?_) (a' := ?_) #[true, true, true, true, true, true, true, true, true, true, true, true, true, true, true, true, true, true, true, true, true, true, true, true, true, true, false, false] rfl rfl (by kernel_rfl) (fun _ _ _ h => h) (Or.inl ⟨by rfl, ?_⟩) ?_ ?_
        rotate_left
        · intro w'; go_simp; with_reducible rfl
        rotate_left; · (simp only [Act.put, List.setIfInBounds_toArray, List.set_cons_zero, List.set_cons_succ, i64_w, i32_w]; rfl)
        refine pure_ (i := 26) (N := some 145) (v := ?_) (a' := ?_) #[true, true, true, true, true, true, true, true, true, true, true, true, true, true, true, true, true, true, true, true, true, true, true, true, true, true, true, false] rfl rfl (by kernel_rfl) (fun _ _ _ h => h) (Or.inl ⟨by rfl, ?_⟩) ?_ ?_
        rotate_left
        · intro w'; go_simp; with_reducible rfl
        rotate_left; · (simp only [Act.put, List.setIfInBounds_toArray, List.set_cons_zero, List.set_cons_succ, i64_w, i32_w]; rfl)
        refine pure_ (i := 27) (N := some 146) (v := ?_) (a' := ?_) #[true, true, true, true, true, true, true, true, true, true, true, true, true, true, true, true, true, true, true, true, true, true, true, true, true, true, true, true] rfl rfl (by kernel_rfl) (fun _ _ _ h => h) (Or.inl ⟨by rfl, ?_⟩) ?_ ?_
        rotate_left
        · intro w'; go_simp; with_reducible rfl
        rotate_left; · (simp only [Act.put, List.setIfInBounds_toArray, List.set_cons_zero, List.set_cons_succ, i64_w, i32_w]; rfl)
        refine done_ (by kernel_rfl) ?_
        have HN9 := Aside0.mk (HN8.out.below hHeld)
        have HQ9 := Aside0.mk (HQ8.out.below hHeld)
        have HB9 := Aside0.mk (below_step HB8.out hHeld)
        have HA9 := Aside0.mk (Kd.C_below HA8.out hHeld)
        have HH9 := Aside0.mk (Kd.C_below HH8.out hHeld)
        clear hHeld m0 m1 Q0 Q1 HN8 HQ8 HB8 HA8 HH8 HMa; go_wp2; go_loopg [14] s5.lie.length (fun kq v14 w' => ∃ (k : Nat), v14 = .int .i64 (k : Int) ∧ Aside0 (k + kq = s5.lie.length) ∧ Aside0 (NetL w.heap.size w' g s5 F5) ∧ Aside0 (RefL w.heap.size w' gq s5 F5 G6) ∧ Aside0 (Kd.C k114 w' A7 s5.lie.length s5.lie) ∧ Aside0 (Kd.C Kd.string w' A8 s5.heard.length s5.heard) ∧ Aside0 (Below w.heap.size w w'))
        case atStart => exact ⟨0, rfl, ⟨Nat.zero_add _⟩, HN9, HQ9, HA9, HH9, HB9⟩
        case round =>
          clear HN9 HQ9 HA9 HH9 HB9; obtain ⟨k, rfl, HKA, HN, HQ, HA, HH, HB⟩ := hrel; by_cases ck : k < s5.lie.length
          · obtain ⟨k2, rfl⟩ : ∃ k2, gk = k2 + 1 := ⟨gk - 1, by have := HKA.out; omega⟩
            have cb : decide ((k : Int) < (s5.lie.length : Int)) = true := decide_eq_true (by omega)
            have cb2 : decide (k < s5.lie.length) = true := decide_eq_true ck
            have hw4 : IntKind.i64.wrap ((k : Int) + 1) = ((k + 1 : Nat) : Int) := by rw [i64_w]; unfold wrap64; have := HM5.out.1; omega
            obtain ⟨ad7, e7, u0, u1, u2⟩ := at_T114 HA.out (k : Int) (by omega) (by omega)
            cases e7
            obtain ⟨A1, c1, A2, c2, q0_, q1_, hc1, _⟩ := HQ.out.reads; obtain ⟨ad1, rfl, v0, v1, v2⟩ := at_T118 hc1 (k : Int) (by omega) (by omega)
            rw [rdR s5.lie (k : Int) (by omega) (by omega)] at v0 v1 v2
            simp only [rD, Int.toNat_natCast] at u0 u1 u2 v0 v1 v2
            generalize (rd_T114 s5.lie (k : Int)).f0 = d0 at u0 v0
            generalize (rd_T114 s5.lie (k : Int)).f1 = d1 at u1 v1
            generalize (rd_T114 s5.lie (k : Int)).f2 = T at u2 v2
            have n0 : (d0 != d0) = false := bne_self_eq_false d0
            have n1 : (d1 != d1) = false := bne_self_eq_false d1
            have n2 : (T.toList != T.toList) = false := bne_self_eq_false _
            have Q0 := Aside0.mk q0_
            have U0 := Aside0.mk u0
            have U1 := Aside0.mk u1
            have U2 := Aside0.mk u2
            have V0 := Aside0.mk v0
            have V1 := Aside0.mk v1
            have V2 := Aside0.mk v2
            clear q0_ q1_ hc1 u0 u1 u2 v0 v1 v2; go_upto_region 30 with (fail)
            clear cb cb2; refine start_ (n := 46) (S := fun w' => Below wr.heap.size wr w') (ds := []) #[false, false, false, false, false, false, false, false, false, false, false, false, false, false, false, false, false, false, false, false, false, false, false, false, false, false, false, false, false, false, false, false, false, false, false, false, false, false, false, false, false, false, false, false, false, false] (by kernel_rfl) rfl rfl (below_drew1 (Below.refl _ _)) (fun hHeld => ?_)
            generalize hWd : wr.drew = Wd at hHeld ⊢
            clear hWd; refine pure_ (i := 0) (N := some 153) (v := ?_) (a' := ?_) #[true, false, false, false, false, false, false, false, false, false, false, false, false, false, false, false, false, false, false, false, false, false, false, false, false, false, false, false, false, false, false, false, false, false, false, false, false, false, false, false, false, false, false, false, false, false] rfl rfl (by kernel_rfl) (fun _ _ _ h => h) (Or.inl ⟨by rfl, ?_⟩) ?_ ?_
            rotate_left
            · intro w'; go_simp; with_reducible rfl
            rotate_left; · (simp only [Act.put, List.setIfInBounds_toArray, List.set_cons_zero, List.set_cons_succ, i64_w, i32_w]; rfl)
            refine pure_ (i := 1) (N := some 154) (v := ?_) (a' := ?_) #[true, true, false, false, false, false, false, false, false, false, false, false, false, false, false, false, false, false, false, false, false, false, false, false, false, false, false, false, false, false, false, false, false, false, false, false, false, false, false, false, false, false, false, false, false, false] rfl rfl (by kernel_rfl) (fun _ _ _ h => h) (Or.inl ⟨by rfl, ?_⟩) ?_ ?_
            rotate_left
            · intro w'; go_simp; with_reducible rfl
            rotate_left; · (simp only [Act.put, List.setIfInBounds_toArray, List.set_cons_zero, List.set_cons_succ, i64_w, i32_w]; rfl)
            refine pure_ (i := 2) (N := some 155) (v := ?_) (a' := ?_) #[true, true, true, false, false, false, false, false, false, false, false, false, false, false, false, false, false, false, false, false, false, false, false, false, false, false, false, false, false, false, false, false, false, false, false, false, false, false, false, false, false, false, false, false, false, false] rfl rfl (by kernel_rfl) (fun _ _ _ h => h) (Or.inl ⟨by rfl, ?_⟩) ?_ ?_
            rotate_left
            · intro w'; go_simp; with_reducible rfl
            rotate_left; · (simp only [Act.put, List.setIfInBounds_toArray, List.set_cons_zero, List.set_cons_succ, i64_w, i32_w]; rfl)
            refine pure_ (i := 3) (N := some 156) (v := ?_) (a' := ?_) #[true, true, true, true, false, false, false, false, false, false, false, false, false, false, false, false, false, false, false, false, false, false, false, false, false, false, false, false, false, false, false, false, false, false, false, false, false, false, false, false, false, false, false, false, false, false] rfl rfl (by kernel_rfl) (fun _ _ _ h => h) (Or.inl ⟨by rfl, ?_⟩) ?_ ?_
            rotate_left
            · intro w'; go_simp; with_reducible rfl
            rotate_left; · (simp only [Act.put, List.setIfInBounds_toArray, List.set_cons_zero, List.set_cons_succ, i64_w, i32_w]; rfl)
            refine take_ (i := 4) (N := some 157) (v := ?_) (a' := ?_) #[true, true, true, true, true, false, false, false, false, false, false, false, false, false, false, false, false, false, false, false, false, false, false, false, false, false, false, false, false, false, false, false, false, false, false, false, false, false, false, false, false, false, false, false, false, false] rfl rfl (by kernel_rfl) (fun _ _ _ h => h) (Or.inl ⟨by rfl, ?_⟩) hHeld ?_ ?_
            rotate_left
            · intro w' hs_; have s0_ := pw_cell_below hs_ U0.out; clear hs_; go_simp; with_reducible rfl
            rotate_left; · (simp only [Act.put, List.setIfInBounds_toArray, List.set_cons_zero, List.set_cons_succ, i64_w, i32_w]; rfl)
            refine pure_ (i := 5) (N := some 158) (v := ?_) (a' := ?_) #[true, true, true, true, true, true, false, false, false, false, false, false, false, false, false, false, false, false, false, false, false, false, false, false, false, false, false, false, false, false, false, false, false, false, false, false, false, false, false, false, false, false, false, false, false, false] rfl rfl (by kernel_rfl) (fun _ _ _ h => h) (Or.inl ⟨by rfl, ?_⟩) ?_ ?_
            rotate_left
            · intro w'; go_simp; with_reducible rfl
            rotate_left; · (simp only [Act.put, List.setIfInBounds_toArray, List.set_cons_zero, List.set_cons_succ, i64_w, i32_w]; rfl)
            refine pure_ (i := 6) (N := some 159) (v := ?_) (a' := ?_) #[true, true, true, true, true, true, true, false, false, false, false, false, false, false, false, false, false, false, false, false, false, false, false, false, false, false, false, false, false, false, false, false, false, false, false, false, false, false, false, false, false, false, false, false, false, false] rfl rfl (by kernel_rfl) (fun _ _ _ h => h) (Or.inl ⟨by rfl, ?_⟩) ?_ ?_
            rotate_left
            · intro w'; go_simp; with_reducible rfl
            rotate_left; · (simp only [Act.put, List.setIfInBounds_toArray, List.set_cons_zero, List.set_cons_succ, i64_w, i32_w]; rfl)
            refine pure_ (i := 7) (N := some 160) (v := ?_) (a' := ?_) #[true, true, true, true, true, true, true, true, false, false, false, false, false, false, false, false, false, false, false, false, false, false, false, false, false, false, false, false, false, false, false, false, false, false, false, false, false, false, false, false, false, false, false, false, false, false] rfl rfl (by kernel_rfl) (fun _ _ _ h => h) (Or.inl ⟨by rfl, ?_⟩) ?_ ?_
            rotate_left
            · intro w'; go_simp; with_reducible rfl
            rotate_left; · (simp only [Act.put, List.setIfInBounds_toArray, List.set_cons_zero, List.set_cons_succ, i64_w, i32_w]; rfl)
            refine take_ (i := 8) (N := some 161) (v := ?_) (a' := ?_) #[true, true, true, true, true, true, true, true, true, false, false, false, false, false, false, false, false, false, false, false, false, false, false, false, false, false, false, false, false, false, false, false, false, false, false, false, false, false, false, false, false, false, false, false, false, false] rfl rfl (by kernel_rfl) (fun _ _ _ h => h) (Or.inl ⟨by rfl, ?_⟩) hHeld ?_ ?_
            rotate_left
            · intro w' hs_; have s0_ := pw_cell_below hs_ Q0.out; clear hs_; go_simp; with_reducible rfl
            rotate_left; · (simp only [Act.put, List.setIfInBounds_toArray, List.set_cons_zero, List.set_cons_succ, i64_w, i32_w]; rfl)
            refine pure_ (i := 9) (N := some 162) (v := ?_) (a' := ?_) #[true, true, true, true, true, true, true, true, true, true, false, false, false, false, false, false, false, false, false, false, false, false, false, false, false, false, false, false, false, false, false, false, false, false, false, false, false, false, false, false, false, false, false, false, false, false] rfl rfl (by kernel_rfl) (fun _ _ _ h => h) (Or.inl ⟨by rfl, ?_⟩) ?_ ?_
            rotate_left
            · intro w'; go_simp; with_reducible rfl
            rotate_left; · (simp only [Act.put, List.setIfInBounds_toArray, List.set_cons_zero, List.set_cons_succ, i64_w, i32_w]; rfl)
            refine pure_ (i := 10) (N := some 163) (v := ?_) (a' := ?_) #[true, true, true, true, true, true, true, true, true, true, true, false, false, false, false, false, false, false, false, false, false, false, false, false, false, false, false, false, false, false, false, false, false, false, false, false, false, false, false, false, false, false, false, false, false, false] rfl rfl (by kernel_rfl) (fun _ _ _ h => h) (Or.inl ⟨by rfl, ?_⟩) ?_ ?_
            rotate_left
            · intro w'; go_simp; with_reducible rfl
            rotate_left; · (simp only [Act.put, List.setIfInBounds_toArray, List.set_cons_zero, List.set_cons_succ, i64_w, i32_w]; rfl)
            refine pure_ (i := 11) (N := some 164) (v := ?_) (a' := ?_) #[true, true, true, true, true, true, true, true, true, true, true, true, false, false, false, false, false, false, false, false, false, false, false, false, false, false, false, false, false, false, false, false, false, false, false, false, false, false, false, false, false, false, false, false, false, false] rfl rfl (by kernel_rfl) (fun _ _ _ h => h) (Or.inl ⟨by rfl, ?_⟩) ?_ ?_
            rotate_left
            · intro w'; go_simp; with_reducible rfl
            rotate_left; · (simp only [Act.put, List.setIfInBounds_toArray, List.set_cons_zero, List.set_cons_succ, i64_w, i32_w]; rfl)
            refine take_ (i := 12) (N := some 165) (v := ?_) (a' := ?_) #[true, true, true, true, true, true, true, true, true, true, true, true, true, false, false, false, false, false, false, false, false, false, false, false, false, false, false, false, false, false, false, false, false, false, false, false, false, false, false, false, false, false, false, false, false, false] rfl rfl (by kernel_rfl) (fun _ _ _ h => h) (Or.inl ⟨by rfl, ?_⟩) hHeld ?_ ?_
            rotate_left
            · intro w' hs_; have s0_ := pw_cell_below hs_ V0.out; clear hs_; go_simp; with_reducible rfl
            rotate_left; · (simp only [Act.put, List.setIfInBounds_toArray, List.set_cons_zero, List.set_cons_succ, i64_w, i32_w]; rfl)
            refine pure_ (i := 13) (N := some 166) (v := ?_) (a' := ?_) #[true, true, true, true, true, true, true, true, true, true, true, true, true, true, false, false, false, false, false, false, false, false, false, false, false, false, false, false, false, false, false, false, false, false, false, false, false, false, false, false, false, false, false, false, false, false] rfl rfl (by kernel_rfl) (fun _ _ _ h => h) (Or.inl ⟨by rfl, ?_⟩) ?_ ?_
            rotate_left
            · intro w'; go_simp; with_reducible rfl
            rotate_left; · (simp only [Act.put, List.setIfInBounds_toArray, List.set_cons_zero, List.set_cons_succ, i64_w, i32_w]; rfl)
            refine pure_ (i := 14) (N := some 167) (v := ?_) (a' := ?_) #[true, true, true, true, true, true, true, true, true, true, true, true, true, true, true, false, false, false, false, false, false, false, false, false, false, false, false, false, false, false, false, false, false, false, false, false, false, false, false, false, false, false, false, false, false, false] rfl rfl (by kernel_rfl) (fun _ _ _ h => h) (Or.inl ⟨by rfl, ?_⟩) ?_ ?_
            rotate_left
            · intro w'; go_simp; with_reducible rfl
            rotate_left; · (simp only [Act.put, List.setIfInBounds_toArray, List.set_cons_zero, List.set_cons_succ, i64_w, i32_w]; rfl)
            refine pure_ (i := 15) (N := some 168) (v := ?_) (a' := ?_) #[true, true, true, true, true, true, true, true, true, true, true, true, true, true, true, true, false, false, false, false, false, false, false, false, false, false, false, false, false, false, false, false, false, false, false, false, false, false, false, false, false, false, false, false, false, false] rfl rfl (by kernel_rfl) (fun _ _ _ h => h) (Or.inl ⟨by rfl, ?_⟩) ?_ ?_
            rotate_left
            · intro w'; go_simp; with_reducible rfl
            rotate_left; · (simp only [Act.put, List.setIfInBounds_toArray, List.set_cons_zero, List.set_cons_succ, i64_w, i32_w]; rfl)
            refine pure_ (i := 16) (N := some 169) (v := ?_) (a' := ?_) #[true, true, true, true, true, true, true, true, true, true, true, true, true, true, true, true, true, false, false, false, false, false, false, false, false, false, false, false, false, false, false, false, false, false, false, false, false, false, false, false, false, false, false, false, false, false] rfl rfl (by kernel_rfl) (fun _ _ _ h => h) (Or.inl ⟨by rfl, ?_⟩) ?_ ?_
            rotate_left
            · intro w'; go_simp; with_reducible rfl
            rotate_left; · (simp only [Act.put, List.setIfInBounds_toArray, List.set_cons_zero, List.set_cons_succ, i64_w, i32_w]; rfl)
            refine pure_ (i := 17) (N := some 170) (v := ?_) (a' := ?_) #[true, true, true, true, true, true, true, true, true, true, true, true, true, true, true, true, true, true, false, false, false, false, false, false, false, false, false, false, false, false, false, false, false, false, false, false, false, false, false, false, false, false, false, false, false, false] rfl rfl (by kernel_rfl) (fun _ _ _ h => h) (Or.inl ⟨by rfl, ?_⟩) ?_ ?_
            rotate_left
            · intro w'; go_simp; with_reducible rfl
            rotate_left; · (simp only [Act.put, List.setIfInBounds_toArray, List.set_cons_zero, List.set_cons_succ, i64_w, i32_w]; rfl)
            refine pure_ (i := 18) (N := some 171) (v := ?_) (a' := ?_) #[true, true, true, true, true, true, true, true, true, true, true, true, true, true, true, true, true, true, true, false, false, false, false, false, false, false, false, false, false, false, false, false, false, false, false, false, false, false, false, false, false, false, false, false, false, false] rfl rfl (by kernel_rfl) (fun _ _ _ h => h) (Or.inl ⟨by rfl, ?_⟩) ?_ ?_
            rotate_left
            · intro w'; go_simp; with_reducible rfl
            rotate_left; · (simp only [Act.put, List.setIfInBounds_toArray, List.set_cons_zero, List.set_cons_succ, i64_w, i32_w]; rfl)
            refine take_ (i := 19) (N := some 172) (v := ?_) (a' := ?_) #[true, true, true, true, true, true, true, true, true, true, true, true, true, true, true, true, true, true, true, true, false, false, false, false, false, false, false, false, false, false, false, false, false, false, false, false, false, false, false, false, false, false, false, false, false, false] rfl rfl (by kernel_rfl) (fun _ _ _ h => h) (Or.inl ⟨by rfl, ?_⟩) hHeld ?_ ?_
            rotate_left
            · intro w' hs_; have s0_ := pw_cell_below hs_ U1.out; clear hs_; go_simp; with_reducible rfl
            rotate_left; · (simp only [Act.put, List.setIfInBounds_toArray, List.set_cons_zero, List.set_cons_succ, i64_w, i32_w]; rfl)
            refine pure_ (i := 20) (N := some 173) (v := ?_) (a' := ?_) #[true, true, true, true, true, true, true, true, true, true, true, true, true, true, true, true, true, true, true, true, true, false, false, false, false, false, false, false, false, false, false, false, false, false, false, false, false, false, false, false, false, false, false, false, false, false] rfl rfl (by kernel_rfl) (fun _ _ _ h => h) (Or.inl ⟨by rfl, ?_⟩) ?_ ?_
            rotate_left
            · intro w'; go_simp; with_reducible rfl
            rotate_left; · (simp only [Act.put, List.setIfInBounds_toArray, List.set_cons_zero, List.set_cons_succ, i64_w, i32_w]; rfl)
            refine pure_ (i := 21) (N := some 174) (v := ?_) (a' := ?_) #[true, true, true, true, true, true, true, true, true, true, true, true, true, true, true, true, true, true, true, true, true, true, false, false, false, false, false, false, false, false, false, false, false, false, false, false, false, false, false, false, false, false, false, false, false, false] rfl rfl (by kernel_rfl) (fun _ _ _ h => h) (Or.inl ⟨by rfl, ?_⟩) ?_ ?_
            rotate_left
            · intro w'; go_simp; with_reducible rfl
            rotate_left; · (simp only [Act.put, List.setIfInBounds_toArray, List.set_cons_zero, List.set_cons_succ, i64_w, i32_w]; rfl)
            refine pure_ (i := 22) (N := some 175) (v := ?_) (a' := ?_) #[true, true, true, true, true, true, true, true, true, true, true, true, true, true, true, true, true, true, true, true, true, true, true, false, false, false, false, false, false, false, false, false, false, false, false, false, false, false, false, false, false, false, false, false, false, false] rfl rfl (by kernel_rfl) (fun _ _ _ h => h) (Or.inl ⟨by rfl, ?_⟩) ?_ ?_
            rotate_left
            · intro w'; go_simp; with_reducible rfl
            rotate_left; · (simp only [Act.put, List.setIfInBounds_toArray, List.set_cons_zero, List.set_cons_succ, i64_w, i32_w]; rfl)
            refine take_ (i := 23) (N := some 176) (v := ?_) (a' := ?_) #[true, true, true, true, true, true, true, true, true, true, true, true, true, true, true, true, true, true, true, true, true, true, true, true, false, false, false, false, false, false, false, false, false, false, false, false, false, false, false, false, false, false, false, false, false, false] rfl rfl (by kernel_rfl) (fun _ _ _ h => h) (Or.inl ⟨by rfl, ?_⟩) hHeld ?_ ?_
            rotate_left
            · intro w' hs_; have s0_ := pw_cell_below hs_ Q0.out; clear hs_; go_simp; with_reducible rfl
            rotate_left; · (simp only [Act.put, List.setIfInBounds_toArray, List.set_cons_zero, List.set_cons_succ, i64_w, i32_w]; rfl)
            refine pure_ (i := 24) (N := some 177) (v := ?_) (a' := ?_) #[true, true, true, true, true, true, true, true, true, true, true, true, true, true, true, true, true, true, true, true, true, true, true, true, true, false, false, false, false, false, false, false, false, false, false, false, false, false, false, false, false, false, false, false, false, false] rfl rfl (by kernel_rfl) (fun _ _ _ h => h) (Or.inl ⟨by rfl, ?_⟩) ?_ ?_
            rotate_left
            · intro w'; go_simp; with_reducible rfl
            rotate_left; · (simp only [Act.put, List.setIfInBounds_toArray, List.set_cons_zero, List.set_cons_succ, i64_w, i32_w]; rfl)
            refine pure_ (i := 25) (N := some 178) (v := ?_) (a' := ?_) #[true, true, true, true, true, true, true, true, true, true, true, true, true, true, true, true, true, true, true, true, true, true, true, true, true, true, false, false, false, false, false, false, false, false, false, false, false, false, false, false, false, false, false, false, false, false] rfl rfl (by kernel_rfl) (fun _ _ _ h => h) (Or.inl ⟨by rfl, ?_⟩) ?_ ?_
            rotate_left
            · intro w'; go_simp; with_reducible rfl
            rotate_left; · (simp only [Act.put, List.setIfInBounds_toArray, List.set_cons_zero, List.set_cons_succ, i64_w, i32_w]; rfl)
            refine pure_ (i := 26) (N := some 179) (v := ?_) (a' := ?_) #[true, true, true, true, true, true, true, true, true, true, true, true, true, true, true, true, true, true, true, true, true, true, true, true, true, true, true, false, false, false, false, false, false, false, false, false, false, false, false, false, false, false, false, false, false, false] rfl rfl (by kernel_rfl) (fun _ _ _ h => h) (Or.inl ⟨by rfl, ?_⟩) ?_ ?_
            rotate_left
            · intro w'; go_simp; with_reducible rfl
            rotate_left; · (simp only [Act.put, List.setIfInBounds_toArray, List.set_cons_zero, List.set_cons_succ, i64_w, i32_w]; rfl)
            refine take_ (i := 27) (N := some 180) (v := ?_) (a' := ?_) #[true, true, true, true, true, true, true, true, true, true, true, true, true, true, true, true, true, true, true, true, true, true, true, true, true, true, true, true, false, false, false, false, false, false, false, false, false, false, false, false, false, false, false, false, false, false] rfl rfl (by kernel_rfl) (fun _ _ _ h => h) (Or.inl ⟨by rfl, ?_⟩) hHeld ?_ ?_
            rotate_left
            · intro w' hs_; have s0_ := pw_cell_below hs_ V1.out; clear hs_; go_simp; with_reducible rfl
            rotate_left; · (simp only [Act.put, List.setIfInBounds_toArray, List.set_cons_zero, List.set_cons_succ, i64_w, i32_w]; rfl)
            refine pure_ (i := 28) (N := some 181) (v := ?_) (a' := ?_) #[true, true, true, true, true, true, true, true, true, true, true, true, true, true, true, true, true, true, true, true, true, true, true, true, true, true, true, true, true, false, false, false, false, false, false, false, false, false, false, false, false, false, false, false, false, false] rfl rfl (by kernel_rfl) (fun _ _ _ h => h) (Or.inl ⟨by rfl, ?_⟩) ?_ ?_
            rotate_left
            · intro w'; go_simp; with_reducible rfl
            rotate_left; · (simp only [Act.put, List.setIfInBounds_toArray, List.set_cons_zero, List.set_cons_succ, i64_w, i32_w]; rfl)
            refine pure_ (i := 29) (N := some 182) (v := ?_) (a' := ?_) #[true, true, true, true, true, true, true, true, true, true, true, true, true, true, true, true, true, true, true, true, true, true, true, true, true, true, true, true, true, true, false, false, false, false, false, false, false, false, false, false, false, false, false, false, false, false] rfl rfl (by kernel_rfl) (fun _ _ _ h => h) (Or.inl ⟨by rfl, ?_⟩) ?_ ?_
            rotate_left
            · intro w'; go_simp; with_reducible rfl
            rotate_left; · (simp only [Act.put, List.setIfInBounds_toArray, List.set_cons_zero, List.set_cons_succ, i64_w, i32_w]; rfl)
            refine pure_ (i := 30) (N := some 183) (v := ?_) (a' := ?_) #[true, true, true, true, true, true, true, true, true, true, true, true, true, true, true, true, true, true, true, true, true, true, true, true, true, true, true, true, true, true, true, false, false, false, false, false, false, false, false, false, false, false, false, false, false, false] rfl rfl (by kernel_rfl) (fun _ _ _ h => h) (Or.inl ⟨by rfl, ?_⟩) ?_ ?_
            rotate_left
            · intro w'; go_simp; with_reducible rfl
            rotate_left; · (simp only [Act.put, List.setIfInBounds_toArray, List.set_cons_zero, List.set_cons_succ, i64_w, i32_w]; rfl)
            refine pure_ (i := 31) (N := some 184) (v := ?_) (a' := ?_) #[true, true, true, true, true, true, true, true, true, true, true, true, true, true, true, true, true, true, true, true, true, true, true, true, true, true, true, true, true, true, true, true, false, false, false, false, false, false, false, false, false, false, false, false, false, false] rfl rfl (by kernel_rfl) (fun _ _ _ h => h) (Or.inl ⟨by rfl, ?_⟩) ?_ ?_
            rotate_left
            · intro w'; go_simp; with_reducible rfl
            rotate_left; · (simp only [Act.put, List.setIfInBounds_toArray, List.set_cons_zero, List.set_cons_succ, i64_w, i32_w]; rfl)
            refine pure_ (i := 32) (N := some 185) (v := ?_) (a' := ?_) #[true, true, true, true, true, true, true, true, true, true, true, true, true, true, true, true, true, true, true, true, true, true, true, true, true, true, true, true, true, true, true, true, true, false, false, false, false, false, false, false, false, false, false, false, false, false] rfl rfl (by kernel_rfl) (fun _ _ _ h => h) (Or.inl ⟨by rfl, ?_⟩) ?_ ?_
            rotate_left
            · intro w'; go_simp; with_reducible rfl
            rotate_left; · (simp only [Act.put, List.setIfInBounds_toArray, List.set_cons_zero, List.set_cons_succ, i64_w, i32_w]; rfl)
            refine pure_ (i := 33) (N := some 186) (v := ?_) (a' := ?_) #[true, true, true, true, true, true, true, true, true, true, true, true, true, true, true, true, true, true, true, true, true, true, true, true, true, true, true, true, true, true, true, true, true, true, false, false, false, false, false, false, false, false, false, false, false, false] rfl rfl (by kernel_rfl) (fun _ _ _ h => h) (Or.inl ⟨by rfl, ?_⟩) ?_ ?_
            rotate_left
            · intro w'; go_simp; with_reducible rfl
            rotate_left; · (simp only [Act.put, List.setIfInBounds_toArray, List.set_cons_zero, List.set_cons_succ, i64_w, i32_w]; rfl)
            refine pure_ (i := 34) (N := some 187) (v := ?_) (a' := ?_) #[true, true, true, true, true, true, true, true, true, true, true, true, true, true, true, true, true, true, true, true, true, true, true, true, true, true, true, true, true, true, true, true, true, true, true, false, false, false, false, false, false, false, false, false, false, false] rfl rfl (by kernel_rfl) (fun _ _ _ h => h) (Or.inl ⟨by rfl, ?_⟩) ?_ ?_
            rotate_left
            · intro w'; go_simp; with_reducible rfl
            rotate_left; · (simp only [Act.put, List.setIfInBounds_toArray, List.set_cons_zero, List.set_cons_succ, i64_w, i32_w]; rfl)
            refine take_ (i := 35) (N := some 188) (v := ?_) (a' := ?_) #[true, true, true, true, true, true, true, true, true, true, true, true, true, true, true, true, true, true, true, true, true, true, true, true, true, true, true, true, true, true, true, true, true, true, true, true, false, false, false, false, false, false, false, false, false, false] rfl rfl (by kernel_rfl) (fun _ _ _ h => h) (Or.inl ⟨by rfl, ?_⟩) hHeld ?_ ?_
            rotate_left
            · intro w' hs_; have s0_ := pw_cell_below hs_ U2.out; clear hs_; go_simp; with_reducible rfl
            rotate_left; · (simp only [Act.put, List.setIfInBounds_toArray, List.set_cons_zero, List.set_cons_succ, i64_w, i32_w]; rfl)
            refine pure_ (i := 36) (N := some 189) (v := ?_) (a' := ?_) #[true, true, true, true, true, true, true, true, true, true, true, true, true, true, true, true, true, true, true, true, true, true, true, true, true, true, true, true, true, true, true, true, true, true, true, true, true, false, false, false, false, false, false, false, false, false] rfl rfl (by kernel_rfl) (fun _ _ _ h => h) (Or.inl ⟨by rfl, ?_⟩) ?_ ?_
            rotate_left
            · intro w'; go_simp; with_reducible rfl
            rotate_left; · (simp only [Act.put, List.setIfInBounds_toArray, List.set_cons_zero, List.set_cons_succ, i64_w, i32_w]; rfl)
            refine pure_ (i := 37) (N := some 190) (v := ?_) (a' := ?_) #[true, true, true, true, true, true, true, true, true, true, true, true, true, true, true, true, true, true, true, true, true, true, true, true, true, true, true, true, true, true, true, true, true, true, true, true, true, true, false, false, false, false, false, false, false, false] rfl rfl (by kernel_rfl) (fun _ _ _ h => h) (Or.inl ⟨by rfl, ?_⟩) ?_ ?_
            rotate_left
            · intro w'; go_simp; with_reducible rfl
            rotate_left; · (simp only [Act.put, List.setIfInBounds_toArray, List.set_cons_zero, List.set_cons_succ, i64_w, i32_w]; rfl)
            refine pure_ (i := 38) (N := some 191) (v := ?_) (a' := ?_) #[true, true, true, true, true, true, true, true, true, true, true, true, true, true, true, true, true, true, true, true, true, true, true, true, true, true, true, true, true, true, true, true, true, true, true, true, true, true, true, false, false, false, false, false, false, false] rfl rfl (by kernel_rfl) (fun _ _ _ h => h) (Or.inl ⟨by rfl, ?_⟩) ?_ ?_
            rotate_left
            · intro w'; go_simp; with_reducible rfl
            rotate_left; · (simp only [Act.put, List.setIfInBounds_toArray, List.set_cons_zero, List.set_cons_succ, i64_w, i32_w]; rfl)
            refine take_ (i := 39) (N := some 192) (v := ?_) (a' := ?_) #[true, true, true, true, true, true, true, true, true, true, true, true, true, true, true, true, true, true, true, true, true, true, true, true, true, true, true, true, true, true, true, true, true, true, true, true, true, true, true, true, false, false, false, false, false, false] rfl rfl (by kernel_rfl) (fun _ _ _ h => h) (Or.inl ⟨by rfl, ?_⟩) hHeld ?_ ?_
            rotate_left
            · intro w' hs_; have s0_ := pw_cell_below hs_ Q0.out; clear hs_; go_simp; with_reducible rfl
            rotate_left; · (simp only [Act.put, List.setIfInBounds_toArray, List.set_cons_zero, List.set_cons_succ, i64_w, i32_w]; rfl)
            refine pure_ (i := 40) (N := some 193) (v := ?_) (a' := ?_) #[true, true, true, true, true, true, true, true, true, true, true, true, true, true, true, true, true, true, true, true, true, true, true, true, true, true, true, true, true, true, true, true, true, true, true, true, true, true, true, true, true, false, false, false, false, false] rfl rfl (by kernel_rfl) (fun _ _ _ h => h) (Or.inl ⟨by rfl, ?_⟩) ?_ ?_
            rotate_left
            · intro w'; go_simp; with_reducible rfl
            rotate_left; · (simp only [Act.put, List.setIfInBounds_toArray, List.set_cons_zero, List.set_cons_succ, i64_w, i32_w]; rfl)
            refine pure_ (i := 41) (N := some 194) (v := ?_) (a' := ?_) #[true, true, true, true, true, true, true, true, true, true, true, true, true, true, true, true, true, true, true, true, true, true, true, true, true, true, true, true, true, true, true, true, true, true, true, true, true, true, true, true, true, true, false, false, false, false] rfl rfl (by kernel_rfl) (fun _ _ _ h => h) (Or.inl ⟨by rfl, ?_⟩) ?_ ?_
            rotate_left
            · intro w'; go_simp; with_reducible rfl
            rotate_left; · (simp only [Act.put, List.setIfInBounds_toArray, List.set_cons_zero, List.set_cons_succ, i64_w, i32_w]; rfl)
            refine pure_ (i := 42) (N := some 195) (v := ?_) (a' := ?_) #[true, true, true, true, true, true, true, true, true, true, true, true, true, true, true, true, true, true, true, true, true, true, true, true, true, true, true, true, true, true, true, true, true, true, true, true, true, true, true, true, true, true, true, false, false, false] rfl rfl (by kernel_rfl) (fun _ _ _ h => h) (Or.inl ⟨by rfl, ?_⟩) ?_ ?_
            rotate_left
            · intro w'; go_simp; with_reducible rfl
            rotate_left; · (simp only [Act.put, List.setIfInBounds_toArray, List.set_cons_zero, List.set_cons_succ, i64_w, i32_w]; rfl)
            refine take_ (i := 43) (N := some 196) (v := ?_) (a' := ?_) #[true, true, true, true, true, true, true, true, true, true, true, true, true, true, true, true, true, true, true, true, true, true, true, true, true, true, true, true, true, true, true, true, true, true, true, true, true, true, true, true, true, true, true, true, false, false] rfl rfl (by kernel_rfl) (fun _ _ _ h => h) (Or.inl ⟨by rfl, ?_⟩) hHeld ?_ ?_
            rotate_left
            · intro w' hs_; have s0_ := pw_cell_below hs_ V2.out; clear hs_; go_simp; with_reducible rfl
            rotate_left; · (simp only [Act.put, List.setIfInBounds_toArray, List.set_cons_zero, List.set_cons_succ, i64_w, i32_w]; rfl)
            refine pure_ (i := 44) (N := some 197) (v := ?_) (a' := ?_) #[true, true, true, true, true, true, true, true, true, true, true, true, true, true, true, true, true, true, true, true, true, true, true, true, true, true, true, true, true, true, true, true, true, true, true, true, true, true, true, true, true, true, true, true, true, false] rfl rfl (by kernel_rfl) (fun _ _ _ h => h) (Or.inl ⟨by rfl, ?_⟩) ?_ ?_
            rotate_left
            · intro w'; go_simp; with_reducible rfl
            rotate_left; · (simp only [Act.put, List.setIfInBounds_toArray, List.set_cons_zero, List.set_cons_succ, i64_w, i32_w]; rfl)
            refine pure_ (i := 45) (N := some 198) (v := ?_) (a' := ?_) #[true, true, true, true, true, true, true, true, true, true, true, true, true, true, true, true, true, true, true, true, true, true, true, true, true, true, true, true, true, true, true, true, true, true, true, true, true, true, true, true, true, true, true, true, true, true] rfl rfl (by kernel_rfl) (fun _ _ _ h => h) (Or.inl ⟨by rfl, ?_⟩) ?_ ?_
            rotate_left
            · intro w'; go_simp; with_reducible rfl
            rotate_left; · (simp only [Act.put, List.setIfInBounds_toArray, List.set_cons_zero, List.set_cons_succ, i64_w, i32_w]; rfl)
            refine done_ (by kernel_rfl) ?_
            go_wp2; go_roundg k2
            case measure => omega
            case rel => exact ⟨k + 1, rfl, ⟨by have := HKA.out; omega⟩, ⟨HN.out.below hHeld⟩, ⟨HQ.out.below hHeld⟩, ⟨Kd.C_below HA.out hHeld⟩, ⟨Kd.C_below HH.out hHeld⟩, ⟨below_step HB.out hHeld⟩⟩
          · have cb : decide ((k : Int) < (s5.lie.length : Int)) = false := decide_eq_false (by omega)
            have cb2 : decide (k < s5.lie.length) = false := decide_eq_false ck
            clear HKA ck; go_wp2; go_loopg [15] s5.heard.length (fun kq v15 w' => ∃ (k : Nat), v15 = .int .i64 (k : Int) ∧ Aside0 (k + kq = s5.heard.length) ∧ Aside0 (NetL w.heap.size w' g s5 F5) ∧ Aside0 (RefL w.heap.size w' gq s5 F5 G6) ∧ Aside0 (Kd.C Kd.string w' A8 s5.heard.length s5.heard) ∧ Aside0 (Below w.heap.size w w'))
            case atStart => exact ⟨0, rfl, ⟨Nat.zero_add _⟩, HN, HQ, HH, HB⟩
            case round =>
              clear HN HQ HH HB HA cb cb2; obtain ⟨k, rfl, HKA, HN, HQ, HH, HB⟩ := hrel; by_cases ck : k < s5.heard.length
              · obtain ⟨k2, rfl⟩ : ∃ k2, gk = k2 + 1 := ⟨gk - 1, by have := HKA.out; omega⟩
                have cb : decide ((k : Int) < (s5.heard.length : Int)) = true := decide_eq_true (by omega)
                have cb2 : decide (k < s5.heard.length) = true := decide_eq_true ck
                have hw4 : IntKind.i64.wrap ((k : Int) + 1) = ((k + 1 : Nat) : Int) := by rw [i64_w]; unfold wrap64; have := HM5.out.2.2; omega
                obtain ⟨ad7, e7, hy⟩ := Kd.at_string HH.out (k : Int) (by omega) (by omega)
                cases e7
                obtain ⟨A1, c1, A2, c2, q0_, q1_, _, hc2⟩ := HQ.out.reads; obtain ⟨ad2, rfl, hz⟩ := Kd.at_string hc2 (k : Int) (by omega) (by omega)
                simp only [Int.toNat_natCast] at hy hz
                generalize rdOf ByteArray.empty s5.heard (k : Int) = T at hy hz
                have n2 : (T.toList != T.toList) = false := bne_self_eq_false _
                have Q1 := Aside0.mk q1_
                have HY := Aside0.mk hy
                have HZ := Aside0.mk hz
                clear q0_ q1_ hc2 hy hz; go_upto_region 35 with (fail)
                clear cb cb2; refine start_ (n := 12) (S := fun w' => Below wr.heap.size wr w') (ds := []) #[false, false, false, false, false, false, false, false, false, false, false, false] (by kernel_rfl) rfl rfl (below_drew1 (Below.refl _ _)) (fun hHeld => ?_)
                generalize hWd : wr.drew = Wd at hHeld ⊢
                clear hWd; refine pure_ (i := 0) (N := some 205) (v := ?_) (a' := ?_) #[true, false, false, false, false, false, false, false, false, false, false, false] rfl rfl (by kernel_rfl) (fun _ _ _ h => h) (Or.inl ⟨by rfl, ?_⟩) ?_ ?_
                rotate_left
                · intro w'; go_simp; with_reducible rfl
                rotate_left; · (simp only [Act.put, List.setIfInBounds_toArray, List.set_cons_zero, List.set_cons_succ, i64_w, i32_w]; rfl)
                refine pure_ (i := 1) (N := some 206) (v := ?_) (a' := ?_) #[true, true, false, false, false, false, false, false, false, false, false, false] rfl rfl (by kernel_rfl) (fun _ _ _ h => h) (Or.inl ⟨by rfl, ?_⟩) ?_ ?_
                rotate_left
                · intro w'; go_simp; with_reducible rfl
                rotate_left; · (simp only [Act.put, List.setIfInBounds_toArray, List.set_cons_zero, List.set_cons_succ, i64_w, i32_w]; rfl)
                refine pure_ (i := 2) (N := some 207) (v := ?_) (a' := ?_) #[true, true, true, false, false, false, false, false, false, false, false, false] rfl rfl (by kernel_rfl) (fun _ _ _ h => h) (Or.inl ⟨by rfl, ?_⟩) ?_ ?_
                rotate_left
                · intro w'; go_simp; with_reducible rfl
                rotate_left; · (simp only [Act.put, List.setIfInBounds_toArray, List.set_cons_zero, List.set_cons_succ, i64_w, i32_w]; rfl)
                refine take_ (i := 3) (N := some 208) (v := ?_) (a' := ?_) #[true, true, true, true, false, false, false, false, false, false, false, false] rfl rfl (by kernel_rfl) (fun _ _ _ h => h) (Or.inl ⟨by rfl, ?_⟩) hHeld ?_ ?_
                rotate_left
                · intro w' hs_; have s0_ := pw_cell_below hs_ HY.out; clear hs_; go_simp; with_reducible rfl
                rotate_left; · (simp only [Act.put, List.setIfInBounds_toArray, List.set_cons_zero, List.set_cons_succ, i64_w, i32_w]; rfl)
                refine pure_ (i := 4) (N := some 209) (v := ?_) (a' := ?_) #[true, true, true, true, true, false, false, false, false, false, false, false] rfl rfl (by kernel_rfl) (fun _ _ _ h => h) (Or.inl ⟨by rfl, ?_⟩) ?_ ?_
                rotate_left
                · intro w'; go_simp; with_reducible rfl
                rotate_left; · (simp only [Act.put, List.setIfInBounds_toArray, List.set_cons_zero, List.set_cons_succ, i64_w, i32_w]; rfl)
                refine pure_ (i := 5) (N := some 210) (v := ?_) (a' := ?_) #[true, true, true, true, true, true, false, false, false, false, false, false] rfl rfl (by kernel_rfl) (fun _ _ _ h => h) (Or.inl ⟨by rfl, ?_⟩) ?_ ?_
                rotate_left
                · intro w'; go_simp; with_reducible rfl
                rotate_left; · (simp only [Act.put, List.setIfInBounds_toArray, List.set_cons_zero, List.set_cons_succ, i64_w, i32_w]; rfl)
                refine pure_ (i := 6) (N := some 211) (v := ?_) (a' := ?_) #[true, true, true, true, true, true, true, false, false, false, false, false] rfl rfl (by kernel_rfl) (fun _ _ _ h => h) (Or.inl ⟨by rfl, ?_⟩) ?_ ?_
                rotate_left
                · intro w'; go_simp; with_reducible rfl
                rotate_left; · (simp only [Act.put, List.setIfInBounds_toArray, List.set_cons_zero, List.set_cons_succ, i64_w, i32_w]; rfl)
                refine take_ (i := 7) (N := some 212) (v := ?_) (a' := ?_) #[true, true, true, true, true, true, true, true, false, false, false, false] rfl rfl (by kernel_rfl) (fun _ _ _ h => h) (Or.inl ⟨by rfl, ?_⟩) hHeld ?_ ?_
                rotate_left
                · intro w' hs_; have s0_ := pw_cell_below hs_ Q1.out; clear hs_; go_simp; with_reducible rfl
                rotate_left; · (simp only [Act.put, List.setIfInBounds_toArray, List.set_cons_zero, List.set_cons_succ, i64_w, i32_w]; rfl)
                refine pure_ (i := 8) (N := some 213) (v := ?_) (a' := ?_) #[true, true, true, true, true, true, true, true, true, false, false, false] rfl rfl (by kernel_rfl) (fun _ _ _ h => h) (Or.inl ⟨by rfl, ?_⟩) ?_ ?_
                rotate_left
                · intro w'; go_simp; with_reducible rfl
                rotate_left; · (simp only [Act.put, List.setIfInBounds_toArray, List.set_cons_zero, List.set_cons_succ, i64_w, i32_w]; rfl)
                refine pure_ (i := 9) (N := some 214) (v := ?_) (a' := ?_) #[true, true, true, true, true, true, true, true, true, true, false, false] rfl rfl (by kernel_rfl) (fun _ _ _ h => h) (Or.inl ⟨by rfl, ?_⟩) ?_ ?_
                rotate_left
                · intro w'; go_simp; with_reducible rfl
                rotate_left; · (simp only [Act.put, List.setIfInBounds_toArray, List.set_cons_zero, List.set_cons_succ, i64_w, i32_w]; rfl)
                refine take_ (i := 10) (N := some 215) (v := ?_) (a' := ?_) #[true, true, true, true, true, true, true, true, true, true, true, false] rfl rfl (by kernel_rfl) (fun _ _ _ h => h) (Or.inl ⟨by rfl, ?_⟩) hHeld ?_ ?_
                rotate_left
                · intro w' hs_; have s0_ := pw_cell_below hs_ HZ.out; clear hs_; go_simp; with_reducible rfl
                rotate_left; · (simp only [Act.put, List.setIfInBounds_toArray, List.set_cons_zero, List.set_cons_succ, i64_w, i32_w]; rfl)
                refine pure_ (i := 11) (N := some 216) (v := ?_) (a' := ?_) #[true, true, true, true, true, true, true, true, true, true, true, true] rfl rfl (by kernel_rfl) (fun _ _ _ h => h) (Or.inl ⟨by rfl, ?_⟩) ?_ ?_
                rotate_left
                · intro w'; go_simp; with_reducible rfl
                rotate_left; · (simp only [Act.put, List.setIfInBounds_toArray, List.set_cons_zero, List.set_cons_succ, i64_w, i32_w]; rfl)
                refine done_ (by kernel_rfl) ?_
                go_wp2; go_roundg k2
                case measure => omega
                case rel => exact ⟨k + 1, rfl, ⟨by have := HKA.out; omega⟩, ⟨HN.out.below hHeld⟩, ⟨HQ.out.below hHeld⟩, ⟨Kd.C_below HH.out hHeld⟩, ⟨below_step HB.out hHeld⟩⟩
              · have cb : decide ((k : Int) < (s5.heard.length : Int)) = false := decide_eq_false (by omega)
                have cb2 : decide (k < s5.heard.length) = false := decide_eq_false ck
                clear HKA ck HH; go_wp2; go_roundg k1
                case measure => omega
                case rel => exact ⟨i + 1, F5, G6, s5, rfl, ⟨by have := HK.out; omega⟩, HSs, HN, HQ, HB⟩
    · have cb : decide ((i : Int) < (l0.length : Int)) = false := decide_eq_false (by omega)
      have cb2 : decide (i < l0.length) = false := decide_eq_false ci
      clear ci; go_wp2; go_ret
      exact ⟨rfl, HB0.out⟩
def gemotlaw8_NetPlays.f (l0 : List S112) : Option (Bool) := if ∀ x ∈ l0, In64 x.f0 ∧ x.f4.size ≤ 9223372036854775807 then some true else none
theorem gemotlaw8_NetPlays.calls (A0 : Option Addr) (c0 : Nat) (l0 : List S112) (r : Bool) (w : World) (hr0 : Kd.C k112 w A0 l0.length l0) (hc0 : l0.length ≤ c0) (h : gemotlaw8_NetPlays.f l0 = some r) :
    Calls Try.prog 12 #[.slice A0 l0.length c0] w fun e w' => e = .returned (.bool r) ∧ Below w.heap.size w w' := by
  unfold gemotlaw8_NetPlays.f at h
  split at h
  case isFalse => cases h
  rename_i hs
  cases h
  by_cases hl : l0.length ≤ 60
  · exact gemotlaw8_NetPlays.good A0 c0 l0 w hr0 hl hs
  · exact gemotlaw8_NetPlays.long A0 c0 l0 w (by omega)

end Go.Proofs.Ytppimpadfgldjaa.F
