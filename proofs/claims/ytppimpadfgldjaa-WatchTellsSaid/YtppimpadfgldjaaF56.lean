-- Laid by mk.py (a program of this session) over the seat's translation.
import Derived.Test.YtppimpadfgldjaaF0
import Derived.Test.YtppimpadfgldjaaB1
import Derived.Test.YtppimpadfgldjaaF57
import Derived.Test.YtppimpadfgldjaaF59
import Derived.Test.YtppimpadfgldjaaF61
import Derived.Test.YtppimpadfgldjaaF63
import Derived.Test.YtppimpadfgldjaaF67
import Derived.RegionTactic
import Derived.BigRegion
namespace Go.Proofs.Ytppimpadfgldjaa.F
open Go.RowKit Go.Proofs.YtppimpadfgldjaaW.PrintWords Go.Proofs.YtppimpadfgldjaaW.PrintLast Go.Proofs.YtppimpadfgldjaaW.PrintMore
attribute [local go_sem] max2_int min2_int max_two min_two max_three min_three max_four min_four
set_option linter.unusedVariables false
set_option linter.unusedSimpArgs false

/-! ### gemotlaw8_shown: function 56 -/
open Go.Maps Go.Proofs.Ytppimpadfgldjaa.Pure
/-- A net in blocks that there are, none of them below a bound. -/
def NetL (B : Nat) (w : World) (g : Nat) (s : NS) (F : Nat → Prop) : Prop := NetIn w g F s ∧ (∀ k, F k → B ≤ k ∧ k < w.heap.size) ∧ B ≤ w.heap.size
theorem NetL.below {B : Nat} {w w' : World} {g : Nat} {s : NS} {F : Nat → Prop} (h : NetL B w g s F) (hb : Below w.heap.size w w') : NetL B w' g s F := ⟨h.1.below hb, fun k hk => ⟨(h.2.1 k hk).1, Nat.lt_of_lt_of_le (h.2.1 k hk).2 hb.size⟩, Nat.le_trans h.2.2 hb.size⟩
/-- What an act of a net makes of it, and what stays. -/
def Step (B : Nat) (w : World) (g : Nat) (F : Nat → Prop) (w' : World) (s' : NS) : Prop := ∃ F', NetL B w' g s' F' ∧ (∀ k, F' k → F k ∨ w.heap.size ≤ k) ∧ Near F w w'
theorem Step.mk {B : Nat} {w w' : World} {g : Nat} {s s' : NS} {F : Nat → Prop} (h : NetL B w g s F) (hn : NetIn w' g (fun k => F k ∨ w.heap.size ≤ k) s') (hr : Near F w w') : Step B w g F w' s' :=
  ⟨_, ⟨hn.tight, fun k hk => ⟨hk.1.elim (fun q => (h.2.1 k q).1) (fun q => Nat.le_trans h.2.2 q), hk.2⟩, Nat.le_trans h.2.2 hr.1.size⟩, fun k hk => hk.1, hr⟩
theorem sendL {B : Nat} {w : World} {g : Nat} {s : NS} {F : Nat → Prop} (h : NetL B w g s F) (d : S114) (hl : s.lie.length ≤ 400) (hm : s.many < 1000000000) (hz : d.f2.size < 9223372036854775808) :
    Calls Try.prog 63 #[.pointer (some ⟨g, 0, none⟩), .agg #[.int .i64 d.f0, .int .i64 d.f1, .string d.f2]] w fun e w' => e = .returned (.int .i64 (sendN s d).2) ∧ Step B w g F w' (sendN s d).1 :=
  (net_Net_Send.calls d w g F s h.1 hl hm hz).mono fun e w' ⟨he, hn, hr⟩ => ⟨he, Step.mk h hn hr⟩
theorem doubleL {B : Nat} {w : World} {g : Nat} {s : NS} {F : Nat → Prop} (h : NetL B w g s F) (i : Int) (hl : s.lie.length ≤ 400) :
    Calls Try.prog 61 #[.pointer (some ⟨g, 0, none⟩), .int .i64 i] w fun e w' => e = .returned (.int .i64 (doubleN s i).2) ∧ Step B w g F w' (doubleN s i).1 :=
  (net_Net_Double.calls i w g F s h.1 hl).mono fun e w' ⟨he, hn, hr⟩ => ⟨he, Step.mk h hn hr⟩
theorem takeL {B : Nat} {w : World} {g : Nat} {s : NS} {F : Nat → Prop} (h : NetL B w g s F) (i : Int) (hl : s.lie.length ≤ 400) :
    Calls Try.prog 59 #[.pointer (some ⟨g, 0, none⟩), .int .i64 i] w fun e w' => e = .returned (.tuple #[.agg #[.int .i64 (takeN s i).2.1.f0, .int .i64 (takeN s i).2.1.f1, .string (takeN s i).2.1.f2], .int .i64 (takeN s i).2.2]) ∧ Step B w g F w' (takeN s i).1 :=
  (net_Net_Take.calls i w g F s h.1 hl).mono fun e w' ⟨he, hn, hr⟩ => ⟨he, Step.mk h hn hr⟩
theorem newL (w : World) : Calls Try.prog 57 #[] w fun e w' => ∃ g F, e = .returned (.pointer (some ⟨g, 0, none⟩)) ∧ NetL w.heap.size w' g ⟨[], [], 0⟩ F ∧ Below w.heap.size w w' :=
  (net_New.any w).mono fun e w' ⟨g, he, _, hn, hb⟩ => ⟨g, _, he, ⟨hn.tight, fun k hk => hk, hb.size⟩, hb⟩
/-- A row of what is made in memory, apart from a net. -/
def Loc {α : Type} (d : Kd α) (e : Nat) (B : Nat) (F : Nat → Prop) (w : World) (v : Value) (xs : List α) : Prop := ∃ ok : Nat → Prop, d.R e w B ok v xs ∧ ∀ k, ok k → ¬ F k ∧ k < w.heap.size
theorem Loc.below {α : Type} {d : Kd α} {e B : Nat} {F : Nat → Prop} {w w' : World} {v : Value} {xs : List α} (h : Loc d e B F w v xs) (hb : Below w.heap.size w w') : Loc d e B F w' v xs := by
  obtain ⟨ok, h1, h2⟩ := h
  exact ⟨ok, Kd.R_below h1 hb, fun k hk => ⟨(h2 k hk).1, Nat.lt_of_lt_of_le (h2 k hk).2 hb.size⟩⟩
theorem Loc.near {α : Type} {d : Kd α} {e B : Nat} {F F' : Nat → Prop} {w w' : World} {v : Value} {xs : List α} (h : Loc d e B F w v xs) (hr : Near F w w') (hF : ∀ k, F' k → F k ∨ w.heap.size ≤ k) : Loc d e B F' w' v xs := by
  obtain ⟨ok, h1, h2⟩ := h
  exact ⟨ok, Kd.R_step h1 (fun k hk hlt => hr.2.2 k hlt (h2 k hk).1), fun k hk => ⟨fun q => (hF k q).elim (h2 k hk).1 (fun r => Nat.not_le_of_lt (h2 k hk).2 r), Nat.lt_of_lt_of_le (h2 k hk).2 hr.1.size⟩⟩
theorem Loc.new {α : Type} {d : Kd α} {e B : Nat} {F : Nat → Prop} {w w' : World} {v : Value} {xs : List α} (h : d.R e w' w.heap.size (fun _ => True) v xs) (hF : ∀ k, F k → k < w.heap.size) (hB : B ≤ w.heap.size) : Loc d e B F w' v xs :=
  ⟨_, Kd.R_lower (Kd.R_bound h) hB, fun k hk => ⟨fun q => Nat.not_le_of_lt (hF k q) hk.2.1, hk.2.2.1⟩⟩
theorem Loc.slice {α : Type} {d : Kd α} {e B : Nat} {F : Nat → Prop} {w : World} {v : Value} {xs : List α} (h : Loc d e B F w v xs) : ∃ A c, v = .slice A xs.length c := Kd.R_slice h.choose_spec.1
theorem Loc.reads {α : Type} {d : Kd α} {e B : Nat} {F : Nat → Prop} {w : World} {A : Option Addr} {n c : Nat} {xs : List α} (h : Loc d e B F w (.slice A n c) xs) : n = xs.length ∧ n ≤ c ∧ d.C w A xs.length xs := Kd.R_reads' h.choose_spec.1
/-- A block of one's own, apart from a net. -/
def LocB (B : Nat) (F : Nat → Prop) (w : World) (g t : Nat) (cs : Array Value) : Prop := w.heap[g]? = some (.cells cs t (0, 0)) ∧ ¬ F g ∧ B ≤ g
theorem LocB.below {B : Nat} {F : Nat → Prop} {w w' : World} {g t : Nat} {cs : Array Value} (h : LocB B F w g t cs) (hb : Below w.heap.size w w') : LocB B F w' g t cs := ⟨blk_below h.1 hb, h.2⟩
theorem LocB.near {B : Nat} {F F' : Nat → Prop} {w w' : World} {g t : Nat} {cs : Array Value} (h : LocB B F w g t cs) (hr : Near F w w') (hF : ∀ k, F' k → F k ∨ w.heap.size ≤ k) : LocB B F' w' g t cs :=
  ⟨(hr.2.2 g (blk_lt h.1) h.2.1).trans h.1, fun q => (hF g q).elim h.2.1 (fun r => Nat.not_le_of_lt (blk_lt h.1) r), h.2.2⟩
theorem LocB.new {B : Nat} {F : Nat → Prop} {w w' : World} {g t : Nat} {cs : Array Value} (h : w'.heap[g]? = some (.cells cs t (0, 0))) (hg : g = w.heap.size) (hF : ∀ k, F k → k < w.heap.size) (hB : B ≤ w.heap.size) : LocB B F w' g t cs := ⟨h, fun q => by have := hF g q; omega, by omega⟩
theorem Below.set3 {B : Nat} {w W : World} {g : Nat} (h : Below B w W) (hg : B ≤ g) (x y z : Value) : Below B w (((W.setCell ⟨g, 0, none⟩ x).setCell ⟨g, 1, none⟩ y).setCell ⟨g, 2, none⟩ z) := ((h.setCell (p := ⟨g, 0, none⟩) hg x).setCell (p := ⟨g, 1, none⟩) hg y).setCell (p := ⟨g, 2, none⟩) hg z
theorem set3_size (W : World) (g : Nat) (x y z : Value) : W.heap.size ≤ (((W.setCell ⟨g, 0, none⟩ x).setCell ⟨g, 1, none⟩ y).setCell ⟨g, 2, none⟩ z).heap.size := (Below.set3 (B := 0) (Below.refl 0 W) (Nat.zero_le g) x y z).size
theorem NetL.lower {B B' : Nat} {w : World} {g : Nat} {s : NS} {F : Nat → Prop} (h : NetL B w g s F) (hB : B' ≤ B) : NetL B' w g s F := ⟨h.1, fun k hk => ⟨Nat.le_trans hB (h.2.1 k hk).1, (h.2.1 k hk).2⟩, Nat.le_trans hB h.2.2⟩
theorem NetL.set3 {B : Nat} {w : World} {g gd : Nat} {s : NS} {F : Nat → Prop} (h : NetL B w g s F) (hn : ¬ F gd) (x y z : Value) : NetL B (((w.setCell ⟨gd, 0, none⟩ x).setCell ⟨gd, 1, none⟩ y).setCell ⟨gd, 2, none⟩ z) g s F :=
  ⟨h.1.kept (fun k hk _ => set3_heap (fun e => by subst e; exact hn hk) _ _ _), fun k hk => ⟨(h.2.1 k hk).1, Nat.lt_of_lt_of_le (h.2.1 k hk).2 (set3_size w gd x y z)⟩, Nat.le_trans h.2.2 (set3_size w gd x y z)⟩
theorem NetL.fresh {B : Nat} {w : World} {g : Nat} {s : NS} {F : Nat → Prop} (h : NetL B w g s F) {k : Nat} (hk : w.heap.size ≤ k) : ¬ F k := fun q => Nat.not_le_of_lt (h.2.1 k q).2 hk
theorem Loc.box3 {α : Type} {d : Kd α} {e B : Nat} {F : Nat → Prop} {w w' : World} {v : Value} {xs : List α} {gd : Nat} (h : Loc d e B F w v xs) (hb : Below w.heap.size w w') (hg : gd = w.heap.size) (x y z : Value) : Loc d e B F (((w'.setCell ⟨gd, 0, none⟩ x).setCell ⟨gd, 1, none⟩ y).setCell ⟨gd, 2, none⟩ z) v xs := by
  obtain ⟨ok, h1, h2⟩ := h
  exact ⟨ok, Kd.R_step (Kd.R_below h1 hb) (fun k hk _ => set3_heap (by have := (h2 k hk).2; omega) _ _ _), fun k hk => ⟨(h2 k hk).1, Nat.lt_of_lt_of_le (h2 k hk).2 (Nat.le_trans hb.size (set3_size w' gd x y z))⟩⟩
theorem Loc.drew {α : Type} {d : Kd α} {e B : Nat} {F : Nat → Prop} {w : World} {v : Value} {xs : List α} (h : Loc d e B F w v xs) : Loc d e B F w.drew v xs := h.below (below_drew1 (Below.refl _ _))
theorem NetL.drew {B : Nat} {w : World} {g : Nat} {s : NS} {F : Nat → Prop} (h : NetL B w g s F) : NetL B w.drew g s F := h.below (below_drew1 (Below.refl _ _))
/-- A struct's box is filled. -/
theorem LocB.put3 {B : Nat} {F : Nat → Prop} {w : World} {g t : Nat} {a b c x y z : Value} (h : LocB B F w g t #[a, b, c]) : LocB B F (((w.setCell ⟨g, 0, none⟩ x).setCell ⟨g, 1, none⟩ y).setCell ⟨g, 2, none⟩ z) g t #[x, y, z] := ⟨Go.Proofs.Ytppimpadfgldjaa.F.put3 h.1, h.2⟩
theorem LocB.far3 {B : Nat} {F : Nat → Prop} {w : World} {g g' t : Nat} {cs : Array Value} {x y z : Value} (h : LocB B F w g t cs) (hne : g ≠ g') : LocB B F (((w.setCell ⟨g', 0, none⟩ x).setCell ⟨g', 1, none⟩ y).setCell ⟨g', 2, none⟩ z) g t cs := ⟨Go.Proofs.Ytppimpadfgldjaa.F.far3 h.1 hne, h.2⟩
theorem LocB.drew {B : Nat} {F : Nat → Prop} {w : World} {g t : Nat} {cs : Array Value} (h : LocB B F w g t cs) : LocB B F w.drew g t cs := ⟨blk_drew h.1, h.2⟩
def gD : S114 := ⟨1, 2, ⟨#[103]⟩⟩
theorem rightB_g : rightB (⟨#[103]⟩ : ByteArray) = true := gen_leaf.right (by decide)
theorem good_g : goodD gD := ⟨by decide, by decide, rightB_g⟩
theorem send_g : sendN ⟨[], [], 0⟩ gD = (⟨[gD], [⟨#[103]⟩], 1⟩, 0) := by
  unfold sendN
  rw [if_pos good_g]
  rfl
theorem double_g : doubleN ⟨[gD], [⟨#[103]⟩], 1⟩ 0 = (⟨[gD, gD], [⟨#[103]⟩], 1⟩, 0) := by
  unfold doubleN
  rw [if_pos (by decide)]
  rfl
theorem take_g : takeN ⟨[gD, gD], [⟨#[103]⟩], 1⟩ 0 = (⟨[gD], [⟨#[103]⟩], 1⟩, gD, 0) := by
  unfold takeN
  rw [if_pos (by decide)]
  rfl
set_option maxHeartbeats 4000000 in
set_option maxRecDepth 100000 in
theorem gemotlaw8_shown.any (w : World) : Calls Try.prog 56 #[] w fun e w' => e = .returned (.bool true) ∧ Below w.heap.size w w' := by
  have HNw := Aside0.mk (newL w)
  have HS := Aside0.mk (fun (W : World) (g : Nat) (F : Nat → Prop) (h : NetL w.heap.size W g ⟨[], [], 0⟩ F) => sendL h gD (by decide) (by decide) (by decide))
  have HD := Aside0.mk (fun (W : World) (g : Nat) (F : Nat → Prop) (h : NetL w.heap.size W g ⟨[gD], [⟨#[103]⟩], 1⟩ F) => doubleL h 0 (by decide))
  have HT := Aside0.mk (fun (W : World) (g : Nat) (F : Nat → Prop) (h : NetL w.heap.size W g ⟨[gD, gD], [⟨#[103]⟩], 1⟩ F) => takeL h 0 (by decide))
  have HM := Aside0.mk (fun (W : World) (g : Nat) (F : Nat → Prop) (h : NetIn W g F ⟨[gD], [⟨#[103]⟩], 1⟩) => net_Net_Many.calls W g F _ h)
  have q0 : gD.f0 = 1 := rfl
  have q1 : gD.f1 = 2 := rfl
  have q2 : gD.f2 = (⟨#[103]⟩ : ByteArray) := rfl
  rw [send_g] at HS
  rw [double_g] at HD
  rw [take_g] at HT
  rw [q0, q1, q2] at HS
  simp only [q0, q1, q2] at HT
  go_enter Try.func56, Try.ntmps56
  go_wp2_with (first
    | (go_at_call 57; go_loud (refine (HNw.out).mono ?_; rintro e w1 ⟨g, F, rfl, hn, hb⟩; have HN1 := Aside0.mk hn; have HB1 := Aside0.mk hb; clear hn hb))
    | (go_at_call 63; go_loud (refine (HS.out _ _ _ HN1.out).mono ?_; rintro e w2 ⟨rfl, F2, hn, hF, hr⟩; have HN2 := Aside0.mk hn; have HB2 := Aside0.mk (HB1.out.trans (hr.toBelow (fun k hk => (HN1.out.2.1 k hk).1) HN1.out.2.2)); clear hn hF hr))
    | (go_at_call 61; go_loud (refine (HD.out _ _ _ HN2.out).mono ?_; rintro e w3 ⟨rfl, F3, hn, hF, hr⟩; have HN3 := Aside0.mk hn; have HB3 := Aside0.mk (HB2.out.trans (hr.toBelow (fun k hk => (HN2.out.2.1 k hk).1) HN2.out.2.2)); clear hn hF hr))
    | (go_at_call 59; go_loud (refine (HT.out _ _ _ HN3.out).mono ?_; rintro e w4 ⟨rfl, F4, hn, hF, hr⟩; have HN4 := Aside0.mk hn; have HB4 := Aside0.mk (HB3.out.trans (hr.toBelow (fun k hk => (HN3.out.2.1 k hk).1) HN3.out.2.2)); clear hn hF hr))
    | ((with_reducible refine gate_dst (N := 4) rfl ?_); refine box_event ?hg (N := 4) ?hd (cs := #[.int .i64 0, .int .i64 0, .string ⟨#[]⟩]) (t := 114) ?hr ?_; (case hd => rfl); (case hg => rfl); (case hr => first | (go_simp; done) | (go_simp; rfl)); intro gd hgd w5 hbox hb; have HB5 := Aside0.mk (below_then HB4.out HB4.out.size hb); have HN5 := Aside0.mk (HN4.out.below hb); have HX5 := Aside0.mk hbox; have y0 : w5.cell? ⟨gd, 0, none⟩ = some (.int .i64 0) := (blk_cell hbox 0).trans rfl; have y1 : w5.cell? ⟨gd, 1, none⟩ = some (.int .i64 0) := (blk_cell hbox 1).trans rfl; have y2 : w5.cell? ⟨gd, 2, none⟩ = some (.string ⟨#[]⟩) := (blk_cell hbox 2).trans rfl; have x0 := blk_frozen hbox 0; have x1 := blk_frozen hbox 1; have x2 := blk_frozen hbox 2; have HGD := Aside0.mk hgd; clear hbox hb hgd)
    | (go_at_call 67; go_loud (refine (HM.out _ _ F4 (HN5.out.1.kept (fun k hk _ => set3_heap (by have := (HN4.out.2.1 k hk).2; have := HGD.out; omega) _ _ _))).mono ?_; rintro e w6 ⟨rfl, rfl⟩)))
  go_ret
  have hg : w.heap.size ≤ gd := by rw [HGD.out]; exact HB4.out.size
  exact ⟨rfl, below_set (below_set (below_set HB5.out hg) hg) hg⟩
def gemotlaw8_shown.f : Option Bool := some true
theorem gemotlaw8_shown.calls (r : Bool) (w : World) (h : gemotlaw8_shown.f = some r) : Calls Try.prog 56 #[] w fun e w' => e = .returned (.bool r) ∧ Below w.heap.size w w' := by
  cases h
  exact gemotlaw8_shown.any w

end Go.Proofs.Ytppimpadfgldjaa.F
