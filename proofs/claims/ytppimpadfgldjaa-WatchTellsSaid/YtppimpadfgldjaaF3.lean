-- Laid by mk.py (a program of this session) over the seat's translation.
import Derived.Test.YtppimpadfgldjaaF0
import Derived.Test.YtppimpadfgldjaaF20
import Derived.Test.YtppimpadfgldjaaF21
import Derived.Test.YtppimpadfgldjaaF22
import Derived.Test.YtppimpadfgldjaaF23
import Derived.Test.YtppimpadfgldjaaF24
import Derived.Test.YtppimpadfgldjaaF25
import Derived.Test.YtppimpadfgldjaaF26
import Derived.Test.YtppimpadfgldjaaF27
import Derived.Test.YtppimpadfgldjaaF28
import Derived.Test.YtppimpadfgldjaaF29
import Derived.Test.YtppimpadfgldjaaF56
import Derived.Test.YtppimpadfgldjaaF57
import Derived.Test.YtppimpadfgldjaaF59
import Derived.RegionTactic
import Derived.BigRegion
import Derived.StillTailTactics
import Derived.StillTactics
import Derived.Deep.LoopGhost
import Derived.Deep.CutBlock
import Derived.Test.YtppimpadfgldjaaLNetLaw
namespace Go.Proofs.Ytppimpadfgldjaa.F
open Go.RowKit Go.Proofs.YtppimpadfgldjaaW.PrintWords Go.Proofs.YtppimpadfgldjaaW.PrintLast Go.Proofs.YtppimpadfgldjaaW.PrintMore
attribute [local go_sem] max2_int min2_int max_two min_two max_three min_three max_four min_four
set_option linter.unusedVariables false
set_option linter.unusedSimpArgs false

/-! ### gemotlaw9_WatchTells: function 3 -/
open Go.Maps Go.Proofs.Ytppimpadfgldjaa.Pure
/-- Both watches tell the same. -/
def TellS (me lim now : Int) (hs Q : List Int) : Prop := newOk me lim ∧ Okay9 lim now hs ∧ Q.length = 8 ∧ ∀ n : Nat, n < 8 → rd Q (n : Int) = quietF me lim now hs ((n : Int) + 1)
theorem rd_nat (l : List Int) (n : Nat) : rd l (n : Int) = l.getD n 0 := by unfold rd; rw [Int.toNat_natCast]
theorem TellS.new {me lim : Int} (h : newOk me lim) : TellS me lim 0 (List.replicate 8 (-1)) (hearQ (List.replicate 8 (lim + 1)) me) := by
  obtain ⟨h1, h2, h3, h4⟩ := id h; refine ⟨h, ⟨⟨h3, h4⟩, ⟨by decide, by decide⟩, by decide, by decide⟩, by unfold hearQ; split <;> simp, fun n hn => ?_⟩
  have hm : me = 1 ∨ me = 2 ∨ me = 3 ∨ me = 4 ∨ me = 5 ∨ me = 6 ∨ me = 7 ∨ me = 8 := by omega
  have hv : n = 0 ∨ n = 1 ∨ n = 2 ∨ n = 3 ∨ n = 4 ∨ n = 5 ∨ n = 6 ∨ n = 7 := by omega
  rcases hm with rfl | rfl | rfl | rfl | rfl | rfl | rfl | rfl <;> rcases hv with rfl | rfl | rfl | rfl | rfl | rfl | rfl | rfl <;> simp [rd, hearQ, quietF, List.replicate]
theorem TellS.tick {me lim now : Int} {hs Q : List Int} (h : TellS me lim now hs Q) (hn : now < 1000) : TellS me lim (now + 1) hs (tickQ me lim Q) := by
  obtain ⟨h1, ⟨h2, h3, h4, h5⟩, h6, h7⟩ := h
  refine ⟨h1, ⟨h2, ⟨by omega, by omega⟩, h4, fun x hx => ⟨(h5 x hx).1, by have := (h5 x hx).2; omega⟩⟩, by unfold tickQ; rw [List.length_mapIdx, h6], fun n hn8 => ?_⟩
  have h8 := h7 n hn8
  have e1 : rd (tickQ me lim Q) (n : Int) = tick1 me lim n (rd Q (n : Int)) := by
    rw [rd_nat, rd_nat]
    unfold tickQ
    simp [List.getD_eq_getElem?_getD, List.getElem?_mapIdx, List.getElem?_eq_getElem (show n < Q.length by omega)]
  rw [e1, h8]
  have hx := h5 _ (rd_mem9 (l := hs) (i := (n : Int)) (by omega) (by omega))
  unfold tick1 quietF
  rw [show (n : Int) + 1 - 1 = (n : Int) by omega]
  generalize rd hs (n : Int) = x at hx
  by_cases e : (n : Int) + 1 = me
  · rw [if_pos e, if_pos e, if_pos e]
  · rw [if_neg e, if_neg e, if_neg e]
    by_cases d : x < 0
    · rw [if_pos d, if_pos d]
      unfold mn wrap64
      split <;> omega
    · rw [if_neg d, if_neg d]
      unfold mn wrap64
      split <;> split <;> split <;> omega
theorem TellS.hear {me lim now : Int} {hs Q : List Int} (h : TellS me lim now hs Q) (x : Int) : TellS me lim now (hearF now hs x) (hearQ Q x) := by
  obtain ⟨h1, ⟨h2, h3, h4, h5⟩, h6, h7⟩ := h
  unfold hearF hearQ
  rw [h6]
  by_cases hx : 1 ≤ x ∧ x ≤ 8
  · rw [if_pos hx, if_pos (by omega)]
    obtain ⟨m, rfl⟩ : ∃ m : Nat, x = (m : Int) + 1 := ⟨(x - 1).toNat, by omega⟩
    rw [show ((m : Int) + 1 - 1).toNat = m by omega]
    have hm : m < 8 := by omega
    refine ⟨h1, ⟨h2, h3, by rw [List.length_set, h4], fun y hy => ?_⟩, by rw [List.length_set, h6], fun n hn => ?_⟩
    · rcases List.mem_or_eq_of_mem_set hy with q | rfl
      · exact h5 y q
      · omega
    · have h8 := h7 n hn
      unfold quietF at h8 ⊢
      rw [show (n : Int) + 1 - 1 = (n : Int) by omega] at h8 ⊢
      rw [rd_nat] at h8 ⊢
      rw [rd_nat] at h8 ⊢
      by_cases e : m = n
      · subst e; have e1 : (Q.set m 0).getD m 0 = 0 := by simp [List.getD_eq_getElem?_getD, List.getElem?_set, h6, hm]
        have e2 : (hs.set m now).getD m 0 = now := by simp [List.getD_eq_getElem?_getD, List.getElem?_set, h4, hm]
        rw [e1, e2]
        by_cases e : (m : Int) + 1 = me
        · rw [if_pos e]
        · rw [if_neg e, if_neg (by omega)]
          unfold mn
          rw [if_neg (by omega)]
          omega
      · have e1 : (Q.set m 0).getD n 0 = Q.getD n 0 := by simp [List.getD_eq_getElem?_getD, List.getElem?_set, e]
        have e2 : (hs.set m now).getD n 0 = hs.getD n 0 := by simp [List.getD_eq_getElem?_getD, List.getElem?_set, e]
        rw [e1, e2]
        exact h8
  · rw [if_neg hx, if_neg (by omega)]
    exact ⟨h1, ⟨h2, h3, h4, h5⟩, h6, h7⟩
theorem TellS.there {me lim now : Int} {hs Q : List Int} (h : TellS me lim now hs Q) : thereL lim Q = thereN lim (quietF me lim now hs) 8 := by
  obtain ⟨h1, h2, h6, h7⟩ := h
  have : ∀ n, n ≤ 8 → thereL lim (Q.take n) = thereN lim (quietF me lim now hs) n := by
    intro n; induction n with
    | zero => intro _; rfl
    | succ n ih =>
      intro hn
      have e : Q.take (n + 1) = Q.take n ++ [rd Q (n : Int)] := by
        rw [rd_nat, List.take_add_one]
        simp [List.getD_eq_getElem?_getD, List.getElem?_eq_getElem (show n < Q.length by omega)]
      rw [e, thereL_snoc, ih (by omega), h7 n (by omega), List.length_take, show min n Q.length = n by omega]
      rw [show thereN lim (quietF me lim now hs) (n + 1) = if quietF me lim now hs ((n : Int) + 1) ≤ lim then thereN lim (quietF me lim now hs) n ++ [(n : Int) + 1] else thereN lim (quietF me lim now hs) n from rfl]
      split
      · rfl
      · rw [List.append_nil]
  have h8 := this 8 (Nat.le_refl _)
  rwa [List.take_of_length_le (by omega)] at h8
theorem same_self (l : List Int) (hl : l.length ≤ 1000) : gemotlaw9_same.f (l.length + 1) l l = some true := by
  have : ∀ (d k i : Nat), i + d = l.length → d < k → gemotlaw9_same.l0 k l l (i : Int) = some true := by
    intro d; induction d with
    | zero =>
      intro k i hi hk; obtain ⟨k, rfl⟩ : ∃ m, k = m + 1 := ⟨k - 1, by omega⟩
      simp only [gemotlaw9_same.l0]; rw [if_neg (by omega)]
    | succ d ih =>
      intro k i hi hk; obtain ⟨k, rfl⟩ : ∃ m, k = m + 1 := ⟨k - 1, by omega⟩
      simp only [gemotlaw9_same.l0]; rw [if_pos (by omega), if_pos (by omega), if_pos (by omega), if_pos trivial, show wrap64 ((i : Int) + 1) = ((i + 1 : Nat) : Int) by unfold wrap64; omega]
      exact ih k (i + 1) (by omega) (by omega)
  unfold gemotlaw9_same.f
  rw [if_pos rfl]
  exact this l.length (l.length + 1) 0 (Nat.zero_add _) (Nat.lt_succ_self _)
theorem F_near {G : Nat → Prop} {w w' : World} {A : Option Addr} {Q : List Int} {gb n : Nat} (h : Kd.F (Kd.int .i64) w (fun k => ¬ G k ∧ k ≠ gb) A n Q) (hr : Near G w w') : Kd.F (Kd.int .i64) w' (fun k => ¬ G k ∧ k ≠ gb) A n Q := Kd.F_step h (fun k hk hlt => hr.2.2 k hlt hk.1)
set_option maxHeartbeats 4000000 in
set_option maxRecDepth 100000 in
theorem gemotlaw9_WatchTells.long (a0 a1 : Int) (A2 : Option Addr) (c2 : Nat) (l2 : List Int) (w : World) (hl : 100 < l2.length) : Calls Try.prog 3 #[.int .i64 a0, .int .i64 a1, .slice A2 l2.length c2] w fun e w' => e = .returned (.bool true) ∧ Below w.heap.size w w' := by
  have HSh := Aside0.mk (fun W => gemotlaw9_shown.calls true W rfl)
  have q : decide ((100 : Int) < (l2.length : Int)) = true := decide_eq_true (by omega)
  clear hl; go_enter Try.func3, Try.ntmps3
  go_wp2_with (go_at_call 20; go_loud (refine (HSh.out _).mono ?_; rintro e w1 ⟨rfl, hb⟩; have HB1 := Aside0.mk hb; clear hb))
  go_ret
  exact ⟨rfl, HB1.out⟩
set_option maxHeartbeats 4000000 in
set_option maxRecDepth 100000 in
theorem gemotlaw9_WatchTells.bad (me lim : Int) (A2 : Option Addr) (c2 : Nat) (l2 : List Int) (w : World) (hl : l2.length ≤ 100) (hk : ¬ newOk me lim) : Calls Try.prog 3 #[.int .i64 me, .int .i64 lim, .slice A2 l2.length c2] w fun e w' => e = .returned (.bool true) ∧ Below w.heap.size w w' := by
  have HSh := Aside0.mk (fun W => gemotlaw9_shown.calls true W rfl)
  have HNw := Aside0.mk (fun W => watch_New.calls me lim 0 0 [] 1 W (by unfold watch_New.f; rw [if_neg hk]))
  have HRn := Aside0.mk (fun W => gemotref9_New.bad me lim hk W)
  have q : decide ((100 : Int) < (l2.length : Int)) = false := decide_eq_false (by omega)
  clear hl hk; go_enter Try.func3, Try.ntmps3
  go_upto_region 5 with (first
    | (go_at_call 20; go_loud (refine (HSh.out _).mono ?_; rintro e w1 ⟨rfl, hb⟩; have HB1 := Aside0.mk hb; clear hb))
    | (go_at_call 21; go_loud (refine (HNw.out _).mono ?_; rintro e w3 ⟨v2, rfl, hv, hb⟩; obtain ⟨A3, c3, rfl⟩ := Kd.V_slice hv; have HB3 := Aside0.mk (below_step HB1.out hb); clear hb hv))
    | ((with_reducible refine gate_dst (N := 8) rfl ?_); refine box_event ?hg (N := 8) ?hd (cs := #[.int .i64 0, .int .i64 0, .slice none 0 0]) (t := 25) ?hr ?_; (case hd => rfl); (case hg => rfl); (case hr => first | (go_simp; done) | (go_simp; rfl)); intro gb hgb w8 hbox hb; have y0_ : w8.cell? ⟨gb, 0, none⟩ = some (.int .i64 0) := (blk_cell hbox 0).trans rfl; have y1_ : w8.cell? ⟨gb, 1, none⟩ = some (.int .i64 0) := (blk_cell hbox 1).trans rfl; have y2_ : w8.cell? ⟨gb, 2, none⟩ = some (.slice none 0 0) := (blk_cell hbox 2).trans rfl; have f0_ := blk_frozen hbox 0; have f1_ := blk_frozen hbox 1; have f2_ := blk_frozen hbox 2; have HGB := Aside0.mk hgb; have HB8 := Aside0.mk hb; have HX8 := Aside0.mk hbox; clear hbox hb hgb))
  have HBV := Aside0.mk (below_step HB3.out (Below.set3 (B := w3.heap.size) HB8.out (Nat.le_of_eq HGB.out.symm) (.int .i64 0) (.int .i64 0) (.slice A3 ([] : List Int).length c3)))
  have HXV := Aside0.mk (put3 (x := .int .i64 0) (y := .int .i64 0) (z := .slice A3 ([] : List Int).length c3) HX8.out)
  have en : ([] : List Int).length = 0 := rfl
  rw [en] at HBV HXV
  generalize ((w8.setCell ⟨gb, 0, none⟩ (.int .i64 0)).setCell ⟨gb, 1, none⟩ (.int .i64 0)).setCell ⟨gb, 2, none⟩ (.slice A3 0 c3) = V at HBV HXV ⊢
  have x0_ : V.cell? ⟨gb, 0, none⟩ = some (.int .i64 0) := (blk_cell HXV.out 0).trans rfl
  have x2_ : V.cell? ⟨gb, 2, none⟩ = some (.slice A3 0 c3) := (blk_cell HXV.out 2).trans rfl
  clear y0_ y1_ y2_ f0_ f1_ f2_ HX8 HB8 en; go_wp2_with (go_at_call 22; go_loud (refine (HRn.out _).mono ?_; rintro e w4 ⟨rfl, rfl⟩))
  go_ret
  exact ⟨rfl, HBV.out⟩
set_option maxHeartbeats 8000000 in
set_option maxRecDepth 100000 in
theorem gemotlaw9_WatchTells.good (me lim : Int) (A2 : Option Addr) (c2 : Nat) (l2 : List Int) (w : World) (hr2 : Kd.C (Kd.int .i64) w A2 l2.length l2) (hl : l2.length ≤ 100) (hk : newOk me lim) : Calls Try.prog 3 #[.int .i64 me, .int .i64 lim, .slice A2 l2.length c2] w fun e w' => e = .returned (.bool true) ∧ Below w.heap.size w w' := by
  have HSh := Aside0.mk (fun W => gemotlaw9_shown.calls true W rfl)
  have HTS := Aside0.mk (TellS.new hk)
  have hQ0 := (TellS.new hk).2.2.1
  have HNw := Aside0.mk (fun W => watch_New.calls me lim me lim (hearQ (List.replicate 8 (lim + 1)) me) 0 W (by unfold watch_New.f; rw [if_pos hk]))
  have HRn := Aside0.mk (fun W => gemotref9_New.ok me lim hk W)
  have q : decide ((100 : Int) < (l2.length : Int)) = false := decide_eq_false (by omega)
  have HR2 := Aside0.mk hr2
  have HL := Aside0.mk hl
  generalize hearQ (List.replicate 8 (lim + 1)) me = Q at HTS HNw hQ0
  generalize hhs : List.replicate 8 (-1 : Int) = hs at HTS HRn
  clear hl hk hr2 hhs; go_enter Try.func3, Try.ntmps3
  go_upto_region 5 with (first
    | (go_at_call 20; go_loud (refine (HSh.out _).mono ?_; rintro e w1 ⟨rfl, hb⟩; have HB1 := Aside0.mk hb; clear hb))
    | (go_at_call 21; go_loud (refine (HNw.out _).mono ?_; rintro e w3 ⟨v2, rfl, hv, hb⟩; obtain ⟨A3, c3, rfl⟩ := Kd.V_slice hv; rw [hQ0] at hv ⊢; have hF_ := (Kd.V_at hv).2.2; rw [hQ0] at hF_; have HV3 := Aside0.mk hF_; clear hF_; have HQc := Aside0.mk (show 8 ≤ c3 from (Kd.V_at hv).2.1); have HB3 := Aside0.mk (below_step HB1.out hb); clear hb hv))
    | ((with_reducible refine gate_dst (N := 8) rfl ?_); refine box_event ?hg (N := 8) ?hd (cs := #[.int .i64 0, .int .i64 0, .slice none 0 0]) (t := 25) ?hr ?_; (case hd => rfl); (case hg => rfl); (case hr => first | (go_simp; done) | (go_simp; rfl)); intro gb hgb w8 hbox hb; have y0_ : w8.cell? ⟨gb, 0, none⟩ = some (.int .i64 0) := (blk_cell hbox 0).trans rfl; have y1_ : w8.cell? ⟨gb, 1, none⟩ = some (.int .i64 0) := (blk_cell hbox 1).trans rfl; have y2_ : w8.cell? ⟨gb, 2, none⟩ = some (.slice none 0 0) := (blk_cell hbox 2).trans rfl; have f0_ := blk_frozen hbox 0; have f1_ := blk_frozen hbox 1; have f2_ := blk_frozen hbox 2; have HGB := Aside0.mk hgb; have HB8 := Aside0.mk hb; have HX8 := Aside0.mk hbox; clear hbox hb hgb))
  have HVb := Aside0.mk (Below.set3 (B := w3.heap.size) HB8.out (Nat.le_of_eq HGB.out.symm) (.int .i64 me) (.int .i64 lim) (.slice A3 8 c3))
  have HXV := Aside0.mk (put3 (x := .int .i64 me) (y := .int .i64 lim) (z := .slice A3 8 c3) HX8.out)
  generalize ((w8.setCell ⟨gb, 0, none⟩ (.int .i64 me)).setCell ⟨gb, 1, none⟩ (.int .i64 lim)).setCell ⟨gb, 2, none⟩ (.slice A3 8 c3) = V at HVb HXV ⊢
  have HBV := Aside0.mk (below_step HB3.out HVb.out)
  have hQc := HQc.out; clear y0_ y1_ y2_ f0_ f1_ f2_ HX8 HB8; go_upto_region 6 with (go_at_call 22; go_loud (refine (HRn.out _).mono ?_; rintro e w4 ⟨gq, rfl, hw9, hb⟩; have HW4 := Aside0.mk hw9; have HB4 := Aside0.mk (below_step HBV.out hb); have hx4 := blk_below HXV.out hb; have x0_ : w4.cell? ⟨gb, 0, none⟩ = some (.int .i64 me) := (blk_cell hx4 0).trans rfl; have x2_ : w4.cell? ⟨gb, 2, none⟩ = some (.slice A3 8 c3) := (blk_cell hx4 2).trans rfl; have HX4 := Aside0.mk hx4; have HVB4 := Aside0.mk hb; clear hw9 hb hx4))
  have HF4 := Aside0.mk (show Kd.F (Kd.int .i64) w4 (fun k => ¬ (V.heap.size ≤ k ∧ k < w4.heap.size) ∧ k ≠ gb) A3 8 Q from
    Kd.F_mono (Kd.F_below (Kd.F_below (Kd.F_bound HV3.out) HVb.out) HVB4.out) (fun k hk => ⟨fun q => by have := HVb.out.size; have := hk.2; omega, fun e => by have := HGB.out; have := hk.2; omega⟩))
  have HG4 := Aside0.mk (show ∀ k, (V.heap.size ≤ k ∧ k < w4.heap.size) → w.heap.size ≤ k ∧ k < w4.heap.size from fun k hk => ⟨Nat.le_trans HBV.out.size hk.1, hk.2⟩)
  have HX4b := Aside0.mk (show ¬ (V.heap.size ≤ gb ∧ gb < w4.heap.size) ∧ w.heap.size ≤ gb from ⟨fun q => by have := blk_lt HXV.out; omega, by have := HB3.out.size; have := HGB.out; omega⟩)
  clear HNw HRn HSh; go_wp2; go_loopg [12] l2.length (fun kq v12 w' => ∃ (i : Nat) (Q hs : List Int) (now : Int) (G : Nat → Prop) (A3 : Option Addr) (c3 : Nat), v12 = .int .i64 (i : Int) ∧ Aside0 (i + kq = l2.length) ∧ Aside0 (TellS me lim now hs Q ∧ 0 ≤ now ∧ now ≤ (i : Int)) ∧ Aside0 (W9 w' gq G me lim now hs) ∧ Aside0 (∀ k, G k → w.heap.size ≤ k ∧ k < w'.heap.size) ∧ Aside0 (w'.heap[gb]? = some (.cells #[.int .i64 me, .int .i64 lim, .slice A3 8 c3] 25 (0, 0)) ∧ ¬ G gb ∧ w.heap.size ≤ gb ∧ 8 ≤ c3) ∧ Aside0 (Kd.F (Kd.int .i64) w' (fun k => ¬ G k ∧ k ≠ gb) A3 8 Q) ∧ Aside0 (Below w.heap.size w w'))
  case atStart => exact ⟨0, Q, hs, 0, _, A3, c3, rfl, ⟨Nat.zero_add _⟩, ⟨HTS.out, Int.le_refl _, Int.le_refl _⟩, HW4, HG4, ⟨HX4.out, HX4b.out.1, HX4b.out.2, hQc⟩, HF4, HB4⟩
  case round =>
    clear HTS HW4 HG4 HX4 HX4b HF4 HB4 HVB4 HV3 HBV HVb HXV hQ0 hQc HQc HGB HB3 HB1 x0_ x2_; obtain ⟨i, Q, hs, now, G, A3, c3, rfl, HK, HTS, HW, HG, HX, HF, HB⟩ := hrel; by_cases ci : i < l2.length
    · obtain ⟨k1, rfl⟩ : ∃ k1, gk = k1 + 1 := ⟨gk - 1, by have := HK.out; omega⟩
      have cb : decide ((i : Int) < (l2.length : Int)) = true := decide_eq_true (by omega)
      have cb2 : decide (i < l2.length) = true := decide_eq_true ci
      have hw1 : IntKind.i64.wrap ((i : Int) + 1) = ((i + 1 : Nat) : Int) := by rw [i64_w]; unfold wrap64; have := HL.out; omega
      obtain ⟨ad, rfl, hy0⟩ := Kd.at_int HR2.out (i : Int) (by omega) (by omega)
      simp only [Int.toNat_natCast] at hy0; generalize rd l2 (i : Int) = x at hy0
      have HY0 := Aside0.mk hy0
      have hy := pw_cell_below HB.out hy0
      clear hy0; have HCI := Aside0.mk ci
      have HY := Aside0.mk hy
      obtain ⟨bx, hbx⟩ : ∃ b, (x == 0) = b := ⟨_, rfl⟩
      go_upto_if 70 with (fail)
      go_cut [] from 60 to 129 (fun w' => ∃ (Q hs : List Int) (now : Int) (G : Nat → Prop) (A3 : Option Addr) (c3 : Nat), Aside0 (TellS me lim now hs Q ∧ 0 ≤ now ∧ now ≤ (i + 1 : Int)) ∧ Aside0 (W9 w' gq G me lim now hs) ∧ Aside0 (∀ k, G k → w.heap.size ≤ k ∧ k < w'.heap.size) ∧ Aside0 (w'.heap[gb]? = some (.cells #[.int .i64 me, .int .i64 lim, .slice A3 8 c3] 25 (0, 0)) ∧ ¬ G gb ∧ w.heap.size ≤ gb ∧ 8 ≤ c3) ∧ Aside0 (Kd.F (Kd.int .i64) w' (fun k => ¬ G k ∧ k ≠ gb) A3 8 Q) ∧ Aside0 (Below w.heap.size w w'))
      case first =>
        have hx0 := HX.out.1; have c0_ : wr.cell? ⟨gb, 0, none⟩ = some (.int .i64 me) := (blk_cell hx0 0).trans rfl
        have c1_ : wr.cell? ⟨gb, 1, none⟩ = some (.int .i64 lim) := (blk_cell hx0 1).trans rfl
        have c2_ : wr.cell? ⟨gb, 2, none⟩ = some (.slice A3 8 c3) := (blk_cell hx0 2).trans rfl
        have HCq := Aside0.mk (Kd.F_now HF.out)
        have hQ8 := HTS.out.1.2.2.1; clear hx0; by_cases cx : x = 0
        · have q0 : bx = true := hbx ▸ beq_iff_eq.mpr cx
          subst q0; clear hbx; have HT2 := Aside0.mk (HTS.out.1.tick (by have := HTS.out.2; have := HCI.out; have := HL.out; omega))
          have HTk := Aside0.mk (fun (W : World) (h : Kd.C (Kd.int .i64) W A3 Q.length Q) => watch_Tick.calls me lim A3 c3 Q me lim (tickQ me lim Q) W h (by have := HX.out.2.2.2; omega) (if_pos (by omega)))
          have hq8 := HT2.out.2.2.1; generalize tickQ me lim Q = Q' at HT2 HTk hq8
          rw [hQ8] at HTk
          have HSZ := Aside0.mk (Nat.le_refl wr.heap.size)
          clear cx hQ8; go_upto_region 15 with (go_at_call 23; go_loud (refine (HTk.out _ HCq.out).mono ?_; rintro e w5 ⟨v2, rfl, hv, hb⟩; obtain ⟨A5, c5, rfl⟩ := Kd.V_slice hv; rw [hq8] at hv ⊢; have hF_ := (Kd.V_at hv).2.2; rw [hq8] at hF_; have HV5 := Aside0.mk hF_; clear hF_; have HC5 := Aside0.mk (show 8 ≤ c5 from (Kd.V_at hv).2.1); have HB5 := Aside0.mk hb; have hx5 := blk_below HX.out.1 hb; have y0_ : w5.cell? ⟨gb, 0, none⟩ = some (.int .i64 me) := (blk_cell hx5 0).trans rfl; have y1_ : w5.cell? ⟨gb, 1, none⟩ = some (.int .i64 lim) := (blk_cell hx5 1).trans rfl; have y2_ : w5.cell? ⟨gb, 2, none⟩ = some (.slice A3 8 c3) := (blk_cell hx5 2).trans rfl; have f0_ := blk_frozen hx5 0; have f1_ := blk_frozen hx5 1; have f2_ := blk_frozen hx5 2; have HX5 := Aside0.mk hx5; clear hb hv hx5))
          have HXs := Aside0.mk (put3 (x := .int .i64 me) (y := .int .i64 lim) (z := .slice A5 8 c5) HX5.out)
          have HWs := Aside0.mk ((HW.out.below HB5.out).kept (w' := ((w5.setCell ⟨gb, 0, none⟩ (.int .i64 me)).setCell ⟨gb, 1, none⟩ (.int .i64 lim)).setCell ⟨gb, 2, none⟩ (.slice A5 8 c5)) (fun k hk _ => set3_heap (fun (e : k = gb) => HX.out.2.1 (e ▸ hk)) _ _ _))
          have HFs := Aside0.mk (show Kd.F (Kd.int .i64) (((w5.setCell ⟨gb, 0, none⟩ (.int .i64 me)).setCell ⟨gb, 1, none⟩ (.int .i64 lim)).setCell ⟨gb, 2, none⟩ (.slice A5 8 c5)) (fun k => ¬ G k ∧ k ≠ gb) A5 8 Q' from
            Kd.F_mono (Kd.F_step HV5.out (fun k (hk : _ ≤ k) _ => set3_heap (fun (e : k = gb) => by have := blk_lt HX.out.1; have := HSZ.out; omega) _ _ _)) (fun k (hk : _ ≤ k) => ⟨fun q => by have := (HG.out k q).2; have := HSZ.out; omega, fun e => by have := blk_lt HX.out.1; have := HSZ.out; omega⟩))
          have HBs := Aside0.mk (Below.set3 (B := w.heap.size) (below_step HB.out HB5.out) HX.out.2.2.1 (.int .i64 me) (.int .i64 lim) (.slice A5 8 c5))
          have HGs := Aside0.mk (show ∀ k, G k → w.heap.size ≤ k ∧ k < (((w5.setCell ⟨gb, 0, none⟩ (.int .i64 me)).setCell ⟨gb, 1, none⟩ (.int .i64 lim)).setCell ⟨gb, 2, none⟩ (.slice A5 8 c5)).heap.size from fun k hk => ⟨(HG.out k hk).1, Nat.lt_of_lt_of_le (Nat.lt_of_lt_of_le (HG.out k hk).2 HB5.out.size) (set3_size w5 gb _ _ _)⟩)
          generalize ((w5.setCell ⟨gb, 0, none⟩ (.int .i64 me)).setCell ⟨gb, 1, none⟩ (.int .i64 lim)).setCell ⟨gb, 2, none⟩ (.slice A5 8 c5) = Vs at HXs HWs HFs HBs HGs ⊢
          clear y0_ y1_ y2_ f0_ f1_ f2_; obtain ⟨vq, g1, g2, g3⟩ := HWs.out; have G1 := Aside0.mk g1
          have G3 := Aside0.mk g3
          have G2 := Aside0.mk g2
          have d2_ : Vs.cell? ⟨gq, 2, none⟩ = some (.int .i64 now) := (blk_cell g1 2).trans rfl
          have e2_ := blk_frozen g1 2; have hw5 : IntKind.i64.wrap (now + 1) = now + 1 := by rw [i64_w]; unfold wrap64; have := HT2.out.2.1.2.1; omega
          clear g1 g2 g3 c0_ c1_ c2_ HTk HCq HWs; go_wp2; go_meet
          case rel => exact ⟨Q', hs, now + 1, G, A5, c5, ⟨HT2.out, by have := HTS.out.2; omega, by have := HTS.out.2; omega⟩, ⟨vq, blk_put G1.out 2 _ rfl, G2.out, Kd.R_far G3.out (fun k hk => hk.2) _⟩, ⟨fun k hk => ⟨(HGs.out k hk).1, Nat.lt_of_lt_of_le (HGs.out k hk).2 (Below.setCell (B := 0) (Below.refl 0 Vs) (Nat.zero_le _) _).size⟩⟩, ⟨blk_far HXs.out (fun e => HX.out.2.1 (e ▸ G2.out)) _, HX.out.2.1, HX.out.2.2.1, HC5.out⟩, ⟨Kd.F_far HFs.out (fun k hk e => hk.1 (e ▸ G2.out)) _⟩, ⟨HBs.out.setCell (HG.out _ G2.out).1 _⟩⟩
        · have q0 : bx = false := hbx ▸ beq_eq_false_iff_ne.mpr cx
          subst q0; clear hbx; have HT2 := Aside0.mk (HTS.out.1.hear x)
          have HHr := Aside0.mk (fun (W : World) (h : Below wr.heap.size wr W) => watch_Hear.calls me lim A3 c3 Q x me lim (hearQ Q x) W (show Kd.C (Kd.int .i64) W A3 Q.length Q by rw [hQ8]; exact Kd.C_below HCq.out h) (by have := HX.out.2.2.2; omega) (if_pos (by omega)))
          have hq8 := HT2.out.2.2.1; generalize hearQ Q x = Q' at HT2 HHr hq8
          rw [hQ8] at HHr
          have hl8 := HTS.out.1.2.1.2.2.1; have HRh := Aside0.mk (fun (W : World) (h : W9 W gq G me lim now hs) => gemotref9_Watch_Hear.calls gq G me lim now x hs W h hl8)
          have X0 := Aside0.mk c0_
          have X1 := Aside0.mk c1_
          have X2 := Aside0.mk c2_
          clear cx hQ8 c0_ c1_ c2_ hl8; go_upto_region 16 with (fail)
          refine start_ (n := 7) (S := fun w' => Below wr.heap.size wr w') (ds := [5, 6]) #[false, false, false, false, false, false, false] (by kernel_rfl) rfl rfl (below_drew1 (Below.refl _ _)) (fun hHeld => ?_)
          generalize hWd : wr.drew = Wd at hHeld ⊢
          clear hWd; refine take_ (i := 0) (N := some 80) (v := ?_) (a' := ?_) #[true, false, false, false, false, false, false] rfl rfl (by kernel_rfl) (fun _ _ _ h => h) (Or.inl ⟨by rfl, ?_⟩) hHeld ?_ ?_
          rotate_left
          · intro w' hs_; have s0_ := pw_cell_below hs_ X0.out; have s1_ := pw_cell_below hs_ X1.out; have s2_ := pw_cell_below hs_ X2.out; clear hs_; go_simp; with_reducible rfl
          rotate_left; · (simp only [Act.put, List.setIfInBounds_toArray, List.set_cons_zero, List.set_cons_succ, i64_w, i32_w]; rfl)
          refine pure_ (i := 1) (N := some 81) (v := ?_) (a' := ?_) #[true, true, false, false, false, false, false] rfl rfl (by kernel_rfl) (fun _ _ _ h => h) (Or.inl ⟨by rfl, ?_⟩) ?_ ?_
          rotate_left
          · intro w'; go_simp; with_reducible rfl
          rotate_left; · (simp only [Act.put, List.setIfInBounds_toArray, List.set_cons_zero, List.set_cons_succ, i64_w, i32_w]; rfl)
          refine pure_ (i := 2) (N := some 82) (v := ?_) (a' := ?_) #[true, true, true, false, false, false, false] rfl rfl (by kernel_rfl) (fun _ _ _ h => h) (Or.inl ⟨by rfl, ?_⟩) ?_ ?_
          rotate_left
          · intro w'; go_simp; with_reducible rfl
          rotate_left; · (simp only [Act.put, List.setIfInBounds_toArray, List.set_cons_zero, List.set_cons_succ, i64_w, i32_w]; rfl)
          refine pure_ (i := 3) (N := some 83) (v := ?_) (a' := ?_) #[true, true, true, true, false, false, false] rfl rfl (by kernel_rfl) (fun _ _ _ h => h) (Or.inl ⟨by rfl, ?_⟩) ?_ ?_
          rotate_left
          · intro w'; go_simp; with_reducible rfl
          rotate_left; · (simp only [Act.put, List.setIfInBounds_toArray, List.set_cons_zero, List.set_cons_succ, i64_w, i32_w]; rfl)
          refine take_ (i := 4) (N := some 84) (v := ?_) (a' := ?_) #[true, true, true, true, true, false, false] rfl rfl (by kernel_rfl) (fun _ _ _ h => h) (Or.inl ⟨by rfl, ?_⟩) hHeld ?_ ?_
          rotate_left
          · intro w' hs_; have s0_ := pw_cell_below hs_ HY.out; clear hs_; go_simp; with_reducible rfl
          rotate_left; · (simp only [Act.put, List.setIfInBounds_toArray, List.set_cons_zero, List.set_cons_succ, i64_w, i32_w]; rfl)
          refine last_ (i := 5) (N := some 85) #[true, true, true, true, true, true, false] rfl rfl (by kernel_rfl) (by decide) (fun K hK => ?_)
          refine goes_ Try.func24 (by kernel_rfl) rfl #[.agg #[.int .i64 me, .int .i64 lim, .slice A3 8 c3], .int .i64 x] (by rfl) rfl rfl (by (try simp only [List.map_toArray, List.map_cons, List.map_nil]); first | done | rfl) ?_
          refine (HHr.out _ hHeld).mono ?_
          rintro e w5 ⟨v2, rfl, hv, hb⟩; obtain ⟨A5, c5, rfl⟩ := Kd.V_slice hv; rw [hq8] at hv ⊢; have hF_ := (Kd.V_at hv).2.2; rw [hq8] at hF_; have HV5 := Aside0.mk hF_; clear hF_; have HC5 := Aside0.mk (show 8 ≤ c5 from (Kd.V_at hv).2.1); have HB5 := Aside0.mk (below_step hHeld hb); have hx5 := blk_below (blk_below HX.out.1 hHeld) hb; have y0_ : w5.cell? ⟨gb, 0, none⟩ = some (.int .i64 me) := (blk_cell hx5 0).trans rfl; have y1_ : w5.cell? ⟨gb, 1, none⟩ = some (.int .i64 lim) := (blk_cell hx5 1).trans rfl; have y2_ : w5.cell? ⟨gb, 2, none⟩ = some (.slice A3 8 c3) := (blk_cell hx5 2).trans rfl; have f0_ := blk_frozen hx5 0; have f1_ := blk_frozen hx5 1; have f2_ := blk_frozen hx5 2; have HX5 := Aside0.mk hx5; clear hb hv
          refine ⟨_, rfl, ?_⟩
          refine hK.out _ _ ?_
          clear hK K; refine norm_ (a' := ?_) ?_ ?_
          rotate_left
          · show Act.put _ (some 85) _ = _
            (simp only [Act.put, List.setIfInBounds_toArray, List.set_cons_zero, List.set_cons_succ, i64_w, i32_w]; rfl)
          refine last_ (i := 6) (N := none) #[true, true, true, true, true, true, true] rfl rfl (by kernel_rfl) (by decide) (fun K hK => ?_)
          refine skip_ (w1 := ((w5.setCell ⟨gb, 0, none⟩ (.int .i64 me)).setCell ⟨gb, 1, none⟩ (.int .i64 lim)).setCell ⟨gb, 2, none⟩ (.slice A5 8 c5)) (by rfl) rfl (by first | (go_simp; done) | (go_simp; rfl)) ?_
          refine hK.out _ _ ?_
          clear hK K; refine done_ (by kernel_rfl) ?_
          have HSZ := Aside0.mk hHeld.size
          have HXs := Aside0.mk (put3 (x := .int .i64 me) (y := .int .i64 lim) (z := .slice A5 8 c5) HX5.out)
          have HWs := Aside0.mk ((HW.out.below HB5.out).kept (w' := ((w5.setCell ⟨gb, 0, none⟩ (.int .i64 me)).setCell ⟨gb, 1, none⟩ (.int .i64 lim)).setCell ⟨gb, 2, none⟩ (.slice A5 8 c5)) (fun k hk _ => set3_heap (fun (e : k = gb) => HX.out.2.1 (e ▸ hk)) _ _ _))
          have HFs := Aside0.mk (show Kd.F (Kd.int .i64) (((w5.setCell ⟨gb, 0, none⟩ (.int .i64 me)).setCell ⟨gb, 1, none⟩ (.int .i64 lim)).setCell ⟨gb, 2, none⟩ (.slice A5 8 c5)) (fun k => ¬ G k ∧ k ≠ gb) A5 8 Q' from
            Kd.F_mono (Kd.F_step HV5.out (fun k (hk : _ ≤ k) _ => set3_heap (fun (e : k = gb) => by have := blk_lt HX.out.1; have := HSZ.out; omega) _ _ _)) (fun k (hk : _ ≤ k) => ⟨fun q => by have := (HG.out k q).2; have := HSZ.out; omega, fun e => by have := blk_lt HX.out.1; have := HSZ.out; omega⟩))
          have HBs := Aside0.mk (Below.set3 (B := w.heap.size) (below_step HB.out HB5.out) HX.out.2.2.1 (.int .i64 me) (.int .i64 lim) (.slice A5 8 c5))
          have HGs := Aside0.mk (show ∀ k, G k → w.heap.size ≤ k ∧ k < (((w5.setCell ⟨gb, 0, none⟩ (.int .i64 me)).setCell ⟨gb, 1, none⟩ (.int .i64 lim)).setCell ⟨gb, 2, none⟩ (.slice A5 8 c5)).heap.size from fun k hk => ⟨(HG.out k hk).1, Nat.lt_of_lt_of_le (Nat.lt_of_lt_of_le (HG.out k hk).2 HB5.out.size) (set3_size w5 gb _ _ _)⟩)
          generalize ((w5.setCell ⟨gb, 0, none⟩ (.int .i64 me)).setCell ⟨gb, 1, none⟩ (.int .i64 lim)).setCell ⟨gb, 2, none⟩ (.slice A5 8 c5) = Vs at HXs HWs HFs HBs HGs ⊢
          clear y0_ y1_ y2_ f0_ f1_ f2_; clear HHr HCq X0 X1 X2 hHeld; have hyV : Vs.cell? (ad.add i) = some (.int .i64 x) := pw_cell_below HBs.out HY0.out
          go_wp2_with (go_at_call 25; go_loud (refine (HRh.out _ HWs.out).mono ?_; rintro e w7 ⟨rfl, hw, hn⟩; have HW7 := Aside0.mk hw; have HN7 := Aside0.mk hn; clear hw hn))
          go_meet
          case rel => exact ⟨Q', hearF now hs x, now, G, A5, c5, ⟨HT2.out, by have := HTS.out.2; omega, by have := HTS.out.2; omega⟩, HW7, ⟨fun k hk => ⟨(HGs.out k hk).1, Nat.lt_of_lt_of_le (HGs.out k hk).2 HN7.out.1.size⟩⟩, ⟨(HN7.out.2.2 gb (blk_lt HXs.out) HX.out.2.1).trans HXs.out, HX.out.2.1, HX.out.2.2.1, HC5.out⟩, ⟨F_near HFs.out HN7.out⟩, ⟨HBs.out.trans (HN7.out.toBelow (fun k hk => (HG.out k hk).1) HBs.out.size)⟩⟩
      case rest =>
        obtain ⟨Q, hs, now, G, A3, c3, HTS, HW, HG, HX, HF, HB⟩ := hcut; have hx0 := HX.out.1; have c0_ : wc.cell? ⟨gb, 0, none⟩ = some (.int .i64 me) := (blk_cell hx0 0).trans rfl
        have c1_ : wc.cell? ⟨gb, 1, none⟩ = some (.int .i64 lim) := (blk_cell hx0 1).trans rfl
        have c2_ : wc.cell? ⟨gb, 2, none⟩ = some (.slice A3 8 c3) := (blk_cell hx0 2).trans rfl
        have hQ8 := HTS.out.1.2.2.1; have HCq := Aside0.mk (Kd.F_now HF.out)
        have HTh := Aside0.mk (fun (W : World) (h : Kd.C (Kd.int .i64) W A3 Q.length Q) => watch_There.calls me lim A3 c3 Q (thereL lim Q) W h (by have := HX.out.2.2.2; omega) (if_pos (by omega)))
        have HRt := Aside0.mk (fun (W : World) (h : W9 W gq G me lim now hs) => gemotref9_Watch_There.calls gq G me lim now hs W h HTS.out.1.2.1)
        have hle := thereN_len lim (quietF me lim now hs) 8
        rw [HTS.out.1.there] at HTh
        generalize thereN lim (quietF me lim now hs) 8 = L at HTh HRt hle
        rw [hQ8] at HTh
        have HSm := Aside0.mk (fun (W : World) (A4 : Option Addr) (c4 : Nat) (A5 : Option Addr) (c5 : Nat) (h1 : Kd.C (Kd.int .i64) W A4 L.length L) (h2 : L.length ≤ c4) (h3 : Kd.C (Kd.int .i64) W A5 L.length L) (h4 : L.length ≤ c5) => gemotlaw9_same.calls (L.length + 1) A4 c4 L A5 c5 L true W h1 h2 h3 h4 (same_self L (by omega)))
        have n0 : (me != me) = false := bne_self_eq_false me
        have n1 : (lim != lim) = false := bne_self_eq_false lim
        clear hx0 hQ8 hle HY HY0 hbx hy
        go_upto_region 20 with (first
          | (go_at_call 27; go_loud (refine (HTh.out _ HCq.out).mono ?_; rintro e w3 ⟨v3, rfl, ho, hb⟩; obtain ⟨A4, c4, rfl⟩ := Kd.R_slice ho; have HO4 := Aside0.mk (Kd.R_reads' ho).2; have HB3 := Aside0.mk hb; clear ho hb))
          | (go_at_call 28; go_loud (refine (HRt.out _ (HW.out.below HB3.out)).mono ?_; rintro e w4 ⟨v4, rfl, ho, hb⟩; obtain ⟨A5, c5, rfl⟩ := Kd.R_slice ho; have HO5 := Aside0.mk (Kd.R_reads' ho).2; have HB4 := Aside0.mk (below_step HB3.out hb); have HO4b := Aside0.mk (Kd.C_below HO4.out.2 hb); clear ho hb))
          | (go_at_call 26; go_loud (refine (HSm.out _ A4 c4 A5 c5 HO4b.out HO4.out.1 HO5.out.2 HO5.out.1).mono ?_; rintro e wS ⟨rfl, hd⟩; have HBS := Aside0.mk (below_step HB4.out (show Below w4.heap.size w4 wS by obtain ⟨nd, rfl⟩ := hd; exact pw_below_drewN (Below.refl _ _) nd)); clear hd)))
        have HWS := Aside0.mk (HW.out.below HBS.out)
        have HXS := Aside0.mk (blk_below HX.out.1 HBS.out)
        have HFS := Aside0.mk (Kd.F_below HF.out HBS.out)
        have HBw := Aside0.mk (below_step HB.out HBS.out)
        have HGS := Aside0.mk (show ∀ k, G k → w.heap.size ≤ k ∧ k < wS.heap.size from fun k hk => ⟨(HG.out k hk).1, Nat.lt_of_lt_of_le (HG.out k hk).2 HBS.out.size⟩)
        clear HW HF HB HG HB3 HB4 HBS HO4 HO4b HO5 HTh HRt HSm n0 n1 HCq; go_wp2; go_loopg [13] 8 (fun kq v13 w' => ∃ (n : Nat), v13 = .int .i64 ((n : Int) + 1) ∧ Aside0 (n + kq = 8) ∧ Aside0 (Below wS.heap.size wS w'))
        case atStart => exact ⟨0, rfl, ⟨Nat.zero_add _⟩, ⟨Below.refl _ _⟩⟩
        case round =>
          obtain ⟨n, rfl, HN, HBr⟩ := hrel; by_cases c8 : n < 8
          · obtain ⟨k2, rfl⟩ : ∃ k2, gk = k2 + 1 := ⟨gk - 1, by have := HN.out; omega⟩
            have cb : decide ((n : Int) + 1 ≤ 8) = true := decide_eq_true (by omega)
            have hw2 : IntKind.i64.wrap ((n : Int) + 1 + 1) = ((n + 1 : Nat) : Int) + 1 := by rw [i64_w]; unfold wrap64; omega
            have hw3 : IntKind.i64.wrap (n : Int) = (n : Int) := by rw [i64_w]; unfold wrap64; omega
            have hw4 : IntKind.i64.wrap ((n : Int) + 1 - 1) = (n : Int) := by rw [i64_w]; unfold wrap64; omega
            obtain ⟨vq, g1, g2, g3⟩ := (HWS.out.below HBr.out)
            obtain ⟨Aq, cq, rfl⟩ := Kd.R_slice g3; have HQ := fun (W : World) (hb : Below wr.heap.size wr W) => gemotref9_Watch_Quiet.calls gq me lim now ((n : Int) + 1) Aq cq hs W (blk_below g1 hb) (Kd.C_below (Kd.R_reads' g3).2.2 hb) (by omega) (by omega) HTS.out.1.2.1
            have hx1 := blk_below HXS.out HBr.out
            obtain ⟨ad3, e3, hyq⟩ := Kd.at_int (Kd.F_now (Kd.F_below HFS.out HBr.out)) (n : Int) (by omega) (by omega)
            simp only [Int.toNat_natCast] at hyq; rw [HTS.out.1.2.2.2 n c8] at hyq
            generalize quietF me lim now hs ((n : Int) + 1) = y at HQ hyq
            have ny : (y != y) = false := bne_self_eq_false y
            have XB2 := Aside0.mk (show wr.cell? ⟨gb, 2, none⟩ = some (.slice A3 8 c3) from (blk_cell hx1 2).trans rfl)
            subst e3; have HYq := Aside0.mk hyq
            have HQ := Aside0.mk HQ
            have p0 := eq_true (show (n : Int) < 8 by omega)
            have p1 := eq_true (show n < 8 by omega)
            clear g1 g2 g3 hx1 hyq; go_upto_region 23 with (fail)
            refine start_ (n := 10) (S := fun w' => Below wr.heap.size wr w') (ds := []) #[false, false, false, false, false, false, false, false, false, false] (by kernel_rfl) rfl rfl (below_drew1 (Below.refl _ _)) (fun hHeld => ?_)
            generalize hWd : wr.drew = Wd at hHeld ⊢
            clear hWd; refine pure_ (i := 0) (N := some 120) (v := ?_) (a' := ?_) #[true, false, false, false, false, false, false, false, false, false] rfl rfl (by kernel_rfl) (fun _ _ _ h => h) (Or.inl ⟨by rfl, ?_⟩) ?_ ?_
            rotate_left
            · intro w'; go_simp; with_reducible rfl
            rotate_left; · (simp only [Act.put, List.setIfInBounds_toArray, List.set_cons_zero, List.set_cons_succ, i64_w, i32_w]; rfl)
            refine take_ (i := 1) (N := some 121) (v := ?_) (a' := ?_) #[true, true, false, false, false, false, false, false, false, false] rfl rfl (by kernel_rfl) (fun _ _ _ h => h) (Or.inl ⟨by rfl, ?_⟩) hHeld ?_ ?_
            rotate_left
            · intro w' hs_; have s0_ := pw_cell_below hs_ XB2.out; clear hs_; go_simp; with_reducible rfl
            rotate_left; · (simp only [Act.put, List.setIfInBounds_toArray, List.set_cons_zero, List.set_cons_succ, i64_w, i32_w]; rfl)
            refine pure_ (i := 2) (N := some 122) (v := ?_) (a' := ?_) #[true, true, true, false, false, false, false, false, false, false] rfl rfl (by kernel_rfl) (fun _ _ _ h => h) (Or.inl ⟨by rfl, ?_⟩) ?_ ?_
            rotate_left
            · intro w'; go_simp; with_reducible rfl
            rotate_left; · (simp only [Act.put, List.setIfInBounds_toArray, List.set_cons_zero, List.set_cons_succ, i64_w, i32_w]; rfl)
            refine pure_ (i := 3) (N := some 123) (v := ?_) (a' := ?_) #[true, true, true, true, false, false, false, false, false, false] rfl rfl (by kernel_rfl) (fun _ _ _ h => h) (Or.inl ⟨by rfl, ?_⟩) ?_ ?_
            rotate_left
            · intro w'; go_simp; with_reducible rfl
            rotate_left; · (simp only [Act.put, List.setIfInBounds_toArray, List.set_cons_zero, List.set_cons_succ, i64_w, i32_w]; rfl)
            refine pure_ (i := 4) (N := some 124) (v := ?_) (a' := ?_) #[true, true, true, true, true, false, false, false, false, false] rfl rfl (by kernel_rfl) (fun _ _ _ h => h) (Or.inl ⟨by rfl, ?_⟩) ?_ ?_
            rotate_left
            · intro w'; go_simp; with_reducible rfl
            rotate_left; · (simp only [Act.put, List.setIfInBounds_toArray, List.set_cons_zero, List.set_cons_succ, i64_w, i32_w]; rfl)
            refine take_ (i := 5) (N := some 125) (v := ?_) (a' := ?_) #[true, true, true, true, true, true, false, false, false, false] rfl rfl (by kernel_rfl) (fun _ _ _ h => h) (Or.inl ⟨by rfl, ?_⟩) hHeld ?_ ?_
            rotate_left
            · intro w' hs_; have s0_ := pw_cell_below hs_ HYq.out; clear hs_; go_simp; with_reducible rfl
            rotate_left; · (simp only [Act.put, List.setIfInBounds_toArray, List.set_cons_zero, List.set_cons_succ, i64_w, i32_w]; rfl)
            refine pure_ (i := 6) (N := some 126) (v := ?_) (a' := ?_) #[true, true, true, true, true, true, true, false, false, false] rfl rfl (by kernel_rfl) (fun _ _ _ h => h) (Or.inl ⟨by rfl, ?_⟩) ?_ ?_
            rotate_left
            · intro w'; go_simp; with_reducible rfl
            rotate_left; · (simp only [Act.put, List.setIfInBounds_toArray, List.set_cons_zero, List.set_cons_succ, i64_w, i32_w]; rfl)
            refine pure_ (i := 7) (N := some 127) (v := ?_) (a' := ?_) #[true, true, true, true, true, true, true, true, false, false] rfl rfl (by kernel_rfl) (fun _ _ _ h => h) (Or.inl ⟨by rfl, ?_⟩) ?_ ?_
            rotate_left
            · intro w'; go_simp; with_reducible rfl
            rotate_left; · (simp only [Act.put, List.setIfInBounds_toArray, List.set_cons_zero, List.set_cons_succ, i64_w, i32_w]; rfl)
            refine one_ (i := 8) (N := some 128) #[true, true, true, true, true, true, true, true, true, false] rfl rfl (by kernel_rfl) (by decide) (fun K hK => ?_)
            refine goes_ Try.func29 (by kernel_rfl) rfl #[.pointer (some ⟨gq, 0, none⟩), .int .i64 ((n : Int) + 1)] (by rfl) rfl rfl (by (try simp only [List.map_toArray, List.map_cons, List.map_nil]); first | done | rfl) ?_
            with_reducible refine (HQ.out _ hHeld).mono ?_
            rintro e w' ⟨rfl, ⟨nd_, rfl⟩⟩; refine ⟨_, rfl, ?_⟩
            refine hK.out _ _ (pw_below_drewN hHeld nd_) (fun hHeld => ?_)
            clear hK K; refine norm_ (a' := ?_) ?_ ?_
            rotate_left
            · show Act.put _ (some 128) _ = _
              (simp only [Act.put, List.setIfInBounds_toArray, List.set_cons_zero, List.set_cons_succ, i64_w, i32_w]; rfl)
            refine pure_ (i := 9) (N := some 129) (v := ?_) (a' := ?_) #[true, true, true, true, true, true, true, true, true, true] rfl rfl (by kernel_rfl) (fun _ _ _ h => h) (Or.inl ⟨by rfl, ?_⟩) ?_ ?_
            rotate_left
            · intro w'; go_simp; with_reducible rfl
            rotate_left; · (simp only [Act.put, List.setIfInBounds_toArray, List.set_cons_zero, List.set_cons_succ, i64_w, i32_w]; rfl)
            refine done_ (by kernel_rfl) ?_
            go_wp2; go_roundg k2
            case measure => omega
            case rel => exact ⟨n + 1, rfl, ⟨by have := HN.out; omega⟩, ⟨below_step HBr.out hHeld⟩⟩
          · have hn : n = 8 := by have := HN.out; omega
            subst hn; have cb : decide (((8 : Nat) : Int) + 1 ≤ 8) = false := by decide
            clear c8; go_wp2; go_roundg k1
            case measure => omega
            case rel => exact ⟨i + 1, Q, hs, now, G, A3, c3, rfl, ⟨by have := HK.out; omega⟩, ⟨HTS.out.1, HTS.out.2.1, by have := HTS.out.2.2; omega⟩, ⟨HWS.out.below HBr.out⟩, ⟨fun k hk => ⟨(HGS.out k hk).1, Nat.lt_of_lt_of_le (HGS.out k hk).2 HBr.out.size⟩⟩, ⟨blk_below HXS.out HBr.out, HX.out.2⟩, ⟨Kd.F_below HFS.out HBr.out⟩, ⟨below_step HBw.out HBr.out⟩⟩
    · have cb : decide ((i : Int) < (l2.length : Int)) = false := decide_eq_false (by omega)
      have cb2 : decide (i < l2.length) = false := decide_eq_false ci
      clear ci; go_wp2; go_ret
      exact ⟨rfl, HB.out⟩
def gemotlaw9_WatchTells.f (a0 a1 : Int) (l2 : List Int) : Option (Bool) := some true
theorem gemotlaw9_WatchTells.calls (a0 a1 : Int) (A2 : Option Addr) (c2 : Nat) (l2 : List Int) (r : Bool) (w : World) (hr2 : Kd.C (Kd.int .i64) w A2 l2.length l2) (hc2 : l2.length ≤ c2) (h : gemotlaw9_WatchTells.f a0 a1 l2 = some r) :
    Calls Try.prog 3 #[.int .i64 a0, .int .i64 a1, .slice A2 l2.length c2] w fun e w' => e = .returned (.bool r) ∧ Below w.heap.size w w' := by
  cases h
  by_cases hl : l2.length ≤ 100
  · by_cases hk : newOk a0 a1
    · exact gemotlaw9_WatchTells.good a0 a1 A2 c2 l2 w hr2 hl hk
    · exact gemotlaw9_WatchTells.bad a0 a1 A2 c2 l2 w hl hk
  · exact gemotlaw9_WatchTells.long a0 a1 A2 c2 l2 w (by omega)

end Go.Proofs.Ytppimpadfgldjaa.F
