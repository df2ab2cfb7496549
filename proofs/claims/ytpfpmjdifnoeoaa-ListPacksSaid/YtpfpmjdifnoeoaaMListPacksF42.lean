import Derived.Test.YtpfpmjdifnoeoaaMListPacksF0
namespace Go.Proofs.Ytpfpmjdifnoeoaa.F
open Go.RowKit Go.Proofs.YtpfpmjdifnoeoaaW.PrintWords Go.Proofs.YtpfpmjdifnoeoaaW.PrintLast Go.Proofs.YtpfpmjdifnoeoaaW.PrintMore
attribute [local go_sem] max2_int min2_int max_two min_two max_three min_three max_four min_four
set_option linter.unusedVariables false
set_option linter.unusedSimpArgs false
def gemotlaw4_short_p.l0 : Nat → Int → Int → Int → Int → Int → Int → Int → Int → List Int → List ByteArray → Option (Bool)
  | 0, _, _, _, _, _, _, _, _, _, _ => none
  | k + 1, x3, x4, x1002000, x1002001, x1002002, x1002003, x1002004, x1002005, x1002006, x1002007 => if x4 < (x1002007.length : Int) then (if 0 ≤ x4 then (gemotlaw4_short_p.l0 k (wrap64 (x3 + ((rdOf ByteArray.empty x1002007 x4).size : Int))) (wrap64 (x4 + 1)) x1002000 x1002001 x1002002 x1002003 x1002004 x1002005 x1002006 x1002007) else (none)) else (if (x1002006.length : Int) < 20 then (if (x1002007.length : Int) < 200 then (some (decide (x3 < 30000))) else (some false)) else (some false))
def gemotlaw4_short_p.f (k : Nat) (a0_0 : Int) (a0_1 : Int) (a0_2 : Int) (a0_3 : Int) (a0_4 : Int) (a0_5 : Int) (l0_6 : List Int) (l0_7 : List ByteArray) : Option (Bool) := gemotlaw4_short_p.l0 k 0 0 a0_0 a0_1 a0_2 a0_3 a0_4 a0_5 l0_6 l0_7
set_option maxHeartbeats 8000000 in
set_option maxRecDepth 100000 in
theorem gemotlaw4_short_p.calls (k : Nat) (a0_0 : Int) (a0_1 : Int) (a0_2 : Int) (a0_3 : Int) (a0_4 : Int) (a0_5 : Int) (A0_6 : Option Addr) (c0_6 : Nat) (l0_6 : List Int) (A0_7 : Option Addr) (c0_7 : Nat) (l0_7 : List ByteArray) (r : Bool) (w : World) (hr0_6 : Kd.C (Kd.int .i64) w A0_6 l0_6.length l0_6) (hc0_6 : l0_6.length ≤ c0_6) (hr0_7 : Kd.C Kd.string w A0_7 l0_7.length l0_7) (hc0_7 : l0_7.length ≤ c0_7) (h : gemotlaw4_short_p.f k a0_0 a0_1 a0_2 a0_3 a0_4 a0_5 l0_6 l0_7 = some r) :
    Calls Try.prog 42 #[.agg #[.int .i64 a0_0, .int .i64 a0_1, .int .i64 a0_2, .int .i64 a0_3, .int .i64 a0_4, .int .i64 a0_5, .slice A0_6 l0_6.length c0_6, .slice A0_7 l0_7.length c0_7]] w fun e w' => e = .returned (.bool r) ∧ Below w.heap.size w w' := by
  have hu39 := Try.underlying39; have HR0_6 := Aside0.mk hr0_6
  have HC0_6 := Aside0.mk hc0_6
  clear hr0_6 hc0_6; have HR0_7 := Aside0.mk hr0_7
  have HC0_7 := Aside0.mk hc0_7
  clear hr0_7 hc0_7; have HB := Aside0.mk (Below.refl w.heap.size w)
  have H : (gemotlaw4_short_p.l0 k 0 0 a0_0 a0_1 a0_2 a0_3 a0_4 a0_5 l0_6 l0_7) = some r := h
  clear h; have H' := Aside0.mk H
  clear H; go_enter Try.func42, Try.ntmps42
  go_wp2_with (first | ((with_reducible refine gate_dst (N := 1) rfl ?_); refine box_event ?hg (N := 1) ?hd (cs := #[.int .i64 a0_0, .int .i64 a0_1, .int .i64 a0_2, .int .i64 a0_3, .int .i64 a0_4, .int .i64 a0_5, .slice A0_6 l0_6.length c0_6, .slice A0_7 l0_7.length c0_7]) (t := 39) ?hr ?_; (case hd => rfl); (case hg => rfl); (case hr => first | (go_simp; done) | (go_simp; rfl)); intro gb1001 hg w2 hbox hb; have n0_ := Aside0.mk (below_step (by repeat with_reducible first | exact HB.out | apply below_alloc | apply pw_below_drewN | apply below_drew1) hb); have n1_ := Aside0.mk (hbox); have n2_ := Aside0.mk ((by rw [hg]; exact (below_size (by repeat with_reducible first | exact HB.out | apply below_alloc | apply pw_below_drewN | apply below_drew1)) : w.heap.size ≤ gb1001)); have n3_ := Aside0.mk ((by rw [hg]; exact (below_size (by repeat with_reducible first | exact HB.out | apply below_alloc | apply pw_below_drewN | apply below_drew1)) : w.heap.size ≤ gb1001)); clear HB; have HB := n0_; have BK1001 := n1_; have GW1001 := n2_; have GE1001 := n3_; clear n0_ n1_ n2_ n3_; clear hb hbox hg))
  go_loopg [3, 4] k (fun kq v3 v4 w' => ∃ (x3_1 : Int) (x4_1 : Int), v3 = .int .i64 x3_1 ∧ v4 = .int .i64 x4_1 ∧ Aside0 (gemotlaw4_short_p.l0 kq x3_1 x4_1 a0_0 a0_1 a0_2 a0_3 a0_4 a0_5 l0_6 l0_7 = some r) ∧ Aside0 (kq ≤ k) ∧ Aside0 (w'.heap[gb1001]? = some (.cells #[.int .i64 a0_0, .int .i64 a0_1, .int .i64 a0_2, .int .i64 a0_3, .int .i64 a0_4, .int .i64 a0_5, (.slice A0_6 l0_6.length c0_6), (.slice A0_7 l0_7.length c0_7)] 39 (0, 0))) ∧ Aside0 (Below w.heap.size w w'))
  case atStart => exact ⟨(0), (0), (by first | rfl | (simp; done) | (simp [*]; done)), (by first | rfl | (simp; done) | (simp [*]; done)), H', ⟨Nat.le_refl _⟩, ⟨by (with_reducible repeat (first | refine blk_drewN ?_ _ | refine blk_drew ?_ | refine blk_alloc ?_ _)); exact BK1001.out⟩, ⟨by repeat (first | (with_reducible first | exact HB.out | apply below_alloc | apply pw_below_drewN | apply below_drew1 | refine below_set ?_ GE1001.out) | exact HB.out)⟩⟩
  case round =>
    clear H'; try clear p2
    obtain ⟨x3_1, x4_1, rfl, rfl, HA, HK1, BK1001, HB⟩ := hrel; cases gk with
    | zero => exact absurd HA.out (by simp [gemotlaw4_short_p.l0])
    | succ k1 =>
      have H := HA.out; clear HA; simp only [gemotlaw4_short_p.l0] at H; by_cases c3 : x4_1 < (l0_7.length : Int)
      · rw [if_pos c3] at H
        have c3b0 : decide (x4_1 < (l0_7.length : Int)) = true := decide_eq_true c3
        clear c3; by_cases c4 : 0 ≤ x4_1
        · rw [if_pos c4] at H
          have c4b0 : decide (0 ≤ x4_1) = true := decide_eq_true c4
          clear c4; have H' := Aside0.mk H
          clear H; obtain ⟨hcz5_0, hcz5_1, hcz5_2, hcz5_3, hcz5_4, hcz5_5, hcz5_6, hcz5_7, hfz5_0, hfz5_1, hfz5_2, hfz5_3, hfz5_4, hfz5_5, hfz5_6, hfz5_7⟩ := blk8 BK1001.out; have p1002 : 0 ≤ (x4_1 : Int) := of_decide_eq_true (by first | (with_reducible assumption) | assumption)
          have q1002 : x4_1 < (l0_7.length : Int) := of_decide_eq_true (by first | (with_reducible assumption) | assumption)
          obtain ⟨ad1002, e1002, hx1002_0⟩ := Kd.at_string HR0_7.out x4_1 p1002 q1002
          cases e1002
          replace hx1002_0 := (HB.out.cell (World.block_lt_of_cell? w _ hx1002_0)).trans hx1002_0
          replace p1002 := eq_true p1002
          replace q1002 := eq_true q1002
          go_wp2; go_roundg k1
          case measure => have := HK1.out; omega
          case rel => exact ⟨(wrap64 (x3_1 + ((rdOf ByteArray.empty l0_7 x4_1).size : Int))), (wrap64 (x4_1 + 1)), (by first | rfl | (simp; done) | (simp [*]; done)), (by first | rfl | (simp; done) | (simp [*]; done)), H', ⟨by have := HK1.out; omega⟩, ⟨by (with_reducible repeat (first | refine blk_drewN ?_ _ | refine blk_drew ?_ | refine blk_alloc ?_ _)); exact BK1001.out⟩, ⟨by repeat (first | (with_reducible first | exact HB.out | apply below_alloc | apply pw_below_drewN | apply below_drew1 | refine below_set ?_ GE1001.out) | exact HB.out)⟩⟩
        · rw [if_neg c4] at H
          exact absurd H (by simp)
      · rw [if_neg c3] at H
        have c3b0 : decide (x4_1 < (l0_7.length : Int)) = false := decide_eq_false c3
        clear c3; by_cases c6 : (l0_6.length : Int) < 20
        · rw [if_pos c6] at H
          have c6b0 : decide ((l0_6.length : Int) < 20) = true := decide_eq_true c6
          have c6b1 : decide (l0_6.length < 20) = true := decide_eq_true (by omega)
          clear c6; by_cases c7 : (l0_7.length : Int) < 200
          · rw [if_pos c7] at H
            have c7b0 : decide ((l0_7.length : Int) < 200) = true := decide_eq_true c7
            have c7b1 : decide (l0_7.length < 200) = true := decide_eq_true (by omega)
            clear c7; obtain rfl := Option.some.inj H
            obtain ⟨hcz8_0, hcz8_1, hcz8_2, hcz8_3, hcz8_4, hcz8_5, hcz8_6, hcz8_7, hfz8_0, hfz8_1, hfz8_2, hfz8_3, hfz8_4, hfz8_5, hfz8_6, hfz8_7⟩ := blk8 BK1001.out; go_wp2; go_ret
            exact ⟨by first | rfl | (simp [errW_none, errW_some] <;> rfl) | (simp [*, errW_none, errW_some] <;> rfl), by repeat (first | (with_reducible first | exact HB.out | apply below_alloc | apply pw_below_drewN | apply below_drew1 | refine below_set ?_ GE1001.out) | exact HB.out)⟩
          · rw [if_neg c7] at H
            have c7b0 : decide ((l0_7.length : Int) < 200) = false := decide_eq_false c7
            have c7b1 : decide (l0_7.length < 200) = false := decide_eq_false (by omega)
            clear c7; obtain rfl := Option.some.inj H
            obtain ⟨hcz9_0, hcz9_1, hcz9_2, hcz9_3, hcz9_4, hcz9_5, hcz9_6, hcz9_7, hfz9_0, hfz9_1, hfz9_2, hfz9_3, hfz9_4, hfz9_5, hfz9_6, hfz9_7⟩ := blk8 BK1001.out; go_wp2; go_ret
            exact ⟨by first | rfl | (simp [errW_none, errW_some] <;> rfl) | (simp [*, errW_none, errW_some] <;> rfl), by repeat (first | (with_reducible first | exact HB.out | apply below_alloc | apply pw_below_drewN | apply below_drew1 | refine below_set ?_ GE1001.out) | exact HB.out)⟩
        · rw [if_neg c6] at H
          have c6b0 : decide ((l0_6.length : Int) < 20) = false := decide_eq_false c6
          have c6b1 : decide (l0_6.length < 20) = false := decide_eq_false (by omega)
          clear c6; obtain rfl := Option.some.inj H
          obtain ⟨hcz10_0, hcz10_1, hcz10_2, hcz10_3, hcz10_4, hcz10_5, hcz10_6, hcz10_7, hfz10_0, hfz10_1, hfz10_2, hfz10_3, hfz10_4, hfz10_5, hfz10_6, hfz10_7⟩ := blk8 BK1001.out; go_wp2; go_ret
          exact ⟨by first | rfl | (simp [errW_none, errW_some] <;> rfl) | (simp [*, errW_none, errW_some] <;> rfl), by repeat (first | (with_reducible first | exact HB.out | apply below_alloc | apply pw_below_drewN | apply below_drew1 | refine below_set ?_ GE1001.out) | exact HB.out)⟩
def wsum : Int → List ByteArray → Int
  | n, [] => n
  | n, x :: l => wsum (wrap64 (n + x.size)) l
def shortB (ms : List Int) (ts : List ByteArray) : Bool := decide (ms.length < 20 ∧ ts.length < 200 ∧ wsum 0 ts < 30000)
def gemotlaw4_short.f (a0_0 a0_1 a0_2 a0_3 a0_4 a0_5 : Int) (l0_6 : List Int) (l0_7 : List ByteArray) : Option Bool := if l0_7.length ≤ 9223372036854775807 then some (shortB l0_6 l0_7) else none
theorem gemotlaw4_short.loop (x0 x1 x2 x3 x4 x5 : Int) (ms : List Int) (ts : List ByteArray) (ht : ts.length ≤ 9223372036854775807) : ∀ (d k i : Nat) (n : Int), i + d = ts.length → d < k →
    gemotlaw4_short_p.l0 k n i x0 x1 x2 x3 x4 x5 ms ts = some (decide (ms.length < 20 ∧ ts.length < 200 ∧ wsum n (ts.drop i) < 30000)) := by
  intro d; induction d with
  | zero =>
    intro k i n hi hk; obtain ⟨k, rfl⟩ : ∃ m, k = m + 1 := ⟨k - 1, by omega⟩
    simp only [gemotlaw4_short_p.l0]; rw [if_neg (by omega), List.drop_of_length_le (by omega), wsum]
    by_cases c1 : (ms.length : Int) < 20
    · rw [if_pos c1]
      by_cases c2 : (ts.length : Int) < 200
      · rw [if_pos c2]
        exact congrArg some (decide_eq_decide.mpr (by omega))
      · rw [if_neg c2, decide_eq_false (by omega)]
    · rw [if_neg c1, decide_eq_false (by omega)]
  | succ d ih =>
    intro k i n hi hk; obtain ⟨k, rfl⟩ : ∃ m, k = m + 1 := ⟨k - 1, by omega⟩
    have hlt : i < ts.length := by omega
    have hd : ts.drop i = rdOf ByteArray.empty ts i :: ts.drop (i + 1) := by
      rw [List.drop_eq_getElem_cons hlt]
      simp [rdOf, List.getD_eq_getElem?_getD, hlt]
    have hw : wrap64 ((i : Int) + 1) = ((i + 1 : Nat) : Int) ∨ i + 1 = 9223372036854775808 := by
      by_cases c : i + 1 = 9223372036854775808
      · exact .inr c
      · left; unfold wrap64; omega
    have hw : wrap64 ((i : Int) + 1) = ((i + 1 : Nat) : Int) := hw.resolve_right (by omega)
    simp only [gemotlaw4_short_p.l0]; rw [if_pos (by omega), if_pos (by omega), hd, wsum, hw]
    exact ih k (i + 1) _ (by omega) (by omega)
theorem gemotlaw4_short.calls (a0_0 : Int) (a0_1 : Int) (a0_2 : Int) (a0_3 : Int) (a0_4 : Int) (a0_5 : Int) (A0_6 : Option Addr) (c0_6 : Nat) (l0_6 : List Int) (A0_7 : Option Addr) (c0_7 : Nat) (l0_7 : List ByteArray) (r : Bool) (w : World) (hr0_6 : Kd.C (Kd.int .i64) w A0_6 l0_6.length l0_6) (hc0_6 : l0_6.length ≤ c0_6) (hr0_7 : Kd.C Kd.string w A0_7 l0_7.length l0_7) (hc0_7 : l0_7.length ≤ c0_7) (h : gemotlaw4_short.f a0_0 a0_1 a0_2 a0_3 a0_4 a0_5 l0_6 l0_7 = some r) :
    Calls Try.prog 42 #[.agg #[.int .i64 a0_0, .int .i64 a0_1, .int .i64 a0_2, .int .i64 a0_3, .int .i64 a0_4, .int .i64 a0_5, .slice A0_6 l0_6.length c0_6, .slice A0_7 l0_7.length c0_7]] w fun e w' => e = .returned (.bool r) ∧ Below w.heap.size w w' := by
  unfold gemotlaw4_short.f at h
  split at h
  case isFalse => cases h
  rename_i hs
  refine gemotlaw4_short_p.calls (l0_7.length + 1) a0_0 a0_1 a0_2 a0_3 a0_4 a0_5 A0_6 c0_6 l0_6 A0_7 c0_7 l0_7 r w hr0_6 hc0_6 hr0_7 hc0_7 ?_
  rw [← h]
  have := gemotlaw4_short.loop a0_0 a0_1 a0_2 a0_3 a0_4 a0_5 l0_6 l0_7 hs l0_7.length (l0_7.length + 1) 0 0 (by omega) (by omega)
  rw [List.drop_zero] at this
  exact this
end Go.Proofs.Ytpfpmjdifnoeoaa.F
