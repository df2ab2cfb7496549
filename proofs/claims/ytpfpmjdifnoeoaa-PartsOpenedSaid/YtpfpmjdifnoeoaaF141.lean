-- Laid by mk.py (a program of this session) over the seat's translation.
import Derived.Test.YtpfpmjdifnoeoaaF0
import Derived.Test.YtpfpmjdifnoeoaaF132
import Derived.Test.YtpfpmjdifnoeoaaF135
import Derived.Test.YtpfpmjdifnoeoaaF66
namespace Go.Proofs.Ytpfpmjdifnoeoaa.F
open Go.RowKit Go.Proofs.YtpfpmjdifnoeoaaW.PrintWords Go.Proofs.YtpfpmjdifnoeoaaW.PrintLast Go.Proofs.YtpfpmjdifnoeoaaW.PrintMore
attribute [local go_sem] max2_int min2_int max_two min_two max_three min_three max_four min_four
set_option linter.unusedVariables false
set_option linter.unusedSimpArgs false

/-! ### term_of: function 141 -/
/-! #### term_of_p: function 141 -/
def term_of_p.l0 : Nat → ByteArray → List ByteArray → Int → Int → Option (ByteArray × Int)
  | 0, _, _, _, _ => none
  | k + 1, x0, x8, x9, x10 => if x10 < x9 then (if 0 ≤ x10 then (if x10 < (x8.length : Int) then ((term_Right.f (rdOf ByteArray.empty x8 x10)).bind fun t361 => (if t361 = true then (if x0.size + (rdOf ByteArray.empty x8 x10).size ≤ 9223372036854775807 then (term_of_p.l0 k (x0 ++ (rdOf ByteArray.empty x8 x10)) x8 x9 (wrap64 (x10 + 1))) else (none)) else (some ((⟨#[]⟩ : ByteArray), 1)))) else (none)) else (none)) else ((term_whole.f x0).bind fun bt362 => (some (bt362.1, bt362.2)))
def term_of_p.f (k : Nat) (a0 : ByteArray) (l1 : List ByteArray) : Option (ByteArray × Int) := term_of_p.l0 k a0 l1 (l1.length : Int) 0
theorem term_of_p.mono_l : ∀ k, (∀ y0 y1 y2 y3, LeO (term_of_p.l0 k y0 y1 y2 y3) (term_of_p.l0 (k + 1) y0 y1 y2 y3))
  | 0 => fun _ _ _ _ r h => by simp [term_of_p.l0] at h
  | k + 1 => by
    have ih0 := term_of_p.mono_l k
    · intro y0 y1 y2 y3
      unfold term_of_p.l0
      repeat' first
      | (with_reducible exact ih0 _ _ _ _)
      | (with_reducible exact LeO.refl _)
      | (with_reducible exact LeO.none _)
      | (with_reducible refine LeO.ite ?_ ?_)
      | (with_reducible refine LeO.bind ?_ (fun _ => ?_))
      | exact ih0 _ _ _ _
      | exact LeO.none _
      | refine LeO.ite ?_ ?_
      | refine LeO.bind ?_ (fun _ => ?_)
theorem term_of_p.mono : ∀ a0 a1 k, LeO (term_of_p.f k a0 a1) (term_of_p.f (k + 1) a0 a1) := by
  intro a0 a1 k
  have ih0 := term_of_p.mono_l k
  unfold term_of_p.f
  repeat' first
      | (with_reducible exact ih0 _ _ _ _)
      | (with_reducible exact LeO.refl _)
      | (with_reducible exact LeO.none _)
      | (with_reducible refine LeO.ite ?_ ?_)
      | (with_reducible refine LeO.bind ?_ (fun _ => ?_))
      | exact ih0 _ _ _ _
      | exact LeO.none _
      | refine LeO.ite ?_ ?_
      | refine LeO.bind ?_ (fun _ => ?_)
set_option maxHeartbeats 8000000 in
set_option maxRecDepth 100000 in
theorem term_of_p.calls (k : Nat) (a0 : ByteArray) (A1 : Option Addr) (c1 : Nat) (l1 : List ByteArray) (r1 : ByteArray) (r2 : Int) (w : World) (hr1 : Kd.C Kd.string w A1 l1.length l1) (hc1 : l1.length ≤ c1) (h : term_of_p.f k a0 l1 = some (r1, r2)) :
    Calls Try.prog 141 #[.string a0, .slice A1 l1.length c1] w fun e w' => e = .returned (.tuple #[.string r1, .int .i64 r2]) ∧ Below w.heap.size w w' := by
  have HR1 := Aside0.mk hr1
  have HC1 := Aside0.mk hc1
  clear hr1 hc1
  have HB := Aside0.mk (Below.refl w.heap.size w)
  have H : (term_of_p.l0 k a0 l1 (l1.length : Int) 0) = some (r1, r2) := h
  clear h
  have H' := Aside0.mk H
  clear H
  go_enter Try.func141, Try.ntmps141
  go_wp2
  go_loopg [0, 10] k (fun kq v0 v10 w' => ∃ (x0_1 : ByteArray) (x10_1 : Int), v0 = .string x0_1 ∧ v10 = .int .i64 x10_1 ∧ Aside0 (term_of_p.l0 kq x0_1 l1 (l1.length : Int) x10_1 = some (r1, r2)) ∧ Aside0 (kq ≤ k) ∧ Aside0 (Below w.heap.size w w'))
  case atStart => exact ⟨(a0), (0), (by first | rfl | (simp; done) | (simp [*]; done)), (by first | rfl | (simp; done) | (simp [*]; done)), H', ⟨Nat.le_refl _⟩, ⟨by repeat (first | (with_reducible first | exact HB.out | apply below_alloc | apply pw_below_drewN | apply below_drew1) | exact HB.out)⟩⟩
  case round =>
    clear H'
    try clear c1
    try clear p2
    obtain ⟨x0_1, x10_1, rfl, rfl, HA, HK1, HB⟩ := hrel
    cases gk with
    | zero => exact absurd HA.out (by simp [term_of_p.l0])
    | succ k1 =>
      have H := HA.out
      clear HA
      simp only [term_of_p.l0] at H
      by_cases c3 : x10_1 < (l1.length : Int)
      · rw [if_pos c3] at H
        have c3b0 : decide (x10_1 < (l1.length : Int)) = true := decide_eq_true c3
        clear c3
        by_cases c4 : 0 ≤ x10_1
        · rw [if_pos c4] at H
          have c4b0 : decide (0 ≤ x10_1) = true := decide_eq_true c4
          clear c4
          by_cases c5 : x10_1 < (l1.length : Int)
          · rw [if_pos c5] at H
            have c5b0 : decide (x10_1 < (l1.length : Int)) = true := decide_eq_true c5
            clear c5
            replace H := Option.bind_eq_some_iff.mp H
            obtain ⟨t361, A60, H⟩ := H
            replace H : (if t361 = true then (if x0_1.size + (rdOf ByteArray.empty l1 x10_1).size ≤ 9223372036854775807 then (term_of_p.l0 k1 (x0_1 ++ (rdOf ByteArray.empty l1 x10_1)) l1 (l1.length : Int) (wrap64 (x10_1 + 1))) else (none)) else (some ((⟨#[]⟩ : ByteArray), 1))) = some (r1, r2) := H
            have A6 := Aside0.mk A60
            clear A60
            by_cases c7 : t361 = true
            · subst c7
              have H1 : (if x0_1.size + (rdOf ByteArray.empty l1 x10_1).size ≤ 9223372036854775807 then (term_of_p.l0 k1 (x0_1 ++ (rdOf ByteArray.empty l1 x10_1)) l1 (l1.length : Int) (wrap64 (x10_1 + 1))) else (none)) = some (r1, r2) := by rw [if_pos rfl] at H; exact H
              clear H
              have H := H1
              clear H1
              by_cases c8 : x0_1.size + (rdOf ByteArray.empty l1 x10_1).size ≤ 9223372036854775807
              · rw [if_pos c8] at H
                have c8b0 := eq_true c8
                have c8b1 : decide (x0_1.size + (rdOf ByteArray.empty l1 x10_1).size ≤ 9223372036854775807) = true := decide_eq_true c8
                try have c8b2 : (9223372036854775807 < x0_1.size + (rdOf ByteArray.empty l1 x10_1).size) = False := eq_false (Nat.not_lt.2 c8)
                have H' := Aside0.mk H
                clear H
                have p360 : 0 ≤ (x10_1 : Int) := of_decide_eq_true (by first | (with_reducible assumption) | assumption)
                have q360 : x10_1 < (l1.length : Int) := of_decide_eq_true (by first | (with_reducible assumption) | assumption)
                obtain ⟨ad360, e360, hx360_0⟩ := Kd.at_string HR1.out x10_1 p360 q360
                cases e360
                replace hx360_0 := (HB.out.cell (World.block_lt_of_cell? w _ hx360_0)).trans hx360_0
                replace p360 := eq_true p360
                replace q360 := eq_true q360
                go_wp2_with (first | ((with_reducible refine gate_callee (f := 66) rfl ?_); refine goesL_ (some 15) rfl rfl Try.func66 (by kernel_rfl) rfl #[.string (rdOf ByteArray.empty l1 x10_1)] rfl (by (try simp only [List.map_toArray, List.map_cons, List.map_nil]); first | done | rfl | (simp only [List.length_drop, List.length_take]; rfl)) ?_; (with_reducible refine (term_Right.calls (rdOf ByteArray.empty l1 x10_1) true _ A6.out).mono ?_); rintro e w9 ⟨rfl, hb⟩; refine ⟨_, rfl, ?_⟩; have n0_ := Aside0.mk (below_step (by repeat (first | (with_reducible first | exact HB.out | apply below_alloc | apply pw_below_drewN | apply below_drew1) | exact HB.out)) hb); clear HB; have HB := n0_; clear n0_; (try clear hb); (try clear hb2); (try clear hk); (try clear hi)))
                go_roundg k1
                case measure => have := HK1.out; omega
                case rel => exact ⟨(x0_1 ++ (rdOf ByteArray.empty l1 x10_1)), (wrap64 (x10_1 + 1)), (by first | rfl | (simp; done) | (simp [*]; done)), (by first | rfl | (simp; done) | (simp [*]; done)), H', ⟨by have := HK1.out; omega⟩, ⟨by repeat (first | (with_reducible first | exact HB.out | apply below_alloc | apply pw_below_drewN | apply below_drew1) | exact HB.out)⟩⟩
              · rw [if_neg c8] at H
                exact absurd H (by simp)
            · replace c7 := Bool.eq_false_iff.mpr c7
              subst c7
              have H1 : (some ((⟨#[]⟩ : ByteArray), 1)) = some (r1, r2) := by rw [if_neg (show ¬ (false = true) by decide)] at H; exact H
              clear H
              have H := H1
              clear H1
              simp only [Option.some.injEq, Prod.mk.injEq] at H
              obtain ⟨rfl, rfl⟩ := H
              have p360 : 0 ≤ (x10_1 : Int) := of_decide_eq_true (by first | (with_reducible assumption) | assumption)
              have q360 : x10_1 < (l1.length : Int) := of_decide_eq_true (by first | (with_reducible assumption) | assumption)
              obtain ⟨ad360, e360, hx360_0⟩ := Kd.at_string HR1.out x10_1 p360 q360
              cases e360
              replace hx360_0 := (HB.out.cell (World.block_lt_of_cell? w _ hx360_0)).trans hx360_0
              replace p360 := eq_true p360
              replace q360 := eq_true q360
              go_wp2_with (first | ((with_reducible refine gate_callee (f := 66) rfl ?_); refine goesL_ (some 15) rfl rfl Try.func66 (by kernel_rfl) rfl #[.string (rdOf ByteArray.empty l1 x10_1)] rfl (by (try simp only [List.map_toArray, List.map_cons, List.map_nil]); first | done | rfl | (simp only [List.length_drop, List.length_take]; rfl)) ?_; (with_reducible refine (term_Right.calls (rdOf ByteArray.empty l1 x10_1) false _ A6.out).mono ?_); rintro e w10 ⟨rfl, hb⟩; refine ⟨_, rfl, ?_⟩; have n0_ := Aside0.mk (below_step (by repeat (first | (with_reducible first | exact HB.out | apply below_alloc | apply pw_below_drewN | apply below_drew1) | exact HB.out)) hb); clear HB; have HB := n0_; clear n0_; (try clear hb); (try clear hb2); (try clear hk); (try clear hi)))
              go_ret2
              exact ⟨by first | rfl | (simp [errW_none, errW_some] <;> rfl) | (simp [*, errW_none, errW_some] <;> rfl), by repeat (first | (with_reducible first | exact HB.out | apply below_alloc | apply pw_below_drewN | apply below_drew1) | exact HB.out)⟩
          · rw [if_neg c5] at H
            exact absurd H (by simp)
        · rw [if_neg c4] at H
          exact absurd H (by simp)
      · rw [if_neg c3] at H
        have c3b0 : decide (x10_1 < (l1.length : Int)) = false := decide_eq_false c3
        clear c3
        replace H := Option.bind_eq_some_iff.mp H
        obtain ⟨⟨t362, t363⟩, A110, H⟩ := H
        replace H : (some (t362, t363)) = some (r1, r2) := H
        have A11 := Aside0.mk A110
        clear A110
        simp only [Option.some.injEq, Prod.mk.injEq] at H
        obtain ⟨rfl, rfl⟩ := H
        go_wp2_with (first | ((with_reducible refine gate_callee (f := 135) rfl ?_); refine goesL_ (some 22) rfl rfl Try.func135 (by kernel_rfl) rfl #[.string x0_1] rfl (by (try simp only [List.map_toArray, List.map_cons, List.map_nil]); first | done | rfl | (simp only [List.length_drop, List.length_take]; rfl)) ?_; (with_reducible refine (term_whole.calls x0_1 t362 t363 _ A11.out).mono ?_); rintro e w12 ⟨rfl, hb⟩; refine ⟨_, rfl, ?_⟩; have n0_ := Aside0.mk (below_step (by repeat (first | (with_reducible first | exact HB.out | apply below_alloc | apply pw_below_drewN | apply below_drew1) | exact HB.out)) hb); clear HB; have HB := n0_; clear n0_; (try clear hb); (try clear hb2); (try clear hk); (try clear hi)))
        go_ret2
        exact ⟨by first | rfl | (simp [errW_none, errW_some] <;> rfl) | (simp [*, errW_none, errW_some] <;> rfl), by repeat (first | (with_reducible first | exact HB.out | apply below_alloc | apply pw_below_drewN | apply below_drew1) | exact HB.out)⟩

/-- Parts behind a head. -/
def addF (h : ByteArray) (l : List ByteArray) : ByteArray := l.foldl (· ++ ·) h
def ofF (h : ByteArray) (l : List ByteArray) : ByteArray × Int := if l.all rightB = true then wholeF (addF h l) else (⟨#[]⟩, 1)
def term_of.f (h : ByteArray) (l : List ByteArray) : Option (ByteArray × Int) := if h.size ≤ 100 ∧ l.length ≤ 3 ∧ ∀ x ∈ l, x.size < 9223372036854775000 then some (ofF h l) else none
theorem term_of.loop (l : List ByteArray) (hl : l.length ≤ 3) (hx : ∀ x ∈ l, x.size < 9223372036854775000) : ∀ (d k i : Nat) (h : ByteArray), i + d = l.length → d < k → h.size ≤ 100 + i * 20000 →
    term_of_p.l0 k h l (l.length : Int) i = some (ofF h (l.drop i))
  | d, 0, _, _, _, hk, _ => by omega
  | 0, k + 1, i, h, hi, _, _ => by
    simp only [term_of_p.l0]
    rw [if_neg (by omega), List.drop_eq_nil_of_le (by omega)]
    unfold term_whole.f
    rfl
  | d + 1, k + 1, i, h, hi, hk, hs => by
    simp only [term_of_p.l0]
    have hil : i < l.length := by omega
    have e : rdOf ByteArray.empty l (i : Int) = l[i] := by simp [rdOf, List.getD_eq_getElem?_getD, hil]
    rw [if_pos (by omega), if_pos (by omega), if_pos (by omega), e, List.drop_eq_getElem_cons hil]
    unfold term_Right.f
    rw [if_pos (hx _ (List.getElem_mem hil))]
    simp only [Option.bind_some]
    unfold ofF
    rw [List.all_cons]
    by_cases c : rightB l[i] = true
    · have := right_pos c
      rw [if_pos c, if_pos (by omega), show wrap64 ((i : Int) + 1) = ((i + 1 : Nat) : Int) by unfold wrap64; omega, term_of.loop l hl hx d k (i + 1) _ (by omega) (by omega) (by rw [ByteArray.size_append]; omega), c]
      rfl
    · have c' : rightB l[i] = false := by simpa using c
      rw [if_neg c, c']
      rfl
theorem term_of.eq (h : ByteArray) (l : List ByteArray) (r : ByteArray × Int) (e : term_of.f h l = some r) : term_of_p.f 5 h l = some r := by
  unfold term_of.f at e
  split at e
  case isFalse => cases e
  rename_i hs
  rw [← e]
  unfold term_of_p.f
  have := term_of.loop l hs.2.1 hs.2.2 l.length 5 0 h (by omega) (by omega) (by omega)
  rwa [List.drop_zero] at this
theorem term_of.calls (a0 : ByteArray) (A1 : Option Addr) (c1 : Nat) (l1 : List ByteArray) (r1 : ByteArray) (r2 : Int) (w : World) (hr1 : Kd.C Kd.string w A1 l1.length l1) (hc1 : l1.length ≤ c1) (h : term_of.f a0 l1 = some (r1, r2)) :
    Calls Try.prog 141 #[.string a0, .slice A1 l1.length c1] w fun e w' => e = .returned (.tuple #[.string r1, .int .i64 r2]) ∧ Below w.heap.size w w' :=
  term_of_p.calls 5 a0 A1 c1 l1 r1 r2 w hr1 hc1 (term_of.eq a0 l1 _ h)

end Go.Proofs.Ytpfpmjdifnoeoaa.F
