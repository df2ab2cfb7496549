-- Laid by mk.py (a program of this session) over the seat's translation.
import Derived.Test.YtpfpmjdifnoeoaaF0
import Derived.Test.YtpfpmjdifnoeoaaF131
import Derived.Test.YtpfpmjdifnoeoaaF66
import Derived.Test.YtpfpmjdifnoeoaaF99
namespace Go.Proofs.Ytpfpmjdifnoeoaa.F
open Go.RowKit Go.Proofs.YtpfpmjdifnoeoaaW.PrintWords Go.Proofs.YtpfpmjdifnoeoaaW.PrintLast Go.Proofs.YtpfpmjdifnoeoaaW.PrintMore
attribute [local go_sem] max2_int min2_int max_two min_two max_three min_three max_four min_four
set_option linter.unusedVariables false
set_option linter.unusedSimpArgs false

/-! ### term_exponents: function 133 -/
/-! #### term_exponents_p: function 133 -/
def term_exponents_p.l0 : Nat → List ByteArray → ByteArray → Option (List ByteArray)
  | 0, _, _ => none
  | k + 1, x3, x4 => if x4.toList = ([] : List UInt8) then (some x3) else ((term_Take.f x4).bind fun bt661 => (if x3.length < 8796093022208 then (term_exponents_p.l0 k (x3 ++ [bt661.1]) bt661.2.1) else (none)))
def term_exponents_p.f (k : Nat) (a0 : ByteArray) : Option (List ByteArray) := if 0 < (a0.size : Int) then (if (bt a0 0) = 103 then (some ([] : List ByteArray)) else (if 2 ≤ (a0.size : Int) then (term_exponents_p.l0 k ([] : List ByteArray) (a0.extract 2 a0.size)) else (none))) else (none)
theorem term_exponents_p.mono_l : ∀ k, (∀ y0 y1, LeO (term_exponents_p.l0 k y0 y1) (term_exponents_p.l0 (k + 1) y0 y1))
  | 0 => fun _ _ r h => by simp [term_exponents_p.l0] at h
  | k + 1 => by
    have ih0 := term_exponents_p.mono_l k
    · intro y0 y1
      unfold term_exponents_p.l0
      repeat' first
      | (with_reducible exact ih0 _ _)
      | (with_reducible exact LeO.refl _)
      | (with_reducible exact LeO.none _)
      | (with_reducible refine LeO.ite ?_ ?_)
      | (with_reducible refine LeO.bind ?_ (fun _ => ?_))
      | exact ih0 _ _
      | exact LeO.none _
      | refine LeO.ite ?_ ?_
      | refine LeO.bind ?_ (fun _ => ?_)
theorem term_exponents_p.mono : ∀ a0 k, LeO (term_exponents_p.f k a0) (term_exponents_p.f (k + 1) a0) := by
  intro a0 k
  have ih0 := term_exponents_p.mono_l k
  unfold term_exponents_p.f
  repeat' first
      | (with_reducible exact ih0 _ _)
      | (with_reducible exact LeO.refl _)
      | (with_reducible exact LeO.none _)
      | (with_reducible refine LeO.ite ?_ ?_)
      | (with_reducible refine LeO.bind ?_ (fun _ => ?_))
      | exact ih0 _ _
      | exact LeO.none _
      | refine LeO.ite ?_ ?_
      | refine LeO.bind ?_ (fun _ => ?_)
set_option maxHeartbeats 8000000 in
set_option maxRecDepth 100000 in
theorem term_exponents_p.calls (k : Nat) (a0 : ByteArray) (r : List ByteArray) (w : World) (h : term_exponents_p.f k a0 = some r) :
    Calls Try.prog 133 #[.string a0] w fun e w' => ∃ v0_ : Value, e = .returned (v0_) ∧ Kd.R Kd.string 9 w' w.heap.size (fun _ => True) v0_ r ∧ Below w.heap.size w w' := by
  have HB := Aside0.mk (Below.refl w.heap.size w)
  have H : (if 0 < (a0.size : Int) then (if (bt a0 0) = 103 then (some ([] : List ByteArray)) else (if 2 ≤ (a0.size : Int) then (term_exponents_p.l0 k ([] : List ByteArray) (a0.extract 2 a0.size)) else (none))) else (none)) = some r := h
  clear h
  by_cases c2 : 0 < (a0.size : Int)
  · rw [if_pos c2] at H
    have c2b0 : decide (0 < (a0.size : Int)) = true := decide_eq_true c2
    have c2b1 : decide (0 < a0.size) = true := decide_eq_true (by omega)
    clear c2
    by_cases c4 : (bt a0 0) = 103
    · rw [if_pos c4] at H
      have c4b0 : ((bt a0 0) == 103) = true := beq_iff_eq.mpr c4
      have c4b1 : ((bt a0 0) != 103) = false := bne_eq_false_iff_eq.mpr c4
      clear c4
      obtain rfl := Option.some.inj H
      have p3 : 0 ≤ (0 : Int) := (by omega)
      have q3 : 0 < a0.size := (by have : (0 : Int) < (a0.size : Int) := of_decide_eq_true (by first | (with_reducible assumption) | assumption); omega)
      have hx3 : ∀ h : 0 < a0.size, ((a0[0]'h).toNat : Int) = bt a0 0 := bt_at a0 0
      clear p3
      have qi3 : (0 < (a0.size : Int)) = True := eq_true (of_decide_eq_true (by first | (with_reducible assumption) | assumption))
      replace q3 := eq_true q3
      go_enter Try.func133, Try.ntmps133
      go_wp2
      go_ret
      exact ⟨_, by first | rfl | (simp [errW_none, errW_some] <;> rfl) | (simp [*, errW_none, errW_some] <;> rfl), by first | exact Kd.R_nil _ _ _ _ _ | exact Kd.N_nil _ _ _ _ _ | exact Kd.V_nil _ _ _ _ _ | exact Kd.Q_nil _ _ _ _ _ | exact Kd.S_nil _ _ _ _ _, by repeat (first | (with_reducible first | exact HB.out | apply below_alloc | apply pw_below_drewN | apply below_drew1) | exact HB.out)⟩
    · rw [if_neg c4] at H
      have c4b0 : ((bt a0 0) == 103) = false := beq_eq_false_iff_ne.mpr c4
      have c4b1 : ((bt a0 0) != 103) = true := bne_iff_ne.mpr c4
      by_cases c5 : 2 ≤ (a0.size : Int)
      · rw [if_pos c5] at H
        have c5b0 := eq_true c5
        have c5b1 : decide (2 ≤ (a0.size : Int)) = true := decide_eq_true c5
        clear c5
        have H' := Aside0.mk H
        clear H
        have p3 : 0 ≤ (0 : Int) := (by omega)
        have q3 : 0 < a0.size := (by have : (0 : Int) < (a0.size : Int) := of_decide_eq_true (by first | (with_reducible assumption) | assumption); omega)
        have hx3 : ∀ h : 0 < a0.size, ((a0[0]'h).toNat : Int) = bt a0 0 := bt_at a0 0
        clear p3
        have qi3 : (0 < (a0.size : Int)) = True := eq_true (of_decide_eq_true (by first | (with_reducible assumption) | assumption))
        replace q3 := eq_true q3
        go_enter Try.func133, Try.ntmps133
        go_wp2
        go_loopg [3, 4] k (fun kq v3 v4 w' => ∃ (x3_1 : List ByteArray) (x4_1 : ByteArray), v4 = .string x4_1 ∧ Aside0 (term_exponents_p.l0 kq x3_1 x4_1 = some r) ∧ Aside0 (kq ≤ k) ∧ Aside0 (Kd.R Kd.string 9 w' w.heap.size (fun _ => True) v3 x3_1) ∧ Aside0 (Below w.heap.size w w'))
        case atStart => exact ⟨(([] : List ByteArray)), (a0.extract 2 a0.size), (by first | rfl | (simp; done) | (simp [*]; done)), H', ⟨Nat.le_refl _⟩, ⟨by first | exact Kd.R_nil _ _ _ _ _ | exact Kd.N_nil _ _ _ _ _ | exact Kd.V_nil _ _ _ _ _ | exact Kd.Q_nil _ _ _ _ _ | exact Kd.S_nil _ _ _ _ _⟩, ⟨by repeat (first | (with_reducible first | exact HB.out | apply below_alloc | apply pw_below_drewN | apply below_drew1) | exact HB.out)⟩⟩
        case round =>
          clear H'
          try clear c1
          try clear c2
          try clear c2b0
          try clear c2b1
          try clear p2
          try clear p3
          try clear q3
          try clear hx3
          try clear qi3
          try clear c4
          try clear c4b0
          try clear c4b1
          try clear c5
          try clear c5b0
          try clear c5b1
          try clear p3
          try clear q3
          obtain ⟨x3_1, x4_1, rfl, HA, HK1, HO_3, HB⟩ := hrel
          cases gk with
          | zero => exact absurd HA.out (by simp [term_exponents_p.l0])
          | succ k1 =>
            have H := HA.out
            clear HA
            simp only [term_exponents_p.l0] at H
            by_cases c6 : x4_1.toList = ([] : List UInt8)
            · rw [if_pos c6] at H
              have c6b0 : (x4_1.toList == ([] : List UInt8)) = true := beq_iff_eq.mpr c6
              have c6b1 : (x4_1.toList != ([] : List UInt8)) = false := bne_eq_false_iff_eq.mpr c6
              clear c6
              obtain rfl := Option.some.inj H
              go_wp2
              go_ret
              exact ⟨_, by first | rfl | (simp [errW_none, errW_some] <;> rfl) | (simp [*, errW_none, errW_some] <;> rfl), by (with_reducible repeat (first | apply Kd.R_alloc | apply Kd.R_drewN | apply Kd.R_drew)); exact HO_3.out, by repeat (first | (with_reducible first | exact HB.out | apply below_alloc | apply pw_below_drewN | apply below_drew1) | exact HB.out)⟩
            · rw [if_neg c6] at H
              have c6b0 : (x4_1.toList == ([] : List UInt8)) = false := beq_eq_false_iff_ne.mpr c6
              have c6b1 : (x4_1.toList != ([] : List UInt8)) = true := bne_iff_ne.mpr c6
              replace H := Option.bind_eq_some_iff.mp H
              obtain ⟨⟨t661, t662, t663⟩, A70, H⟩ := H
              replace H : (if x3_1.length < 8796093022208 then (term_exponents_p.l0 k1 (x3_1 ++ [t661]) t662) else (none)) = some r := H
              have A7 := Aside0.mk A70
              clear A70
              by_cases c8 : x3_1.length < 8796093022208
              · rw [if_pos c8] at H
                have LMc8 := Aside0.mk c8
                clear c8
                obtain ⟨y664, hy664⟩ : ∃ y_ : List ByteArray, y_ = (x3_1 ++ [t661]) := ⟨_, rfl⟩
                replace H : (term_exponents_p.l0 k1 y664 t662) = some r := by first | (rw [hy664]; with_reducible exact H) | (have H2_ := (Option.bind_some _ _).symm.trans H; rw [hy664]; with_reducible exact H2_) | (have H2_ := (Option.bind_some _ _).symm.trans H; with_reducible exact H2_) | with_reducible exact H | (rw [hy664]; exact H) | exact H
                have Ny664 := Aside0.mk hy664
                clear hy664
                have H' := Aside0.mk H
                clear H
                go_wp2_with (first | ((with_reducible refine gate_callee (f := 99) rfl ?_); refine goesL_ (some 17) rfl rfl Try.func99 (by kernel_rfl) rfl #[.string x4_1] rfl (by (try simp only [List.map_toArray, List.map_cons, List.map_nil]); first | done | rfl | (simp only [List.length_drop, List.length_take]; rfl)) ?_; (with_reducible refine (term_Take.calls x4_1 t661 t662 t663 _ A7.out).mono ?_); rintro e w9 ⟨rfl, hb⟩; refine ⟨_, rfl, ?_⟩; have n0_ := Aside0.mk (Kd.R_below (by (with_reducible repeat (first | apply Kd.R_alloc | apply Kd.R_drewN | apply Kd.R_drew)); exact HO_3.out) hb); have n1_ := Aside0.mk (below_step (by repeat (first | (with_reducible first | exact HB.out | apply below_alloc | apply pw_below_drewN | apply below_drew1) | exact HB.out)) hb); clear HO_3; clear HB; have HO_3 := n0_; have HB := n1_; clear n0_ n1_; (try clear hb); (try clear hb2); (try clear hk); (try clear hi)) | ((with_reducible refine gate_builtin (b := .append) (xs := #[.tmp 21, .tmp 23]) rfl ?_); at_builtin; refine Kd.R_append Kd.string (w0 := w) w.heap.size rfl (.tmp 21) (.tmp 23) 43 9 (.string ⟨#[]⟩) 16 rfl Try.underlying43 info9 rfl (by decide) (by omega) u3 x3_1 t661 [.string t661] (fun _ => True) (fun _ => False) rfl rfl ?aP (fun _ hk => hk.elim) ?aF ?aO ?aB ?aS ?aL ?_; (case aP => exact rfl); (case aB => exact (by repeat (first | (with_reducible first | exact HB.out | apply below_alloc | apply pw_below_drewN | apply below_drew1) | exact HB.out))); (case aF => exact (fun _ _ => trivial)); (case aO => exact (by (with_reducible repeat (first | apply Kd.R_alloc | apply Kd.R_drewN | apply Kd.R_drew)); exact HO_3.out)); (case aS => exact (below_size (by repeat (first | (with_reducible first | exact HB.out | apply below_alloc | apply pw_below_drewN | apply below_drew1) | exact HB.out)))); (case aL => have := LMc8.out; omega); intro v665 w10 ho hb hg hat; rw [← Ny664.out] at ho; have n0_ := Aside0.mk (hb); have n1_ := Aside0.mk (ho); clear HB; clear HO_3; have HB := n0_; have HO666 := n1_; clear n0_ n1_; clear ho hb hg hat))
                go_roundg k1
                case measure => have := HK1.out; omega
                case rel => exact ⟨(y664), (t662), (by first | rfl | (simp; done) | (simp [*]; done)), H', ⟨by have := HK1.out; omega⟩, ⟨by (with_reducible repeat (first | apply Kd.R_alloc | apply Kd.R_drewN | apply Kd.R_drew)); exact HO666.out⟩, ⟨by repeat (first | (with_reducible first | exact HB.out | apply below_alloc | apply pw_below_drewN | apply below_drew1) | exact HB.out)⟩⟩
              · rw [if_neg c8] at H
                exact absurd H (by simp)
      · rw [if_neg c5] at H
        exact absurd H (by simp)
  · rw [if_neg c2] at H
    exact absurd H (by simp)

/-- Terms that stand one behind the other, k of them at most. -/
def splitF : Nat → ByteArray → List ByteArray
  | 0, _ => []
  | k + 1, s => if s.size = 0 then [] else (takeF s).1 :: splitF k (takeF s).2.1
theorem takeF_less (s : ByteArray) (h : 0 < s.size) : (takeF s).2.1.size < s.size := by
  unfold takeF
  by_cases c : (scanF s).2.2 ≠ 0
  · rw [if_pos c]; exact h
  rw [if_neg c]
  by_cases c2 : (scanF s).1 > 20000
  · rw [if_pos c2]; exact h
  rw [if_neg c2]
  have := scanF_end (s := s) (by simpa using c)
  simp only [ByteArray.size_extract]
  omega
def expsF (t : ByteArray) : List ByteArray := if bt t 0 = 103 then [] else splitF t.size (t.extract 2 t.size)
def term_exponents.f (t : ByteArray) : Option (List ByteArray) := if 2 ≤ t.size ∧ t.size ≤ 20000 ∨ t.size = 1 ∧ bt t 0 = 103 then some (expsF t) else none
theorem toList_nil (s : ByteArray) : s.toList = [] ↔ s.size = 0 := by
  have := extract_nil s 0
  rw [extract_all] at this
  rw [this]; omega
theorem term_exponents.loop : ∀ (m k : Nat) (acc : List ByteArray) (s : ByteArray), s.size ≤ m → m < k → acc.length + s.size ≤ 100000 → term_exponents_p.l0 k acc s = some (acc ++ splitF m s)
  | m, 0, _, _, _, h, _ => by omega
  | 0, k + 1, acc, s, h, _, _ => by
    simp only [term_exponents_p.l0]
    rw [if_pos ((toList_nil s).mpr (by omega))]
    simp [splitF]
  | m + 1, k + 1, acc, s, h, hk, ha => by
    simp only [term_exponents_p.l0]
    by_cases c : s.size = 0
    · rw [if_pos ((toList_nil s).mpr c), splitF, if_pos c, List.append_nil]
    · rw [if_neg (fun h => c ((toList_nil s).mp h)), splitF, if_neg c]
      unfold term_Take.f
      rw [if_pos (by omega)]
      simp only [Option.bind_some]
      have := takeF_less s (by omega)
      rw [if_pos (by omega), term_exponents.loop m k _ _ (by omega) (by omega) (by rw [List.length_append]; simp; omega), List.append_assoc]
      rfl
theorem term_exponents.eq (t : ByteArray) (r : List ByteArray) (h : term_exponents.f t = some r) : term_exponents_p.f (t.size + 2) t = some r := by
  unfold term_exponents.f at h
  split at h
  case isFalse => cases h
  rename_i hs
  rw [← h]
  unfold term_exponents_p.f expsF
  rw [if_pos (by omega)]
  by_cases c : bt t 0 = 103
  · rw [if_pos c, if_pos c]
  · rw [if_neg c, if_neg c, if_pos (by omega), term_exponents.loop t.size _ [] _ (by rw [ByteArray.size_extract]; omega) (by omega) (by rw [ByteArray.size_extract]; simp; omega)]
    rfl
theorem term_exponents.calls (a0 : ByteArray) (r : List ByteArray) (w : World) (h : term_exponents.f a0 = some r) :
    Calls Try.prog 133 #[.string a0] w fun e w' => ∃ v0_ : Value, e = .returned (v0_) ∧ Kd.R Kd.string 9 w' w.heap.size (fun _ => True) v0_ r ∧ Below w.heap.size w w' :=
  term_exponents_p.calls _ a0 r w (term_exponents.eq a0 r h)

end Go.Proofs.Ytpfpmjdifnoeoaa.F
