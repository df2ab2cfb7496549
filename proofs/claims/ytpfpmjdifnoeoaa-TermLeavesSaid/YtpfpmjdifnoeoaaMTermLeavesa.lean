/- The law gemot/gemotlaw1.TermLeaves: for every input it returns true, and the input reads behind the call as it read before; no condition. -/
import Derived.Test.YtpfpmjdifnoeoaaF0
import Derived.Test.YtpfpmjdifnoeoaaF123
import Derived.Test.YtpfpmjdifnoeoaaF65
import Derived.Test.YtpfpmjdifnoeoaaF84
import Derived.Test.YtpfpmjdifnoeoaaF78
import Derived.Test.YtpfpmjdifnoeoaaF79
import Derived.Test.YtpfpmjdifnoeoaaF80
import Derived.Test.YtpfpmjdifnoeoaaF81
import Derived.Test.YtpfpmjdifnoeoaaF82
import Derived.Test.YtpfpmjdifnoeoaaF86
import Derived.Test.YtpfpmjdifnoeoaaF131
import Derived.Test.YtpfpmjdifnoeoaaF66
import Derived.Test.YtpfpmjdifnoeoaaLMade
import Derived.Test.YtpfpmjdifnoeoaaF99
import Derived.Test.YtpfpmjdifnoeoaaRows
import Derived.Test.YtpfpmjdifnoeoaaRowOpen
import Derived.Test.YtpfpmjdifnoeoaaRowFacts
import Derived.WalkKit
import Derived.ProofKit
import Derived.OpenShut
import Derived.ShutString
import Derived.ChangeOld
import Derived.Below
import Derived.SizedLaws
import Derived.Carry
import Derived.WideShapes
namespace Go.Proofs.Ytpfpmjdifnoeoaa.F
open Go.RowKit Go.Proofs.YtpfpmjdifnoeoaaW.PrintWords Go.Proofs.YtpfpmjdifnoeoaaW.PrintLast Go.Proofs.YtpfpmjdifnoeoaaW.PrintMore
attribute [local go_sem] max2_int min2_int max_two min_two max_three min_three max_four min_four
set_option linter.unusedVariables false
set_option linter.unusedSimpArgs false

/-! ### gemotref1_eight: function 130 -/
/-! #### gemotref1_eight_p: function 130 -/
def gemotref1_eight_p.l0 : Nat → Int → List Int → Int → Option (ByteArray)
  | 0, _, _, _ => none
  | k + 1, x0, x3, x4 => if x4 < 8 then (if 0 ≤ (wrap64 (8 * x4)) then (if 0 ≤ (wrap64 (7 - x4)) then (if (wrap64 (7 - x4)) < (x3.length : Int) then (gemotref1_eight_p.l0 k x0 (x3.set ((wrap64 (7 - x4)) : Int).toNat ((shr .u64 x0 (wrap64 (8 * x4))) % 256)) (wrap64 (x4 + 1))) else (none)) else (none)) else (none)) else (some (strOfNums x3))
def gemotref1_eight_p.f (k : Nat) (a0 : Int) : Option (ByteArray) := if 8 ≤ 281474976710656 then (gemotref1_eight_p.l0 k a0 (List.replicate 8 0) 0) else (none)
theorem gemotref1_eight_p.mono_l : ∀ k, (∀ y0 y1 y2, LeO (gemotref1_eight_p.l0 k y0 y1 y2) (gemotref1_eight_p.l0 (k + 1) y0 y1 y2))
  | 0 => fun _ _ _ r h => by simp [gemotref1_eight_p.l0] at h
  | k + 1 => by
    have ih0 := gemotref1_eight_p.mono_l k
    · intro y0 y1 y2
      unfold gemotref1_eight_p.l0
      repeat' first
      | (with_reducible exact ih0 _ _ _)
      | (with_reducible exact LeO.refl _)
      | (with_reducible exact LeO.none _)
      | (with_reducible refine LeO.ite ?_ ?_)
      | (with_reducible refine LeO.bind ?_ (fun _ => ?_))
      | exact ih0 _ _ _
      | exact LeO.none _
      | refine LeO.ite ?_ ?_
      | refine LeO.bind ?_ (fun _ => ?_)
theorem gemotref1_eight_p.mono : ∀ a0 k, LeO (gemotref1_eight_p.f k a0) (gemotref1_eight_p.f (k + 1) a0) := by
  intro a0 k
  have ih0 := gemotref1_eight_p.mono_l k
  unfold gemotref1_eight_p.f
  repeat' first
      | (with_reducible exact ih0 _ _ _)
      | (with_reducible exact LeO.refl _)
      | (with_reducible exact LeO.none _)
      | (with_reducible refine LeO.ite ?_ ?_)
      | (with_reducible refine LeO.bind ?_ (fun _ => ?_))
      | exact ih0 _ _ _
      | exact LeO.none _
      | refine LeO.ite ?_ ?_
      | refine LeO.bind ?_ (fun _ => ?_)
set_option maxHeartbeats 8000000 in
set_option maxRecDepth 100000 in
theorem gemotref1_eight_p.calls (k : Nat) (a0 : Int) (r : ByteArray) (w : World) (h : gemotref1_eight_p.f k a0 = some r) :
    Calls Try.prog 130 #[.int .u64 a0] w fun e w' => e = .returned (.string r) ∧ Below w.heap.size w w' := by
  have HB := Aside0.mk (Below.refl w.heap.size w)
  have H : (if 8 ≤ 281474976710656 then (gemotref1_eight_p.l0 k a0 (List.replicate 8 0) 0) else (none)) = some r := h
  clear h
  by_cases c2 : 8 ≤ 281474976710656
  · rw [if_pos c2] at H
    have c2b0 := eq_true c2
    have c2b1 : decide (8 ≤ 281474976710656) = true := decide_eq_true c2
    clear c2
    obtain ⟨y239, hy239⟩ : ∃ y_ : List Int, y_ = (List.replicate 8 0) := ⟨_, rfl⟩
    replace H : (gemotref1_eight_p.l0 k a0 y239 0) = some r := by first | (rw [hy239]; with_reducible exact H) | (have H2_ := (Option.bind_some _ _).symm.trans H; rw [hy239]; with_reducible exact H2_) | (have H2_ := (Option.bind_some _ _).symm.trans H; with_reducible exact H2_) | with_reducible exact H | (rw [hy239]; exact H) | exact H
    have Ny239 := Aside0.mk hy239
    clear hy239
    have H' := Aside0.mk H
    clear H
    go_enter Try.func130, Try.ntmps130
    go_wp2_with (first | ((with_reducible refine gate_dst (N := 5) rfl ?_); refine Kd.R_make (Kd.int .u8) _ 5 rfl (N := 5) rfl 148 _ _ rfl 8 rfl rfl Try.underlying148 (.int .u8 0) 1 info5 rfl (by decide) (by omega) 0 (ok := fun _ => True) (okp := fun _ => True) rfl (fun _ hk => hk) trivial (by omega) (by omega) (Below.refl _ _) (Nat.le_refl _) ?_; intro v240 w3 ho4 hb hg_ hnew_; clear hg_ hnew_; (first | rw [← Ny239.out] at ho4 | (simp only [Int.reduceToNat] at ho4; rw [← Ny239.out] at ho4)); have n0_ := Aside0.mk (Kd.R_lower ho4 (below_size (by repeat (first | (with_reducible first | exact HB.out | apply below_alloc | apply pw_below_drewN | apply below_drew1) | exact HB.out)))); have n1_ := Aside0.mk (below_step (by repeat (first | (with_reducible first | exact HB.out | apply below_alloc | apply pw_below_drewN | apply below_drew1) | exact HB.out)) hb); clear HB; have HO241 := n0_; have HB := n1_; clear n0_ n1_; clear hb ho4))
    go_loopg [4] k (fun kq v4 w' => ∃ (x3_1 : List Int) (x4_1 : Int), v4 = .int .i64 x4_1 ∧ Aside0 (gemotref1_eight_p.l0 kq a0 x3_1 x4_1 = some r) ∧ Aside0 (kq ≤ k) ∧ Aside0 (Kd.R (Kd.int .u8) 5 w' w.heap.size (fun _ => True) v240 x3_1) ∧ Aside0 (Below w.heap.size w w'))
    case atStart => exact ⟨(y239), (0), (by first | rfl | (simp; done) | (simp [*]; done)), H', ⟨Nat.le_refl _⟩, ⟨by (with_reducible repeat (first | apply Kd.R_alloc | apply Kd.R_drewN | apply Kd.R_drew)); exact HO241.out⟩, ⟨by repeat (first | (with_reducible first | exact HB.out | apply below_alloc | apply pw_below_drewN | apply below_drew1) | exact HB.out)⟩⟩
    case round =>
      clear H'
      try clear c1
      try clear c2
      try clear c2b0
      try clear c2b1
      try clear p2
      obtain ⟨x3_1, x4_1, rfl, HA, HK1, HO_3, HB⟩ := hrel
      cases gk with
      | zero => exact absurd HA.out (by simp [gemotref1_eight_p.l0])
      | succ k1 =>
        have H := HA.out
        clear HA
        simp only [gemotref1_eight_p.l0] at H
        by_cases c5 : x4_1 < 8
        · rw [if_pos c5] at H
          have c5b0 : decide (x4_1 < 8) = true := decide_eq_true c5
          clear c5
          obtain ⟨ji6, hji6⟩ : ∃ j_ : Int, (wrap64 (8 * x4_1)) = j_ := ⟨_, rfl⟩
          replace H : (if 0 ≤ (ji6) then (if 0 ≤ (wrap64 (7 - x4_1)) then (if (wrap64 (7 - x4_1)) < (x3_1.length : Int) then (gemotref1_eight_p.l0 k1 a0 (x3_1.set ((wrap64 (7 - x4_1)) : Int).toNat ((shr .u64 a0 (ji6)) % 256)) (wrap64 (x4_1 + 1))) else (none)) else (none)) else (none)) = some r := by first | (rw [hji6] at H; exact H) | (simp only [hji6] at H ⊢; exact H)
          have hji6w : (IntKind.i64.wrap (8 * x4_1)) = ji6 := (i64_w _).trans hji6
          by_cases c7 : 0 ≤ (ji6)
          · rw [if_pos c7] at H
            have c7b0 := eq_true c7
            have c7b1 : decide (0 ≤ (ji6)) = true := decide_eq_true c7
            clear c7
            obtain ⟨ji8, hji8⟩ : ∃ j_ : Int, (shr .u64 a0 (ji6)) = j_ := ⟨_, rfl⟩
            replace H : (if 0 ≤ (wrap64 (7 - x4_1)) then (if (wrap64 (7 - x4_1)) < (x3_1.length : Int) then (gemotref1_eight_p.l0 k1 a0 (x3_1.set ((wrap64 (7 - x4_1)) : Int).toNat ((ji8) % 256)) (wrap64 (x4_1 + 1))) else (none)) else (none)) = some r := by first | (rw [hji8] at H; exact H) | (simp only [hji8] at H ⊢; exact H)
            have hji8_ : (a0 / 2 ^ min (ji6).toNat 64) = ji8 := hji8
            have hji8z : (ji6) ≤ 64 → (a0 / 2 ^ (ji6).toNat) = ji8 := shr_small hji8
            obtain ⟨ji9, hji9⟩ : ∃ j_ : Int, (wrap64 (7 - x4_1)) = j_ := ⟨_, rfl⟩
            replace H : (if 0 ≤ (ji9) then (if (ji9) < (x3_1.length : Int) then (gemotref1_eight_p.l0 k1 a0 (x3_1.set ((ji9) : Int).toNat ((ji8) % 256)) (wrap64 (x4_1 + 1))) else (none)) else (none)) = some r := by first | (rw [hji9] at H; exact H) | (simp only [hji9] at H ⊢; exact H)
            have hji9w : (IntKind.i64.wrap (7 - x4_1)) = ji9 := (i64_w _).trans hji9
            by_cases c10 : 0 ≤ (ji9)
            · rw [if_pos c10] at H
              have c10b0 : decide (0 ≤ (ji9)) = true := decide_eq_true c10
              clear c10
              by_cases c11 : (ji9) < (x3_1.length : Int)
              · rw [if_pos c11] at H
                have c11b0 : decide ((ji9) < (x3_1.length : Int)) = true := decide_eq_true c11
                clear c11
                obtain ⟨y242, hy242⟩ : ∃ y_ : List Int, y_ = (x3_1.set ((ji9) : Int).toNat ((ji8) % 256)) := ⟨_, rfl⟩
                replace H : (gemotref1_eight_p.l0 k1 a0 y242 (wrap64 (x4_1 + 1))) = some r := by first | (rw [hy242]; with_reducible exact H) | (have H2_ := (Option.bind_some _ _).symm.trans H; rw [hy242]; with_reducible exact H2_) | (have H2_ := (Option.bind_some _ _).symm.trans H; with_reducible exact H2_) | with_reducible exact H | (rw [hy242]; exact H) | exact H
                have Ny242 := Aside0.mk hy242
                clear hy242
                have H' := Aside0.mk H
                clear H
                have p12 : 0 ≤ ((ji9) : Int) := of_decide_eq_true (by first | (with_reducible assumption) | assumption)
                have q12 : ((ji9) : Int) < ((x3_1.length : Int) : Int) := of_decide_eq_true (by first | (with_reducible assumption) | assumption)
                obtain ⟨go12, co12, eo12, gb12, gl12, cl12, HG12⟩ := Kd.R_form HO_3.out (by omega)
                (first | cases eo12 | (injection eo12 with ea_ en_ ec_; (first | subst ea_ | (injection ea_ with ea_; subst ea_)); subst ec_; clear en_))
                have GB12 := Aside0.mk gb12
                have GG12 := Aside0.mk HG12
                clear gb12 gl12 HG12
                obtain ⟨hx12_0, hf12_0⟩ := Kd.R_celln 0 HO_3.out ((ji9) : Int) p12 q12
                replace p12 := eq_true p12
                replace q12 := eq_true q12
                have HP13 := Kd.R_putg HO_3.out ((ji9) : Int) ((ji8) % 256)
                go_wp2_with (first | ((with_reducible refine gate_store (t := 5) (p := 18) rfl ?_); refine store_event (t := 5) (p := 18) (v := ?vo_w14) (w1 := (wr.setCell ⟨go12, ((ji9) : Int).toNat, none⟩ (.int .u8 ((ji8) % 256)))) ?hg ?ho ?hn ?hr ?_; (case ho => rfl); (case hg => rfl); (case hn => rfl); (case hr => first | (go_simp; done) | (go_simp; rfl)); intro w14 hw; have hg : wr.grownBy w14 (some go12) := (by rw [hw]; exact HP13.2); have hp_ : Kd.R (Kd.int .u8) 5 w14 w.heap.size (fun _ => True) (.slice (some ⟨go12, 0, none⟩) x3_1.length co12) y242 := (by rw [hw, Ny242.out]; exact HP13.1); clear HP13; have n0_ := Aside0.mk (hp_); have n1_ := Aside0.mk ((by rw [hw]; exact below_set (HB.out) GB12.out : Below w.heap.size w w14)); clear HO_3; clear HB; have HO_3 := n0_; have HB := n1_; clear n0_ n1_; clear hg hw hp_))
                go_roundg k1
                case measure => have := HK1.out; omega
                case rel => exact ⟨(y242), (wrap64 (x4_1 + 1)), (by first | rfl | (simp; done) | (simp [*]; done)), H', ⟨by have := HK1.out; omega⟩, ⟨by (with_reducible repeat (first | apply Kd.R_alloc | apply Kd.R_drewN | apply Kd.R_drew)); exact HO_3.out⟩, ⟨by repeat (first | (with_reducible first | exact HB.out | apply below_alloc | apply pw_below_drewN | apply below_drew1) | exact HB.out)⟩⟩
              · rw [if_neg c11] at H
                exact absurd H (by simp)
            · rw [if_neg c10] at H
              exact absurd H (by simp)
          · rw [if_neg c7] at H
            exact absurd H (by simp)
        · rw [if_neg c5] at H
          have c5b0 : decide (x4_1 < 8) = false := decide_eq_false c5
          clear c5
          obtain rfl := Option.some.inj H
          have hcv15 := own_string (P := Try.prog) Try.underlying148 Try.underlying5 Try.underlying9 (Kd.own_of_R HO_3.out)
          go_wp2
          go_ret
          exact ⟨by first | rfl | (simp [errW_none, errW_some] <;> rfl) | (simp [*, errW_none, errW_some] <;> rfl), by repeat (first | (with_reducible first | exact HB.out | apply below_alloc | apply pw_below_drewN | apply below_drew1) | exact HB.out)⟩
  · rw [if_neg c2] at H
    exact absurd H (by simp)

def gemotref1_eight.f (n : Int) : Option ByteArray := some (strOfNums (eightL n))
theorem gemotref1_eight.eq (n : Int) : gemotref1_eight_p.f 10 n = gemotref1_eight.f n := by
  simp [gemotref1_eight_p.f, gemotref1_eight_p.l0, gemotref1_eight.f, eightL, wrap64, List.replicate]
theorem gemotref1_eight.calls (a0 : Int) (r : ByteArray) (w : World) (h : gemotref1_eight.f a0 = some r) :
    Calls Try.prog 130 #[.int .u64 a0] w fun e w' => e = .returned (.string r) ∧ Below w.heap.size w w' :=
  gemotref1_eight_p.calls 10 a0 r w ((gemotref1_eight.eq a0).trans h)

end Go.Proofs.Ytpfpmjdifnoeoaa.F
namespace Go.Proofs.Ytpfpmjdifnoeoaa.F
open Go.RowKit Go.Proofs.YtpfpmjdifnoeoaaW.PrintWords Go.Proofs.YtpfpmjdifnoeoaaW.PrintLast Go.Proofs.YtpfpmjdifnoeoaaW.PrintMore
attribute [local go_sem] max2_int min2_int max_two min_two max_three min_three max_four min_four
set_option linter.unusedVariables false
set_option linter.unusedSimpArgs false

/-! ### gemotref1_Name: function 83 -/
/-! #### gemotref1_Name_p: function 83 -/
def gemotref1_Name_p.f (a0 : Int) : Option (ByteArray) := (gemotref1_eight.f a0).bind fun t793 => (if 1 + t793.size ≤ 9223372036854775807 then (some ((⟨#[110]⟩ : ByteArray) ++ t793)) else (none))
set_option maxHeartbeats 8000000 in
set_option maxRecDepth 100000 in
theorem gemotref1_Name_p.calls (a0 : Int) (r : ByteArray) (w : World) (h : gemotref1_Name_p.f a0 = some r) :
    Calls Try.prog 83 #[.int .u64 a0] w fun e w' => e = .returned (.string r) ∧ Below w.heap.size w w' := by
  have HB := Aside0.mk (Below.refl w.heap.size w)
  have H : ((gemotref1_eight.f a0).bind fun t793 => (if 1 + t793.size ≤ 9223372036854775807 then (some ((⟨#[110]⟩ : ByteArray) ++ t793)) else (none))) = some r := h
  clear h
  replace H := Option.bind_eq_some_iff.mp H
  obtain ⟨t793, A20, H⟩ := H
  replace H : (if 1 + t793.size ≤ 9223372036854775807 then (some ((⟨#[110]⟩ : ByteArray) ++ t793)) else (none)) = some r := H
  have A2 := Aside0.mk A20
  clear A20
  by_cases c3 : 1 + t793.size ≤ 9223372036854775807
  · rw [if_pos c3] at H
    have c3b0 := eq_true c3
    have c3b1 : decide (1 + t793.size ≤ 9223372036854775807) = true := decide_eq_true c3
    try have c3b2 : (9223372036854775807 < 1 + t793.size) = False := eq_false (Nat.not_lt.2 c3)
    obtain rfl := Option.some.inj H
    go_enter Try.func83, Try.ntmps83
    go_wp2_with (first | ((with_reducible refine gate_callee (f := 130) rfl ?_); refine goesL_ (some 4) rfl rfl Try.func130 (by kernel_rfl) rfl #[.int .u64 a0] rfl (by (try simp only [List.map_toArray, List.map_cons, List.map_nil]); first | done | rfl | (simp only [List.length_drop, List.length_take]; rfl)) ?_; (with_reducible refine (gemotref1_eight.calls a0 t793 _ A2.out).mono ?_); rintro e w4 ⟨rfl, hb⟩; refine ⟨_, rfl, ?_⟩; have n0_ := Aside0.mk (below_step (by repeat (first | (with_reducible first | exact HB.out | apply below_alloc | apply pw_below_drewN | apply below_drew1) | exact HB.out)) hb); clear HB; have HB := n0_; clear n0_; (try clear hb); (try clear hb2); (try clear hk); (try clear hi)))
    go_ret
    exact ⟨by first | rfl | (simp [errW_none, errW_some] <;> rfl) | (simp [*, errW_none, errW_some] <;> rfl), by repeat (first | (with_reducible first | exact HB.out | apply below_alloc | apply pw_below_drewN | apply below_drew1) | exact HB.out)⟩
  · rw [if_neg c3] at H
    exact absurd H (by simp)

def gemotref1_Name.f (n : Int) : Option ByteArray := some (nameF n)
theorem gemotref1_Name.eq (n : Int) : gemotref1_Name_p.f n = gemotref1_Name.f n := by
  unfold gemotref1_Name_p.f gemotref1_eight.f gemotref1_Name.f
  simp only [Option.bind_some]
  rw [if_pos (by show 1 + 8 ≤ _; omega)]
  congr 1
theorem gemotref1_Name.calls (a0 : Int) (r : ByteArray) (w : World) (h : gemotref1_Name.f a0 = some r) :
    Calls Try.prog 83 #[.int .u64 a0] w fun e w' => e = .returned (.string r) ∧ Below w.heap.size w w' :=
  gemotref1_Name_p.calls a0 r w ((gemotref1_Name.eq a0).trans h)

end Go.Proofs.Ytpfpmjdifnoeoaa.F
namespace Go.Proofs.Ytpfpmjdifnoeoaa.F
open Go.RowKit Go.Proofs.YtpfpmjdifnoeoaaW.PrintWords Go.Proofs.YtpfpmjdifnoeoaaW.PrintLast Go.Proofs.YtpfpmjdifnoeoaaW.PrintMore
attribute [local go_sem] max2_int min2_int max_two min_two max_three min_three max_four min_four
set_option linter.unusedVariables false
set_option linter.unusedSimpArgs false

/-! ### gemotref1_Number: function 85 -/
/-! #### gemotref1_Number_p: function 85 -/
def gemotref1_Number_p.f (a0 : Int) : Option (ByteArray) := (gemotref1_eight.f a0).bind fun t243 => (if 1 + t243.size ≤ 9223372036854775807 then (some ((⟨#[117]⟩ : ByteArray) ++ t243)) else (none))
set_option maxHeartbeats 8000000 in
set_option maxRecDepth 100000 in
theorem gemotref1_Number_p.calls (a0 : Int) (r : ByteArray) (w : World) (h : gemotref1_Number_p.f a0 = some r) :
    Calls Try.prog 85 #[.int .u64 a0] w fun e w' => e = .returned (.string r) ∧ Below w.heap.size w w' := by
  have HB := Aside0.mk (Below.refl w.heap.size w)
  have H : ((gemotref1_eight.f a0).bind fun t243 => (if 1 + t243.size ≤ 9223372036854775807 then (some ((⟨#[117]⟩ : ByteArray) ++ t243)) else (none))) = some r := h
  clear h
  replace H := Option.bind_eq_some_iff.mp H
  obtain ⟨t243, A20, H⟩ := H
  replace H : (if 1 + t243.size ≤ 9223372036854775807 then (some ((⟨#[117]⟩ : ByteArray) ++ t243)) else (none)) = some r := H
  have A2 := Aside0.mk A20
  clear A20
  by_cases c3 : 1 + t243.size ≤ 9223372036854775807
  · rw [if_pos c3] at H
    have c3b0 := eq_true c3
    have c3b1 : decide (1 + t243.size ≤ 9223372036854775807) = true := decide_eq_true c3
    try have c3b2 : (9223372036854775807 < 1 + t243.size) = False := eq_false (Nat.not_lt.2 c3)
    obtain rfl := Option.some.inj H
    go_enter Try.func85, Try.ntmps85
    go_wp2_with (first | ((with_reducible refine gate_callee (f := 130) rfl ?_); refine goesL_ (some 4) rfl rfl Try.func130 (by kernel_rfl) rfl #[.int .u64 a0] rfl (by (try simp only [List.map_toArray, List.map_cons, List.map_nil]); first | done | rfl | (simp only [List.length_drop, List.length_take]; rfl)) ?_; (with_reducible refine (gemotref1_eight.calls a0 t243 _ A2.out).mono ?_); rintro e w4 ⟨rfl, hb⟩; refine ⟨_, rfl, ?_⟩; have n0_ := Aside0.mk (below_step (by repeat (first | (with_reducible first | exact HB.out | apply below_alloc | apply pw_below_drewN | apply below_drew1) | exact HB.out)) hb); clear HB; have HB := n0_; clear n0_; (try clear hb); (try clear hb2); (try clear hk); (try clear hi)))
    go_ret
    exact ⟨by first | rfl | (simp [errW_none, errW_some] <;> rfl) | (simp [*, errW_none, errW_some] <;> rfl), by repeat (first | (with_reducible first | exact HB.out | apply below_alloc | apply pw_below_drewN | apply below_drew1) | exact HB.out)⟩
  · rw [if_neg c3] at H
    exact absurd H (by simp)

def gemotref1_Number.f (n : Int) : Option ByteArray := some (numF n)
theorem gemotref1_Number.eq (n : Int) : gemotref1_Number_p.f n = gemotref1_Number.f n := by
  unfold gemotref1_Number_p.f gemotref1_eight.f gemotref1_Number.f
  simp only [Option.bind_some]
  rw [if_pos (by show 1 + 8 ≤ _; omega)]
  congr 1
theorem gemotref1_Number.calls (a0 : Int) (r : ByteArray) (w : World) (h : gemotref1_Number.f a0 = some r) :
    Calls Try.prog 85 #[.int .u64 a0] w fun e w' => e = .returned (.string r) ∧ Below w.heap.size w w' :=
  gemotref1_Number_p.calls a0 r w ((gemotref1_Number.eq a0).trans h)

end Go.Proofs.Ytpfpmjdifnoeoaa.F
namespace Go.Proofs.Ytpfpmjdifnoeoaa.F
open Go.RowKit Go.Proofs.YtpfpmjdifnoeoaaW.PrintWords Go.Proofs.YtpfpmjdifnoeoaaW.PrintLast Go.Proofs.YtpfpmjdifnoeoaaW.PrintMore
attribute [local go_sem] max2_int min2_int max_two min_two max_three min_three max_four min_four
set_option linter.unusedVariables false
set_option linter.unusedSimpArgs false

/-! ### gemotlaw1_TermLeaves: function 14 -/
def gemotlaw1_TermLeaves.j0 : Nat → Int → ByteArray → Int → Bool → Bool → Option (Bool)
  | 0, _, _, _, _, _ => none
  | k + 1, x0, x1, x2, x7, x23 => if x23 = true then (some x7) else ((term_Text.f x1).bind fun bt795 => ((gemotref1_Text.f x1).bind fun bt797 => ((term_Private.f x2).bind fun bt799 => ((gemotref1_Private.f x2).bind fun bt801 => ((term_Name.f x0).bind fun t803 => ((gemotref1_Name.f x0).bind fun t804 => (if t803.toList = t804.toList then ((term_Number.f x0).bind fun t805 => ((gemotref1_Number.f x0).bind fun t806 => (if t805.toList = t806.toList then (if bt795.1.toList = bt797.1.toList then (if bt795.2 = bt797.2 then (if bt799.1.toList = bt801.1.toList then (if bt799.2 = bt801.2 then ((term_Gen.f).bind fun t807 => (some (t807.toList == ([103] : List UInt8)))) else (none)) else (none)) else (none)) else (none)) else (none)))) else (none))))))))
def gemotlaw1_TermLeaves.f (k : Nat) (a0 : Int) (a1 : ByteArray) (a2 : Int) : Option (Bool) := (gemotlaw1_shown.f).bind fun t794 => (if t794 = true then (gemotlaw1_TermLeaves.j0 k a0 a1 a2 t794 (decide ((a1.size : Int) > 1000))) else (gemotlaw1_TermLeaves.j0 k a0 a1 a2 t794 true))
theorem gemotlaw1_TermLeaves.mono_l : ∀ k, (∀ y0 y1 y2 y3 y4, LeO (gemotlaw1_TermLeaves.j0 k y0 y1 y2 y3 y4) (gemotlaw1_TermLeaves.j0 (k + 1) y0 y1 y2 y3 y4))
  | 0 => fun _ _ _ _ _ r h => by simp [gemotlaw1_TermLeaves.j0] at h
  | k + 1 => by
    have ih0 := gemotlaw1_TermLeaves.mono_l k
    · intro y0 y1 y2 y3 y4
      unfold gemotlaw1_TermLeaves.j0
      repeat' first
      | (with_reducible exact ih0 _ _ _ _ _)
      | (with_reducible exact LeO.refl _)
      | (with_reducible exact LeO.none _)
      | (with_reducible refine LeO.ite ?_ ?_)
      | (with_reducible refine LeO.bind ?_ (fun _ => ?_))
      | exact ih0 _ _ _ _ _
      | exact LeO.none _
      | refine LeO.ite ?_ ?_
      | refine LeO.bind ?_ (fun _ => ?_)
theorem gemotlaw1_TermLeaves.mono : ∀ a0 a1 a2 k, LeO (gemotlaw1_TermLeaves.f k a0 a1 a2) (gemotlaw1_TermLeaves.f (k + 1) a0 a1 a2) := by
  intro a0 a1 a2 k
  have ih0 := gemotlaw1_TermLeaves.mono_l k
  unfold gemotlaw1_TermLeaves.f
  repeat' first
      | (with_reducible exact ih0 _ _ _ _ _)
      | (with_reducible exact LeO.refl _)
      | (with_reducible exact LeO.none _)
      | (with_reducible refine LeO.ite ?_ ?_)
      | (with_reducible refine LeO.bind ?_ (fun _ => ?_))
      | exact ih0 _ _ _ _ _
      | exact LeO.none _
      | refine LeO.ite ?_ ?_
      | refine LeO.bind ?_ (fun _ => ?_)
set_option maxHeartbeats 8000000 in
set_option maxRecDepth 100000 in
theorem gemotlaw1_TermLeaves.calls (k : Nat) (a0 : Int) (a1 : ByteArray) (a2 : Int) (r : Bool) (w : World) (h : gemotlaw1_TermLeaves.f k a0 a1 a2 = some r) :
    Calls Try.prog 14 #[.int .u64 a0, .string a1, .int .i64 a2] w fun e w' => e = .returned (.bool r) ∧ Below w.heap.size w w' := by
  have HB := Aside0.mk (Below.refl w.heap.size w)
  have H : ((gemotlaw1_shown.f).bind fun t794 => (if t794 = true then (gemotlaw1_TermLeaves.j0 k a0 a1 a2 t794 (decide ((a1.size : Int) > 1000))) else (gemotlaw1_TermLeaves.j0 k a0 a1 a2 t794 true))) = some r := h
  clear h
  replace H := Option.bind_eq_some_iff.mp H
  obtain ⟨t794, A40, H⟩ := H
  replace H : (if t794 = true then (gemotlaw1_TermLeaves.j0 k a0 a1 a2 t794 (decide ((a1.size : Int) > 1000))) else (gemotlaw1_TermLeaves.j0 k a0 a1 a2 t794 true)) = some r := H
  have A4 := Aside0.mk A40
  clear A40
  have HC5 := Aside0.mk H
  clear H
  go_enter Try.func14, Try.ntmps14
  go_upto_region 2 with (first | ((with_reducible refine gate_callee (f := 78) rfl ?_); refine goesL_ (some 16) rfl rfl Try.func78 (by kernel_rfl) rfl #[] rfl (by (try simp only [List.map_toArray, List.map_cons, List.map_nil]); first | done | rfl | (simp only [List.length_drop, List.length_take]; rfl)) ?_; (with_reducible refine (gemotlaw1_shown.calls  t794 _ A4.out).mono ?_); rintro e w6 ⟨rfl, hb⟩; refine ⟨_, rfl, ?_⟩; have n0_ := Aside0.mk (below_step (by repeat (first | (with_reducible first | exact HB.out | apply below_alloc | apply pw_below_drewN | apply below_drew1) | exact HB.out)) hb); clear HB; have HB := n0_; clear n0_; (try clear hb); (try clear hb2); (try clear hk); (try clear hi)))
  (try simp only [Act.put, List.setIfInBounds_toArray, List.set_cons_zero, List.set_cons_succ])
  go_cut [23] (fun v23 wc => ∃ (kq : Nat) (x23_4 : Bool), v23 = .bool x23_4 ∧ Aside0 (gemotlaw1_TermLeaves.j0 kq a0 a1 a2 t794 x23_4 = some r) ∧ Aside0 (kq ≤ k) ∧ Aside0 (Below w.heap.size w wc))
  case first =>
    have H := HC5.out
    clear HC5
    by_cases c7 : t794 = true
    · subst c7
      have H1 : (gemotlaw1_TermLeaves.j0 k a0 a1 a2 true (decide ((a1.size : Int) > 1000))) = some r := by rw [if_pos rfl] at H; exact H
      clear H
      have H := H1
      clear H1
      have H' := Aside0.mk H
      clear H
      go_wp2
      go_meet
      case rel => exact ⟨_, (decide ((a1.size : Int) > 1000)), (by first | rfl | (simp; done) | (simp [*]; done)), H', ⟨by first | omega | exact Nat.le_refl _⟩, ⟨by repeat (first | (with_reducible first | exact HB.out | apply below_alloc | apply pw_below_drewN | apply below_drew1) | exact HB.out)⟩⟩
    · replace c7 := Bool.eq_false_iff.mpr c7
      subst c7
      have H1 : (gemotlaw1_TermLeaves.j0 k a0 a1 a2 false true) = some r := by rw [if_neg (show ¬ (false = true) by decide)] at H; exact H
      clear H
      have H := H1
      clear H1
      have H' := Aside0.mk H
      clear H
      go_wp2
      go_meet
      case rel => exact ⟨_, (true), (by first | rfl | (simp; done) | (simp [*]; done)), H', ⟨by first | omega | exact Nat.le_refl _⟩, ⟨by repeat (first | (with_reducible first | exact HB.out | apply below_alloc | apply pw_below_drewN | apply below_drew1) | exact HB.out)⟩⟩
  case rest =>
    clear HC5
    try clear c1
    try clear p2
    try clear c7
    obtain ⟨kq, x23_4, rfl, HA, HJ4, HB⟩ := hcut
    cases kq with
    | zero => exact absurd HA.out (by simp [gemotlaw1_TermLeaves.j0])
    | succ kj4 =>
      have H := HA.out
      clear HA
      simp only [gemotlaw1_TermLeaves.j0] at H
      by_cases c8 : x23_4 = true
      · subst c8
        have H1 : (some t794) = some r := by rw [if_pos rfl] at H; exact H
        clear H
        have H := H1
        clear H1
        obtain rfl := Option.some.inj H
        go_wp2
        go_ret
        exact ⟨by first | rfl | (simp [errW_none, errW_some] <;> rfl) | (simp [*, errW_none, errW_some] <;> rfl), by repeat (first | (with_reducible first | exact HB.out | apply below_alloc | apply pw_below_drewN | apply below_drew1) | exact HB.out)⟩
      · replace c8 := Bool.eq_false_iff.mpr c8
        subst c8
        have H1 : ((term_Text.f a1).bind fun bt795 => ((gemotref1_Text.f a1).bind fun bt797 => ((term_Private.f a2).bind fun bt799 => ((gemotref1_Private.f a2).bind fun bt801 => ((term_Name.f a0).bind fun t803 => ((gemotref1_Name.f a0).bind fun t804 => (if t803.toList = t804.toList then ((term_Number.f a0).bind fun t805 => ((gemotref1_Number.f a0).bind fun t806 => (if t805.toList = t806.toList then (if bt795.1.toList = bt797.1.toList then (if bt795.2 = bt797.2 then (if bt799.1.toList = bt801.1.toList then (if bt799.2 = bt801.2 then ((term_Gen.f).bind fun t807 => (some (t807.toList == ([103] : List UInt8)))) else (none)) else (none)) else (none)) else (none)) else (none)))) else (none)))))))) = some r := by rw [if_neg (show ¬ (false = true) by decide)] at H; exact H
        clear H
        have H := H1
        clear H1
        replace H := Option.bind_eq_some_iff.mp H
        obtain ⟨⟨t795, t796⟩, A90, H⟩ := H
        replace H : ((gemotref1_Text.f a1).bind fun bt797 => ((term_Private.f a2).bind fun bt799 => ((gemotref1_Private.f a2).bind fun bt801 => ((term_Name.f a0).bind fun t803 => ((gemotref1_Name.f a0).bind fun t804 => (if t803.toList = t804.toList then ((term_Number.f a0).bind fun t805 => ((gemotref1_Number.f a0).bind fun t806 => (if t805.toList = t806.toList then (if t795.toList = bt797.1.toList then (if t796 = bt797.2 then (if bt799.1.toList = bt801.1.toList then (if bt799.2 = bt801.2 then ((term_Gen.f).bind fun t807 => (some (t807.toList == ([103] : List UInt8)))) else (none)) else (none)) else (none)) else (none)) else (none)))) else (none))))))) = some r := H
        have A9 := Aside0.mk A90
        clear A90
        replace H := Option.bind_eq_some_iff.mp H
        obtain ⟨⟨t797, t798⟩, A100, H⟩ := H
        replace H : ((term_Private.f a2).bind fun bt799 => ((gemotref1_Private.f a2).bind fun bt801 => ((term_Name.f a0).bind fun t803 => ((gemotref1_Name.f a0).bind fun t804 => (if t803.toList = t804.toList then ((term_Number.f a0).bind fun t805 => ((gemotref1_Number.f a0).bind fun t806 => (if t805.toList = t806.toList then (if t795.toList = t797.toList then (if t796 = t798 then (if bt799.1.toList = bt801.1.toList then (if bt799.2 = bt801.2 then ((term_Gen.f).bind fun t807 => (some (t807.toList == ([103] : List UInt8)))) else (none)) else (none)) else (none)) else (none)) else (none)))) else (none)))))) = some r := H
        have A10 := Aside0.mk A100
        clear A100
        replace H := Option.bind_eq_some_iff.mp H
        obtain ⟨⟨t799, t800⟩, A110, H⟩ := H
        replace H : ((gemotref1_Private.f a2).bind fun bt801 => ((term_Name.f a0).bind fun t803 => ((gemotref1_Name.f a0).bind fun t804 => (if t803.toList = t804.toList then ((term_Number.f a0).bind fun t805 => ((gemotref1_Number.f a0).bind fun t806 => (if t805.toList = t806.toList then (if t795.toList = t797.toList then (if t796 = t798 then (if t799.toList = bt801.1.toList then (if t800 = bt801.2 then ((term_Gen.f).bind fun t807 => (some (t807.toList == ([103] : List UInt8)))) else (none)) else (none)) else (none)) else (none)) else (none)))) else (none))))) = some r := H
        have A11 := Aside0.mk A110
        clear A110
        replace H := Option.bind_eq_some_iff.mp H
        obtain ⟨⟨t801, t802⟩, A120, H⟩ := H
        replace H : ((term_Name.f a0).bind fun t803 => ((gemotref1_Name.f a0).bind fun t804 => (if t803.toList = t804.toList then ((term_Number.f a0).bind fun t805 => ((gemotref1_Number.f a0).bind fun t806 => (if t805.toList = t806.toList then (if t795.toList = t797.toList then (if t796 = t798 then (if t799.toList = t801.toList then (if t800 = t802 then ((term_Gen.f).bind fun t807 => (some (t807.toList == ([103] : List UInt8)))) else (none)) else (none)) else (none)) else (none)) else (none)))) else (none)))) = some r := H
        have A12 := Aside0.mk A120
        clear A120
        replace H := Option.bind_eq_some_iff.mp H
        obtain ⟨t803, A130, H⟩ := H
        replace H : ((gemotref1_Name.f a0).bind fun t804 => (if t803.toList = t804.toList then ((term_Number.f a0).bind fun t805 => ((gemotref1_Number.f a0).bind fun t806 => (if t805.toList = t806.toList then (if t795.toList = t797.toList then (if t796 = t798 then (if t799.toList = t801.toList then (if t800 = t802 then ((term_Gen.f).bind fun t807 => (some (t807.toList == ([103] : List UInt8)))) else (none)) else (none)) else (none)) else (none)) else (none)))) else (none))) = some r := H
        have A13 := Aside0.mk A130
        clear A130
        replace H := Option.bind_eq_some_iff.mp H
        obtain ⟨t804, A140, H⟩ := H
        replace H : (if t803.toList = t804.toList then ((term_Number.f a0).bind fun t805 => ((gemotref1_Number.f a0).bind fun t806 => (if t805.toList = t806.toList then (if t795.toList = t797.toList then (if t796 = t798 then (if t799.toList = t801.toList then (if t800 = t802 then ((term_Gen.f).bind fun t807 => (some (t807.toList == ([103] : List UInt8)))) else (none)) else (none)) else (none)) else (none)) else (none)))) else (none)) = some r := H
        have A14 := Aside0.mk A140
        clear A140
        by_cases c15 : t803.toList = t804.toList
        · rw [if_pos c15] at H
          have c15b0 : (t803.toList == t804.toList) = true := beq_iff_eq.mpr c15
          have c15b1 : (t803.toList != t804.toList) = false := bne_eq_false_iff_eq.mpr c15
          clear c15
          replace H := Option.bind_eq_some_iff.mp H
          obtain ⟨t805, A160, H⟩ := H
          replace H : ((gemotref1_Number.f a0).bind fun t806 => (if t805.toList = t806.toList then (if t795.toList = t797.toList then (if t796 = t798 then (if t799.toList = t801.toList then (if t800 = t802 then ((term_Gen.f).bind fun t807 => (some (t807.toList == ([103] : List UInt8)))) else (none)) else (none)) else (none)) else (none)) else (none))) = some r := H
          have A16 := Aside0.mk A160
          clear A160
          replace H := Option.bind_eq_some_iff.mp H
          obtain ⟨t806, A170, H⟩ := H
          replace H : (if t805.toList = t806.toList then (if t795.toList = t797.toList then (if t796 = t798 then (if t799.toList = t801.toList then (if t800 = t802 then ((term_Gen.f).bind fun t807 => (some (t807.toList == ([103] : List UInt8)))) else (none)) else (none)) else (none)) else (none)) else (none)) = some r := H
          have A17 := Aside0.mk A170
          clear A170
          by_cases c18 : t805.toList = t806.toList
          · rw [if_pos c18] at H
            have c18b0 : (t805.toList == t806.toList) = true := beq_iff_eq.mpr c18
            have c18b1 : (t805.toList != t806.toList) = false := bne_eq_false_iff_eq.mpr c18
            clear c18
            by_cases c19 : t795.toList = t797.toList
            · rw [if_pos c19] at H
              have c19b0 : (t795.toList == t797.toList) = true := beq_iff_eq.mpr c19
              have c19b1 : (t795.toList != t797.toList) = false := bne_eq_false_iff_eq.mpr c19
              clear c19
              by_cases c20 : t796 = t798
              · rw [if_pos c20] at H
                have c20b0 : (t796 == t798) = true := beq_iff_eq.mpr c20
                have c20b1 : (t796 != t798) = false := bne_eq_false_iff_eq.mpr c20
                clear c20
                by_cases c21 : t799.toList = t801.toList
                · rw [if_pos c21] at H
                  have c21b0 : (t799.toList == t801.toList) = true := beq_iff_eq.mpr c21
                  have c21b1 : (t799.toList != t801.toList) = false := bne_eq_false_iff_eq.mpr c21
                  clear c21
                  by_cases c22 : t800 = t802
                  · rw [if_pos c22] at H
                    have c22b0 : (t800 == t802) = true := beq_iff_eq.mpr c22
                    have c22b1 : (t800 != t802) = false := bne_eq_false_iff_eq.mpr c22
                    clear c22
                    replace H := Option.bind_eq_some_iff.mp H
                    obtain ⟨t807, A230, H⟩ := H
                    replace H : (some (t807.toList == ([103] : List UInt8))) = some r := H
                    have A23 := Aside0.mk A230
                    clear A230
                    obtain rfl := Option.some.inj H
                    go_wp2_with (first | ((with_reducible refine gate_callee (f := 79) rfl ?_); refine goesL_ (some 27) rfl rfl Try.func79 (by kernel_rfl) rfl #[.string a1] rfl (by (try simp only [List.map_toArray, List.map_cons, List.map_nil]); first | done | rfl | (simp only [List.length_drop, List.length_take]; rfl)) ?_; (with_reducible refine (term_Text.calls a1 t795 t796 _ A9.out).mono ?_); rintro e w24 ⟨rfl, hb⟩; refine ⟨_, rfl, ?_⟩; have n0_ := Aside0.mk (below_step (by repeat (first | (with_reducible first | exact HB.out | apply below_alloc | apply pw_below_drewN | apply below_drew1) | exact HB.out)) hb); clear HB; have HB := n0_; clear n0_; (try clear hb); (try clear hb2); (try clear hk); (try clear hi)) | ((with_reducible refine gate_callee (f := 80) rfl ?_); refine goesL_ (some 32) rfl rfl Try.func80 (by kernel_rfl) rfl #[.string a1] rfl (by (try simp only [List.map_toArray, List.map_cons, List.map_nil]); first | done | rfl | (simp only [List.length_drop, List.length_take]; rfl)) ?_; (with_reducible refine (gemotref1_Text.calls a1 t797 t798 _ A10.out).mono ?_); rintro e w25 ⟨rfl, hb⟩; refine ⟨_, rfl, ?_⟩; have n0_ := Aside0.mk (below_step (by repeat (first | (with_reducible first | exact HB.out | apply below_alloc | apply pw_below_drewN | apply below_drew1) | exact HB.out)) hb); clear HB; have HB := n0_; clear n0_; (try clear hb); (try clear hb2); (try clear hk); (try clear hi)) | ((with_reducible refine gate_callee (f := 81) rfl ?_); refine goesL_ (some 37) rfl rfl Try.func81 (by kernel_rfl) rfl #[.int .i64 a2] rfl (by (try simp only [List.map_toArray, List.map_cons, List.map_nil]); first | done | rfl | (simp only [List.length_drop, List.length_take]; rfl)) ?_; (with_reducible refine (term_Private.calls a2 t799 t800 _ A11.out).mono ?_); rintro e w26 ⟨rfl, hb⟩; refine ⟨_, rfl, ?_⟩; have n0_ := Aside0.mk (below_step (by repeat (first | (with_reducible first | exact HB.out | apply below_alloc | apply pw_below_drewN | apply below_drew1) | exact HB.out)) hb); clear HB; have HB := n0_; clear n0_; (try clear hb); (try clear hb2); (try clear hk); (try clear hi)) | ((with_reducible refine gate_callee (f := 82) rfl ?_); refine goesL_ (some 42) rfl rfl Try.func82 (by kernel_rfl) rfl #[.int .i64 a2] rfl (by (try simp only [List.map_toArray, List.map_cons, List.map_nil]); first | done | rfl | (simp only [List.length_drop, List.length_take]; rfl)) ?_; (with_reducible refine (gemotref1_Private.calls a2 t801 t802 _ A12.out).mono ?_); rintro e w27 ⟨rfl, hb⟩; refine ⟨_, rfl, ?_⟩; have n0_ := Aside0.mk (below_step (by repeat (first | (with_reducible first | exact HB.out | apply below_alloc | apply pw_below_drewN | apply below_drew1) | exact HB.out)) hb); clear HB; have HB := n0_; clear n0_; (try clear hb); (try clear hb2); (try clear hk); (try clear hi)) | ((with_reducible refine gate_callee (f := 65) rfl ?_); refine goesL_ (some 46) rfl rfl Try.func65 (by kernel_rfl) rfl #[.int .u64 a0] rfl (by (try simp only [List.map_toArray, List.map_cons, List.map_nil]); first | done | rfl | (simp only [List.length_drop, List.length_take]; rfl)) ?_; (with_reducible refine (term_Name.calls a0 t803 _ A13.out).mono ?_); rintro e w28 ⟨rfl, hb⟩; refine ⟨_, rfl, ?_⟩; have n0_ := Aside0.mk (below_step (by repeat (first | (with_reducible first | exact HB.out | apply below_alloc | apply pw_below_drewN | apply below_drew1) | exact HB.out)) hb); clear HB; have HB := n0_; clear n0_; (try clear hb); (try clear hb2); (try clear hk); (try clear hi)) | ((with_reducible refine gate_callee (f := 83) rfl ?_); refine goesL_ (some 48) rfl rfl Try.func83 (by kernel_rfl) rfl #[.int .u64 a0] rfl (by (try simp only [List.map_toArray, List.map_cons, List.map_nil]); first | done | rfl | (simp only [List.length_drop, List.length_take]; rfl)) ?_; (with_reducible refine (gemotref1_Name.calls a0 t804 _ A14.out).mono ?_); rintro e w29 ⟨rfl, hb⟩; refine ⟨_, rfl, ?_⟩; have n0_ := Aside0.mk (below_step (by repeat (first | (with_reducible first | exact HB.out | apply below_alloc | apply pw_below_drewN | apply below_drew1) | exact HB.out)) hb); clear HB; have HB := n0_; clear n0_; (try clear hb); (try clear hb2); (try clear hk); (try clear hi)) | (go_at_call 84; (with_reducible refine (term_Number.calls a0 t805 _ A16.out).mono ?_); rintro e w30 ⟨rfl, hb⟩; have n0_ := Aside0.mk (below_step (by repeat (first | (with_reducible first | exact HB.out | apply below_alloc | apply pw_below_drewN | apply below_drew1) | exact HB.out)) hb); clear HB; have HB := n0_; clear n0_; (try clear hb); (try clear hb2); (try clear hk); (try clear hi)) | (go_at_call 85; (with_reducible refine (gemotref1_Number.calls a0 t806 _ A17.out).mono ?_); rintro e w31 ⟨rfl, hb⟩; have n0_ := Aside0.mk (below_step (by repeat (first | (with_reducible first | exact HB.out | apply below_alloc | apply pw_below_drewN | apply below_drew1) | exact HB.out)) hb); clear HB; have HB := n0_; clear n0_; (try clear hb); (try clear hb2); (try clear hk); (try clear hi)) | (go_at_call 86; (with_reducible refine (term_Gen.calls  t807 _ A23.out).mono ?_); rintro e w' ⟨rfl, ⟨nd, rfl⟩⟩))
                    go_ret
                    exact ⟨by first | rfl | (simp [errW_none, errW_some] <;> rfl) | (simp [*, errW_none, errW_some] <;> rfl), by repeat (first | (with_reducible first | exact HB.out | apply below_alloc | apply pw_below_drewN | apply below_drew1) | exact HB.out)⟩
                  · rw [if_neg c22] at H
                    exact absurd H (by simp)
                · rw [if_neg c21] at H
                  exact absurd H (by simp)
              · rw [if_neg c20] at H
                exact absurd H (by simp)
            · rw [if_neg c19] at H
              exact absurd H (by simp)
          · rw [if_neg c18] at H
            exact absurd H (by simp)
        · rw [if_neg c15] at H
          exact absurd H (by simp)

/-- THE ONE PURE STATEMENT of gemotlaw1_TermLeaves: yours. -/
def gemotlaw1_TermLeaves.Pure : Prop := ∀ (a0 : Int) (a1 : ByteArray) (a2 : Int), (Lit.int .u64 a0).wf = true → a1.size ≤ 140737488351232 → (Lit.int .i64 a2).wf = true → ∃ k, gemotlaw1_TermLeaves.f k a0 a1 a2 = some true
theorem gemotlaw1_TermLeaves.walk (P : gemotlaw1_TermLeaves.Pure) (a0 : Int) (a1 : ByteArray) (a2 : Int) (w : World) (w0 : (Lit.int .u64 a0).wf = true) (w1 : a1.size ≤ 140737488351232) (w2 : (Lit.int .i64 a2).wf = true) :
    Calls Try.prog 14 #[.int .u64 a0, .string a1, .int .i64 a2] w fun e w' => e = .returned (.bool true) ∧ Below w.heap.size w w' := by
  obtain ⟨k, h⟩ := P a0 a1 a2 w0 w1 w2
  refine (gemotlaw1_TermLeaves.calls k a0 a1 a2 true w h).mono ?_
  rintro e w' ⟨rfl, hd⟩
  exact ⟨rfl, hd⟩

end Go.Proofs.Ytpfpmjdifnoeoaa.F
namespace Go.Proofs.Ytpfpmjdifnoeoaa.F
open Go.RowKit Go.Proofs.YtpfpmjdifnoeoaaW.PrintWords Go.Proofs.YtpfpmjdifnoeoaaW.PrintLast Go.Proofs.YtpfpmjdifnoeoaaW.PrintMore
attribute [local go_sem] max2_int min2_int max_two min_two max_three min_three max_four min_four
set_option linter.unusedVariables false
set_option linter.unusedSimpArgs false

/-! ### term_Depth: function 87 -/
/-! #### term_Depth_p: function 87 -/
def term_Depth_p.f (a0 : ByteArray) : Option (Int) := (term_Right.f a0).bind fun t808 => (if t808 = true then ((term_scan.f a0).bind fun bt809 => (some bt809.2.1)) else (some 0))
set_option maxHeartbeats 8000000 in
set_option maxRecDepth 100000 in
theorem term_Depth_p.calls (a0 : ByteArray) (r : Int) (w : World) (h : term_Depth_p.f a0 = some r) :
    Calls Try.prog 87 #[.string a0] w fun e w' => e = .returned (.int .i64 r) ∧ Below w.heap.size w w' := by
  have HB := Aside0.mk (Below.refl w.heap.size w)
  have H : ((term_Right.f a0).bind fun t808 => (if t808 = true then ((term_scan.f a0).bind fun bt809 => (some bt809.2.1)) else (some 0))) = some r := h
  clear h
  replace H := Option.bind_eq_some_iff.mp H
  obtain ⟨t808, A20, H⟩ := H
  replace H : (if t808 = true then ((term_scan.f a0).bind fun bt809 => (some bt809.2.1)) else (some 0)) = some r := H
  have A2 := Aside0.mk A20
  clear A20
  by_cases c3 : t808 = true
  · subst c3
    have H1 : ((term_scan.f a0).bind fun bt809 => (some bt809.2.1)) = some r := by rw [if_pos rfl] at H; exact H
    clear H
    have H := H1
    clear H1
    replace H := Option.bind_eq_some_iff.mp H
    obtain ⟨⟨t809, t810, t811⟩, A40, H⟩ := H
    replace H : (some t810) = some r := H
    have A4 := Aside0.mk A40
    clear A40
    obtain rfl := Option.some.inj H
    go_enter Try.func87, Try.ntmps87
    go_wp2_with (first | ((with_reducible refine gate_callee (f := 66) rfl ?_); refine goesL_ (some 7) rfl rfl Try.func66 (by kernel_rfl) rfl #[.string a0] rfl (by (try simp only [List.map_toArray, List.map_cons, List.map_nil]); first | done | rfl | (simp only [List.length_drop, List.length_take]; rfl)) ?_; (with_reducible refine (term_Right.calls a0 true _ A2.out).mono ?_); rintro e w5 ⟨rfl, hb⟩; refine ⟨_, rfl, ?_⟩; have n0_ := Aside0.mk (below_step (by repeat (first | (with_reducible first | exact HB.out | apply below_alloc | apply pw_below_drewN | apply below_drew1) | exact HB.out)) hb); clear HB; have HB := n0_; clear n0_; (try clear hb); (try clear hb2); (try clear hk); (try clear hi)) | ((with_reducible refine gate_callee (f := 131) rfl ?_); refine goesL_ (some 11) rfl rfl Try.func131 (by kernel_rfl) rfl #[.string a0] rfl (by (try simp only [List.map_toArray, List.map_cons, List.map_nil]); first | done | rfl | (simp only [List.length_drop, List.length_take]; rfl)) ?_; (with_reducible refine (term_scan.calls a0 t809 t810 t811 _ A4.out).mono ?_); rintro e w6 ⟨rfl, hb⟩; refine ⟨_, rfl, ?_⟩; have n0_ := Aside0.mk (below_step (by repeat (first | (with_reducible first | exact HB.out | apply below_alloc | apply pw_below_drewN | apply below_drew1) | exact HB.out)) hb); clear HB; have HB := n0_; clear n0_; (try clear hb); (try clear hb2); (try clear hk); (try clear hi)))
    go_ret
    exact ⟨by first | rfl | (simp [errW_none, errW_some] <;> rfl) | (simp [*, errW_none, errW_some] <;> rfl), by repeat (first | (with_reducible first | exact HB.out | apply below_alloc | apply pw_below_drewN | apply below_drew1) | exact HB.out)⟩
  · replace c3 := Bool.eq_false_iff.mpr c3
    subst c3
    have H1 : (some 0) = some r := by rw [if_neg (show ¬ (false = true) by decide)] at H; exact H
    clear H
    have H := H1
    clear H1
    obtain rfl := Option.some.inj H
    go_enter Try.func87, Try.ntmps87
    go_wp2_with (first | ((with_reducible refine gate_callee (f := 66) rfl ?_); refine goesL_ (some 7) rfl rfl Try.func66 (by kernel_rfl) rfl #[.string a0] rfl (by (try simp only [List.map_toArray, List.map_cons, List.map_nil]); first | done | rfl | (simp only [List.length_drop, List.length_take]; rfl)) ?_; (with_reducible refine (term_Right.calls a0 false _ A2.out).mono ?_); rintro e w7 ⟨rfl, hb⟩; refine ⟨_, rfl, ?_⟩; have n0_ := Aside0.mk (below_step (by repeat (first | (with_reducible first | exact HB.out | apply below_alloc | apply pw_below_drewN | apply below_drew1) | exact HB.out)) hb); clear HB; have HB := n0_; clear n0_; (try clear hb); (try clear hb2); (try clear hk); (try clear hi)))
    go_ret
    exact ⟨by first | rfl | (simp [errW_none, errW_some] <;> rfl) | (simp [*, errW_none, errW_some] <;> rfl), by repeat (first | (with_reducible first | exact HB.out | apply below_alloc | apply pw_below_drewN | apply below_drew1) | exact HB.out)⟩

def depthF (t : ByteArray) : Int := if rightB t = true then (scanF t).2.1 else 0
def term_Depth.f (t : ByteArray) : Option Int := if t.size < 9223372036854775000 then some (depthF t) else none
theorem term_Depth.eq (t : ByteArray) (hs : t.size < 9223372036854775000) : term_Depth_p.f t = term_Depth.f t := by
  unfold term_Depth_p.f term_Right.f term_scan.f term_Depth.f depthF
  rw [if_pos hs, if_pos hs, if_pos hs]
  simp only [Option.bind_some]
  split <;> rfl
theorem term_Depth.calls (a0 : ByteArray) (r : Int) (w : World) (h : term_Depth.f a0 = some r) :
    Calls Try.prog 87 #[.string a0] w fun e w' => e = .returned (.int .i64 r) ∧ Below w.heap.size w w' := by
  have hs : a0.size < 9223372036854775000 := by
    unfold term_Depth.f at h
    split at h
    · assumption
    · cases h
  exact term_Depth_p.calls a0 r w ((term_Depth.eq a0 hs).trans h)

end Go.Proofs.Ytpfpmjdifnoeoaa.F
namespace Go.Proofs.Ytpfpmjdifnoeoaa.Pure
set_option linter.unusedVariables false
set_option linter.unusedSimpArgs false
open Go.RowKit Go.Proofs.Ytpfpmjdifnoeoaa.F Go.Proofs.YtpfpmjdifnoeoaaW.PrintWords Go.Proofs.YtpfpmjdifnoeoaaW.PrintLast Go.Proofs.YtpfpmjdifnoeoaaW.PrintMore

theorem rg64 {a : Int} (h : (Lit.int .i64 a).wf = true) : -9223372036854775808 ≤ a ∧ a ≤ 9223372036854775807 := by
  simp only [Lit.wf, IntKind.min, IntKind.max, IntKind.signed, IntKind.bits, Bool.and_eq_true, decide_eq_true_eq, if_true, Bool.false_eq_true, if_false] at h
  omega
theorem rgu64 {a : Int} (h : (Lit.int .u64 a).wf = true) : 0 ≤ a ∧ a < 18446744073709551616 := by
  simp only [Lit.wf, IntKind.min, IntKind.max, IntKind.signed, IntKind.bits, Bool.and_eq_true, decide_eq_true_eq, if_true, Bool.false_eq_true, if_false] at h
  omega
theorem tl_eq {a b : ByteArray} : a.toList = b.toList ↔ a = b :=
  ⟨fun h => by rw [ByteArray.toList_eq, ByteArray.toList_eq] at h; exact ByteArray.ext (Array.ext' h), fun h => by rw [h]⟩
theorem tl_beq {a b c d : ByteArray} (h : a = b ↔ c = d) : (a.toList == b.toList) = (c.toList == d.toList) := by
  rw [Bool.eq_iff_iff, beq_iff_eq, beq_iff_eq, tl_eq, tl_eq]; exact h
theorem tl_beq_int {a b : ByteArray} {x y : Int} (h : a = b ↔ x = y) : (a.toList == b.toList) = (x == y) := by
  rw [Bool.eq_iff_iff, beq_iff_eq, beq_iff_eq, tl_eq]; exact h
theorem ne_bt {a b : ByteArray} (h : bt a 0 ≠ bt b 0) : ¬ a.toList = b.toList := fun q => h (by rw [tl_eq.mp q])
theorem tl_nil {a : ByteArray} : a.toList = ([] : List UInt8) ↔ a = ⟨#[]⟩ := by
  have : (⟨#[]⟩ : ByteArray).toList = [] := by rw [ByteArray.toList_eq]
  constructor
  · intro h; exact tl_eq.mp (h.trans this.symm)
  · intro h; rw [h, this]
theorem depth_right {t : ByteArray} (h : rightB t = true) : depthF t = depF t := by
  have ht := ((right_iff t).mp h).1
  unfold depthF scanF
  rw [if_pos h, if_pos ht.1]; rfl
theorem depth_not {t : ByteArray} (h : rightB t = false) : depthF t = 0 := by
  unfold depthF
  rw [if_neg (by rw [h]; simp)]
theorem leaf_dep {t : ByteArray} (h : Leaf t) (hs : t.size ≤ 20000) : depthF t = 1 := by rw [depth_right (h.right hs), h.tm.2]
theorem Part.dep1 {m : Int} {t : ByteArray} (h : Part m t) : 1 ≤ depF t := h.tm.dep.1
/-! ### Eight bytes say a number -/
theorem cnt_byte {a b : Int} (h : UInt8.ofNat (a % 256).toNat = UInt8.ofNat (b % 256).toNat) : a % 256 = b % 256 := by
  have := congrArg UInt8.toNat h
  rw [UInt8.toNat_ofNat_of_lt' (by show (a % 256).toNat < 256; omega), UInt8.toNat_ofNat_of_lt' (by show (b % 256).toNat < 256; omega)] at this
  omega
theorem cnt_inj {c a b : Int} (ha : 0 ≤ a ∧ a < 18446744073709551616) (hb : 0 ≤ b ∧ b < 18446744073709551616) (h : countF c a = countF c b) : a = b := by
  have h1 := congrArg (fun x => x.data.toList) h
  simp only [countF, strOfNums, eightL, List.map_cons, List.map_nil, List.toList_toArray, List.cons.injEq, and_true, true_and] at h1
  obtain ⟨h7, h6, h5, h4, h3, h2, h1, h0⟩ := h1
  replace h7 := cnt_byte h7
  replace h6 := cnt_byte h6
  replace h5 := cnt_byte h5
  replace h4 := cnt_byte h4
  replace h3 := cnt_byte h3
  replace h2 := cnt_byte h2
  replace h1 := cnt_byte h1
  replace h0 := cnt_byte h0
  have s : ∀ (x : Int) (j : Nat), j ≤ 64 → shr .u64 x (j : Int) = x / ((2 ^ j : Nat) : Int) := by
    intro x j hj
    unfold shr
    rw [Nat.min_eq_left (by show ((j : Int)).toNat ≤ 64; omega), Int.toNat_natCast]
    congr 1
  have t : ∀ (x : Int) (j : Nat), j ≤ 56 → shr .u64 x ((j + 8 : Nat) : Int) = shr .u64 x (j : Int) / 256 := by
    intro x j hj
    rw [s x _ (by omega), s x _ (by omega), Int.ediv_ediv_of_nonneg (Int.natCast_nonneg _), Nat.pow_add]
    simp
  have step : ∀ j : Nat, j ≤ 56 → shr .u64 a (j : Int) % 256 = shr .u64 b (j : Int) % 256 → shr .u64 a ((j + 8 : Nat) : Int) = shr .u64 b ((j + 8 : Nat) : Int) → shr .u64 a (j : Int) = shr .u64 b (j : Int) := by
    intro j hj e1 e2
    rw [t a j hj, t b j hj] at e2
    omega
  have top : shr .u64 a ((64 : Nat) : Int) = shr .u64 b ((64 : Nat) : Int) := by
    rw [s a 64 (by omega), s b 64 (by omega)]
    have : ((2 ^ 64 : Nat) : Int) = 18446744073709551616 := by decide
    rw [this]
    omega
  have r := step 0 (by omega) h0 (step 8 (by omega) h1 (step 16 (by omega) h2 (step 24 (by omega) h3 (step 32 (by omega) h4 (step 40 (by omega) h5 (step 48 (by omega) h6 (step 56 (by omega) h7 top)))))))
  rw [s a 0 (by omega), s b 0 (by omega)] at r
  simpa using r
theorem text_inj {s t : ByteArray} (hs : s.size ≤ 100) (ht : t.size ≤ 100) (h : (textF s).1 = (textF t).1) : s = t := by
  rw [(text_ok hs).1, (text_ok ht).1] at h
  have h2 := congrArg bl h
  rw [bl_app, bl_app] at h2
  exact bl_inj (List.append_inj h2 rfl).2
end Go.Proofs.Ytpfpmjdifnoeoaa.Pure
namespace Go.Proofs.Ytpfpmjdifnoeoaa.Pure
set_option linter.unusedVariables false
set_option linter.unusedSimpArgs false
open Go.RowKit Go.Proofs.Ytpfpmjdifnoeoaa.F Go.Proofs.YtpfpmjdifnoeoaaW.PrintWords Go.Proofs.YtpfpmjdifnoeoaaW.PrintLast Go.Proofs.YtpfpmjdifnoeoaaW.PrintMore

theorem TermLeaves : ∀ (a0 : Int) (a1 : ByteArray) (a2 : Int), ((Lit.int .u64 a0).wf = true) → (a1.size ≤ 9223372036854775807) → ((Lit.int .i64 a2).wf = true) → ∃ k, gemotlaw1_TermLeaves.f k a0 a1 a2 = some true := by
  intro a0 a1 a2 _ _ _
  refine ⟨2, ?_⟩
  unfold gemotlaw1_TermLeaves.f gemotlaw1_shown.f
  rw [Option.bind_some, if_pos rfl]
  cases decide ((a1.size : Int) > 1000)
  · rw [gemotlaw1_TermLeaves.j0, if_neg (by decide)]
    unfold term_Text.f gemotref1_Text.f term_Private.f gemotref1_Private.f term_Name.f gemotref1_Name.f term_Number.f gemotref1_Number.f term_Gen.f
    rw [Option.bind_some, Option.bind_some, Option.bind_some, Option.bind_some, Option.bind_some, Option.bind_some, if_pos rfl, Option.bind_some, Option.bind_some, if_pos rfl, if_pos rfl, if_pos rfl, if_pos rfl, if_pos rfl, Option.bind_some]
    have : (⟨#[103]⟩ : ByteArray).toList = [103] := by rw [ByteArray.toList_eq]
    rw [this]
    rfl
  · rfl
end Go.Proofs.Ytpfpmjdifnoeoaa.Pure
namespace Go.Proofs.Ytpfpmjdifnoeoaa.termLeaves
open Go.ChangeShapes Go.WideShapes Go.ChangeAt Go.RowKit Go.Proofs.Ytpfpmjdifnoeoaa.F Go.Proofs.YtpfpmjdifnoeoaaW.PrintWords Go.Proofs.YtpfpmjdifnoeoaaW.PrintLast Go.Proofs.YtpfpmjdifnoeoaaW.PrintMore
open Go.ChangeMaps (open_string shut_string)
set_option linter.unusedVariables false
set_option linter.unusedSimpArgs false
theorem own : ownKnob Try.prog.godebug = none := by kernel_rfl
theorem laidOut : laidOutB Try.prog = true := by kernel_rfl
set_option maxRecDepth 100000 in
theorem lifted (os : Os) (started : os.Started) (H : Type) (enc : TypeId × Value → H) :
    ReturnsInHanded {} Try.checked os 14 .any (Rows.termLeavesSpec.pre6 enc Try.prog Try.f14 Rows.termLeavesRow.domain false) (Rows.termLeavesSpec.post enc Try.prog Try.f14 false true false false) := by
  refine returnsInHanded_of_change_sized (C := Try.checked) own started (by kernel_rfl) Try.func14
    (ChangeSpec.witness6 (enc := enc) (C := Try.checked) false ⟨#[], #[.int .u64 0, .string ByteArray.empty, .int .i64 0], []⟩ 8 (by kernel_rfl) (by kernel_rfl) (by kernel_rfl) (by kernel_rfl)) ?_
  intro W base args ds gs before hval0 hW hcnd hsz0 _
  have hval : ∀ (j : Nat) t v, Try.f14.params[j]? = some t → args[j]? = some v → Value.okWide Try.prog W .any base t v := hval0
  have hW' := hW
  obtain ⟨p, q, hA0, hV, rfl, hfz, hnd⟩ := hW
  have hA : DataW.TrodAll enc Try.prog W 0 (fun _ => true) true Try.f14.params.toList args.toList ds p := hA0
  rw [Try.params14] at hA hval
  obtain ⟨v0, vs0, d0, ds0, p0, q0, hargs, rfl, rfl, h0, r0⟩ := trodAll_cons hA
  obtain ⟨v1, vs1, d1, ds1, p1, q1, rfl, rfl, rfl, h1, r1⟩ := trodAll_cons r0
  obtain ⟨v2, vs2, d2, ds2, p2, q2, rfl, rfl, rfl, h2, r2⟩ := trodAll_cons r1
  obtain ⟨rfl, rfl, rfl⟩ := trodAll_nil r2
  obtain rfl : args = #[v0, v1, v2] := by cases args; simp_all
  obtain ⟨rfl, rfl⟩ := trodVars_none hV
  have k0 := h0
  have lt0 : ∀ x ∈ p0, x.block < W.heap.size := by obtain ⟨m, hm⟩ := k0; exact DataW.trod_lt m _ _ _ hm
  obtain ⟨a0, rfl, _, _, w0⟩ := open_int Try.underlying72 (hval 0 72 v0 rfl rfl) h0
  have k1 := h1
  have lt1 : ∀ x ∈ p1, x.block < W.heap.size := by obtain ⟨m, hm⟩ := k1; exact DataW.trod_lt m _ _ _ hm
  obtain ⟨a1, rfl, _, _, w1⟩ := open_string Try.underlying9 (hval 1 9 v1 rfl rfl) h1
  have k2 := h2
  have lt2 : ∀ x ∈ p2, x.block < W.heap.size := by obtain ⟨m, hm⟩ := k2; exact DataW.trod_lt m _ _ _ hm
  obtain ⟨a2, rfl, _, _, w2⟩ := open_int Try.underlying3 (hval 2 3 v2 rfl rfl) h2
  obtain ⟨k, hp⟩ := Pure.TermLeaves a0 a1 a2 w0 w1 w2
  refine (gemotlaw1_TermLeaves.calls k a0 a1 a2 true W  hp).mono fun e W' he => ?_
  obtain ⟨he, hb⟩ := he
  subst he
  have bel : Below W.heap.size W W' := hb
  exact ⟨_, rfl, _, _, _, [], _, [], hW', trodAll_mk1 (shut_bool Try.underlying4 _), (trodAll_cons_mk (Below.trod laidOut (by kernel_rfl) (of_decide_eq_true (by kernel_rfl)) k0 bel lt0) (trodAll_cons_mk (Below.trod laidOut (by kernel_rfl) (of_decide_eq_true (by kernel_rfl)) k1 bel lt1) (trodAll_cons_mk (Below.trod laidOut (by kernel_rfl) (of_decide_eq_true (by kernel_rfl)) k2 bel lt2) trodAll_mk0))), rfl, bel.frame _, fun h => by cases h⟩
theorem j0 : (Rows.termLeavesRow.wf (OpenSpec.ofChange Rows.termLeavesSpec)) = true := by kernel_rfl
theorem j1 : (laidOutB Try.pinned.checked.prog) = true := rowfact_laidOut
theorem j2 : (mapsRowed Try.pinned.checked.prog) = true := rowfact_mapsRowed
theorem j3 : (Try.f14.params.all (Try.pinned.checked.prog.readableRec ·)) = true := by kernel_rfl
theorem j4 : (namedTie Try.pinned.checked.prog Rows.termLeavesRow.named Rows.termLeavesSpec.vars) = true := by kernel_rfl
theorem j5 : ((Rows.termLeavesRow.stops == [])) = true := by kernel_rfl
theorem j6 : ((Try.pinned.checked.prog.stops == [])) = true := by kernel_rfl
theorem j7 : ((Rows.termLeavesRow.knobs == [])) = true := by kernel_rfl
theorem j8 : ((Try.pinned.checked.prog.stopKnobs == [])) = true := by kernel_rfl
theorem j9 : ((Rows.termLeavesRow.inPlace == Try.pinned.checked.prog.inPlace 14)) = true := by kernel_rfl
theorem j10 : ((Rows.termLeavesRow.unfollowed == Try.pinned.checked.prog.unfollowed 14)) = true := by kernel_rfl
theorem j11 : ((Rows.termLeavesRow.recurses == Try.pinned.checked.prog.recurses 14)) = true := by kernel_rfl
theorem j12 : ((Rows.termLeavesRow.named == Try.pinned.checked.prog.varsNamed 14)) = true := by kernel_rfl
theorem j13 : ((Rows.termLeavesRow.maps == (Try.f14.params.toList ++ Rows.termLeavesSpec.plain.varTypes Try.pinned.checked.prog).any (Try.pinned.checked.prog.mapsRec ·))) = true := by kernel_rfl
theorem j14 : ((Rows.termLeavesRow.ifaces == (Try.f14.params.toList ++ Rows.termLeavesSpec.plain.varTypes Try.pinned.checked.prog).any (Try.pinned.checked.prog.ifacesRec ·))) = true := by kernel_rfl
theorem j15 : ((Rows.termLeavesRow.mapsOut == Try.pinned.checked.prog.mapsAmong Try.f14.resultTypes.toList)) = true := by kernel_rfl
theorem j16 : ((Rows.termLeavesRow.loops == (Try.f14.params.toList ++ Rows.termLeavesSpec.plain.varTypes Try.pinned.checked.prog).any (Try.pinned.checked.prog.loopsFrom ·))) = true := by kernel_rfl
theorem j17 : ((Rows.termLeavesRow.wideKeys == (Try.f14.params.toList ++ Rows.termLeavesSpec.plain.varTypes Try.pinned.checked.prog ++ Try.f14.resultTypes.toList).any (Try.pinned.checked.prog.wideKeysFrom ·))) = true := by kernel_rfl
theorem j18 : (Rows.termLeavesSpec.vars.all (Try.pinned.checked.prog.varReadable ·)) = true := by kernel_rfl
theorem j19 : (Try.f14.resultTypes.all (fun t => Try.pinned.checked.prog.readableRec t && decide (t < Try.pinned.checked.prog.types.size))) = true := by kernel_rfl
theorem j20 : ((Rows.termLeavesRow.ifacesOut == Try.f14.resultTypes.toList.any (Try.pinned.checked.prog.ifacesRec ·))) = true := by kernel_rfl
theorem j21 : ((Rows.termLeavesRow.loopsOut == Try.f14.resultTypes.toList.any (Try.pinned.checked.prog.loopsFrom ·))) = true := by kernel_rfl
theorem j22 : ((Rows.termLeavesRow.plainKeys == Try.pinned.checked.prog.plainKeys)) = true := by kernel_rfl
theorem j23 : (Rows.termLeavesRow.shortTexts.isNone) = true := by kernel_rfl
theorem j24 : (Try.pinned.checked.prog.stopsHeard) = true := rowfact_stopsHeard
theorem j25 : (Try.pinned.checked.prog.mayEnter) = true := rowfact_mayEnter
theorem j26 : ((Rows.termLeavesRow.lifted == Try.pinned.checked.prog.liftsFinal)) = true := by rw [rowfact_lifts]; kernel_rfl
theorem j27 : ((Try.pinned.checked.prog.make == some Rows.termLeavesRow.make)) = true := by rw [rowfact_make]; kernel_rfl
theorem j28 : ((Rows.termLeavesRow.kinds == (if Rows.termLeavesRow.domain.isEmpty then [] else Try.f14.params.toList.map fun t => match Try.pinned.checked.prog.underlying t with | some (.int k) => some k | _ => none))) = true := by kernel_rfl
theorem j29 : ((Rows.termLeavesRow.pinned == Rows.termLeavesRow.pinnedBy)) = true := by kernel_rfl
theorem j30 : ((Rows.termLeavesRow.veiled == (Try.f14.params.toList ++ Rows.termLeavesSpec.plain.varTypes Try.pinned.checked.prog ++ Try.f14.resultTypes.toList).any (Try.pinned.checked.prog.veiledRec ·))) = true := by kernel_rfl
theorem j31 : (Rows.termLeavesRow.veiledFits Try.pinned.checked.prog Try.f14.params.toList (Try.f14.params.toList ++ Rows.termLeavesSpec.plain.varTypes Try.pinned.checked.prog ++ Try.f14.resultTypes.toList)) = true := by kernel_rfl
set_option maxRecDepth 100000 in
theorem closed : joinedFacts Try.pinned.checked.prog 14 Try.f14 Rows.termLeavesSpec Rows.termLeavesRow = true := gen_closed _ _ _ _ _ j0 j1 j2 j3 j4 j5 j6 j7 j8 j9 j10 j11 j12 j13 j14 j15 j16 j17 j18 j19 j20 j21 j22 j23 j24 j25 j26 j27 j28 j29 j30 j31
theorem over : Rows.termLeavesRow.holds Try.pinned (OpenSpec.ofChange Rows.termLeavesSpec) :=
  OpenClaim.holds_of_wide 14 Try.f14 rfl rfl rfl rfl rfl rfl rfl ⟨rfl, rfl, rfl, rfl, rfl⟩ rfl rfl rfl rfl rfl (by kernel_rfl) Try.func14 closed
    (of_decide_eq_true (by kernel_rfl)) (by unfold Func.isWrapper; first | (rw [if_pos (by decide +kernel)]; kernel_rfl) | (rw [if_neg (by decide +kernel)]; exact ⟨rfl, rfl⟩))
    (fun os started H enc _ => lifted os started H enc)
end Go.Proofs.Ytpfpmjdifnoeoaa.termLeaves
namespace Go.Proofs.Ytpfpmjdifnoeoaa
/-- The given statement, proved. -/
theorem termLeaves_holds : Rows.TermLeavesSaid := termLeaves.over
#print axioms termLeaves_holds
end Go.Proofs.Ytpfpmjdifnoeoaa
