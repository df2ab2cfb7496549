-- Laid by mk.py (a program of this session) over the seat's translation.
import Derived.Test.YtpfpmjdifnoeoaaF0
import Derived.Test.YtpfpmjdifnoeoaaLTerm3
namespace Go.Proofs.Ytpfpmjdifnoeoaa.F
open Go.RowKit Go.Proofs.YtpfpmjdifnoeoaaW.PrintWords Go.Proofs.YtpfpmjdifnoeoaaW.PrintLast Go.Proofs.YtpfpmjdifnoeoaaW.PrintMore
attribute [local go_sem] max2_int min2_int max_two min_two max_three min_three max_four min_four
set_option linter.unusedVariables false
set_option linter.unusedSimpArgs false

/-! ### gemotref1_Raised: function 140 -/
/-! #### gemotref1_Raised_p: function 140 -/
mutual
def gemotref1_Raised_p.l0 : Nat → List ByteArray → ByteArray → Option (ByteArray)
  | 0, _, _ => none
  | k + 1, x3, x5 => if (x3.length : Int) > 0 then (gemotref1_Raised_p.l1 k x3 x5 0 0) else (some x5)
def gemotref1_Raised_p.l1 : Nat → List ByteArray → ByteArray → Int → Int → Option (ByteArray)
  | 0, _, _, _, _ => none
  | k + 1, x3, x5, x6, x7 => if x7 < (x3.length : Int) then (if 0 ≤ x7 then (if 0 ≤ x6 then (if x6 < (x3.length : Int) then (if (Op.bytesLess ((rdOf ByteArray.empty x3 x7).toList) ((rdOf ByteArray.empty x3 x6).toList)) = true then (gemotref1_Raised_p.l1 k x3 x5 x7 (wrap64 (x7 + 1))) else (gemotref1_Raised_p.l1 k x3 x5 x6 (wrap64 (x7 + 1)))) else (none)) else (none)) else (none)) else (if 0 ≤ x6 then (if x6 < (x3.length : Int) then (if x5.size + (rdOf ByteArray.empty x3 x6).size ≤ 9223372036854775807 then ((some (([] : List ByteArray) : List ByteArray)).bind fun y847 => (if x6 ≤ (x3.length : Int) then ((some (x3.take (x6 : Int).toNat : List ByteArray)).bind fun y850 => (if y847.length + y850.length < 8796093022208 then ((some (y847 ++ y850 : List ByteArray)).bind fun y854 => (if 0 ≤ (wrap64 (x6 + 1)) then (if (wrap64 (x6 + 1)) ≤ (x3.length : Int) then ((some (x3.drop ((wrap64 (x6 + 1)) : Int).toNat : List ByteArray)).bind fun y857 => (if y854.length + y857.length < 8796093022208 then (gemotref1_Raised_p.l0 k (y854 ++ y857) (x5 ++ (rdOf ByteArray.empty x3 x6))) else (none))) else (none)) else (none))) else (none))) else (none))) else (none)) else (none)) else (none))
end
def gemotref1_Raised_p.f (k : Nat) (l0 : List ByteArray) : Option (ByteArray) := if (l0.length : Int) = 0 then (some (⟨#[103]⟩ : ByteArray)) else ((some (([] : List ByteArray) : List ByteArray)).bind fun y835 => (if y835.length + l0.length < 8796093022208 then ((some (([((l0.length : Int)) % 256] : List Int) : List Int)).bind fun y841 => (if 1 + (strOfNums y841).size ≤ 9223372036854775807 then (gemotref1_Raised_p.l0 k (y835 ++ l0) ((⟨#[101]⟩ : ByteArray) ++ (strOfNums y841))) else (none))) else (none)))
theorem gemotref1_Raised_p.mono_l : ∀ k, (∀ y0 y1, LeO (gemotref1_Raised_p.l0 k y0 y1) (gemotref1_Raised_p.l0 (k + 1) y0 y1)) ∧ (∀ y0 y1 y2 y3, LeO (gemotref1_Raised_p.l1 k y0 y1 y2 y3) (gemotref1_Raised_p.l1 (k + 1) y0 y1 y2 y3))
  | 0 => ⟨fun _ _ r h => by simp [gemotref1_Raised_p.l0] at h, fun _ _ _ _ r h => by simp [gemotref1_Raised_p.l1] at h⟩
  | k + 1 => by
    obtain ⟨ih0, ih1⟩ := gemotref1_Raised_p.mono_l k
    refine ⟨?_, ?_⟩
    · intro y0 y1
      unfold gemotref1_Raised_p.l0
      repeat' first
      | (with_reducible exact ih0 _ _)
      | (with_reducible exact ih1 _ _ _ _)
      | (with_reducible exact LeO.refl _)
      | (with_reducible exact LeO.none _)
      | (with_reducible refine LeO.ite ?_ ?_)
      | (with_reducible refine LeO.bind ?_ (fun _ => ?_))
      | exact ih0 _ _
      | exact ih1 _ _ _ _
      | exact LeO.none _
      | refine LeO.ite ?_ ?_
      | refine LeO.bind ?_ (fun _ => ?_)
    · intro y0 y1 y2 y3
      unfold gemotref1_Raised_p.l1
      repeat' first
      | (with_reducible exact ih0 _ _)
      | (with_reducible exact ih1 _ _ _ _)
      | (with_reducible exact LeO.refl _)
      | (with_reducible exact LeO.none _)
      | (with_reducible refine LeO.ite ?_ ?_)
      | (with_reducible refine LeO.bind ?_ (fun _ => ?_))
      | exact ih0 _ _
      | exact ih1 _ _ _ _
      | exact LeO.none _
      | refine LeO.ite ?_ ?_
      | refine LeO.bind ?_ (fun _ => ?_)
theorem gemotref1_Raised_p.mono : ∀ a0 k, LeO (gemotref1_Raised_p.f k a0) (gemotref1_Raised_p.f (k + 1) a0) := by
  intro a0 k
  obtain ⟨ih0, ih1⟩ := gemotref1_Raised_p.mono_l k
  unfold gemotref1_Raised_p.f
  repeat' first
      | (with_reducible exact ih0 _ _)
      | (with_reducible exact ih1 _ _ _ _)
      | (with_reducible exact LeO.refl _)
      | (with_reducible exact LeO.none _)
      | (with_reducible refine LeO.ite ?_ ?_)
      | (with_reducible refine LeO.bind ?_ (fun _ => ?_))
      | exact ih0 _ _
      | exact ih1 _ _ _ _
      | exact LeO.none _
      | refine LeO.ite ?_ ?_
      | refine LeO.bind ?_ (fun _ => ?_)
def gemotref1_Raised_p.T11 : Bool × List (List Nat × List Nat) := (true, [([], []), ([], []), ([0, 1], [0, 1]), ([2], [2]), ([], []), ([], []), ([4, 5], [4, 5]), ([6], [6]), ([3, 7], [3, 7])])
def gemotref1_Raised_p.B11 : List Nat := [0, 0, 3, 7, 0, 0, 48, 112, 255]
theorem gemotref1_Raised_p.tab11 : rtab .any (opsOf Try.f140 11) = gemotref1_Raised_p.T11 := by kernel_rfl
theorem gemotref1_Raised_p.bits11 : waitsOk gemotref1_Raised_p.T11.2 gemotref1_Raised_p.B11 = true := by kernel_rfl
def gemotref1_Raised_p.T14 : Bool × List (List Nat × List Nat) := (true, [([], []), ([], []), ([], []), ([1, 2], [1, 2]), ([0, 3], [0, 3]), ([], []), ([], []), ([6], [6]), ([5, 7], [5, 7]), ([4, 8, 4], [4, 8]), ([9, 9, 0, 1, 2, 3, 4, 5, 6, 7, 8, 9], [1, 5, 9])])
def gemotref1_Raised_p.B14 : List Nat := [0, 0, 0, 6, 15, 0, 0, 64, 224, 511, 1023]
theorem gemotref1_Raised_p.tab14 : rtab .any (opsOf Try.f140 14) = gemotref1_Raised_p.T14 := by kernel_rfl
theorem gemotref1_Raised_p.bits14 : waitsOk gemotref1_Raised_p.T14.2 gemotref1_Raised_p.B14 = true := by kernel_rfl
set_option maxHeartbeats 8000000 in
set_option maxRecDepth 100000 in
theorem gemotref1_Raised_p.calls (k : Nat) (A0 : Option Addr) (c0 : Nat) (l0 : List ByteArray) (r : ByteArray) (w : World) (hr0 : Kd.C Kd.string w A0 l0.length l0) (hc0 : l0.length ≤ c0) (h : gemotref1_Raised_p.f k l0 = some r) :
    Calls Try.prog 140 #[.slice A0 l0.length c0] w fun e w' => e = .returned (.string r) ∧ Below w.heap.size w w' := by
  have HR0 := Aside0.mk hr0
  have HC0 := Aside0.mk hc0
  clear hr0 hc0
  have HB := Aside0.mk (Below.refl w.heap.size w)
  have H : (if (l0.length : Int) = 0 then (some (⟨#[103]⟩ : ByteArray)) else ((some (([] : List ByteArray) : List ByteArray)).bind fun y835 => (if y835.length + l0.length < 8796093022208 then ((some (([((l0.length : Int)) % 256] : List Int) : List Int)).bind fun y841 => (if 1 + (strOfNums y841).size ≤ 9223372036854775807 then (gemotref1_Raised_p.l0 k (y835 ++ l0) ((⟨#[101]⟩ : ByteArray) ++ (strOfNums y841))) else (none))) else (none)))) = some r := h
  clear h
  by_cases c2 : (l0.length : Int) = 0
  · rw [if_pos c2] at H
    have c2b0 : ((l0.length : Int) == 0) = true := beq_iff_eq.mpr c2
    have c2b1 : ((l0.length : Int) != 0) = false := bne_eq_false_iff_eq.mpr c2
    clear c2
    obtain rfl := Option.some.inj H
    go_enter Try.func140, Try.ntmps140
    go_wp2
    go_ret
    exact ⟨by first | rfl | (simp [errW_none, errW_some] <;> rfl) | (simp [*, errW_none, errW_some] <;> rfl), by repeat (first | (with_reducible first | exact HB.out | apply below_alloc | apply pw_below_drewN | apply below_drew1) | exact HB.out)⟩
  · rw [if_neg c2] at H
    have c2b0 : ((l0.length : Int) == 0) = false := beq_eq_false_iff_ne.mpr c2
    have c2b1 : ((l0.length : Int) != 0) = true := bne_iff_ne.mpr c2
    have c2b2 : ¬ (l0 = []) := fun h_ => c2 (by rw [h_]; rfl)
    obtain ⟨y835, hy835⟩ : ∃ y_ : List ByteArray, y_ = (([] : List ByteArray)) := ⟨_, rfl⟩
    replace H : (if y835.length + l0.length < 8796093022208 then ((some (([((l0.length : Int)) % 256] : List Int) : List Int)).bind fun y841 => (if 1 + (strOfNums y841).size ≤ 9223372036854775807 then (gemotref1_Raised_p.l0 k (y835 ++ l0) ((⟨#[101]⟩ : ByteArray) ++ (strOfNums y841))) else (none))) else (none)) = some r := by first | (rw [hy835]; with_reducible exact H) | (have H2_ := (Option.bind_some _ _).symm.trans H; rw [hy835]; with_reducible exact H2_) | (have H2_ := (Option.bind_some _ _).symm.trans H; with_reducible exact H2_) | with_reducible exact H | (rw [hy835]; exact H) | exact H
    have Ny835 := Aside0.mk hy835
    clear hy835
    by_cases c3 : y835.length + l0.length < 8796093022208
    · rw [if_pos c3] at H
      have LMc3 := Aside0.mk c3
      clear c3
      obtain ⟨y838, hy838⟩ : ∃ y_ : List ByteArray, y_ = (y835 ++ l0) := ⟨_, rfl⟩
      replace H : ((some (([((l0.length : Int)) % 256] : List Int) : List Int)).bind fun y841 => (if 1 + (strOfNums y841).size ≤ 9223372036854775807 then (gemotref1_Raised_p.l0 k y838 ((⟨#[101]⟩ : ByteArray) ++ (strOfNums y841))) else (none))) = some r := by first | (rw [hy838]; with_reducible exact H) | (have H2_ := (Option.bind_some _ _).symm.trans H; rw [hy838]; with_reducible exact H2_) | (have H2_ := (Option.bind_some _ _).symm.trans H; with_reducible exact H2_) | with_reducible exact H | (rw [hy838]; exact H) | exact H
      have Ny838 := Aside0.mk hy838
      clear hy838
      obtain ⟨y841, hy841⟩ : ∃ y_ : List Int, y_ = (([((l0.length : Int)) % 256] : List Int)) := ⟨_, rfl⟩
      replace H : (if 1 + (strOfNums y841).size ≤ 9223372036854775807 then (gemotref1_Raised_p.l0 k y838 ((⟨#[101]⟩ : ByteArray) ++ (strOfNums y841))) else (none)) = some r := by first | (rw [hy841]; with_reducible exact H) | (have H2_ := (Option.bind_some _ _).symm.trans H; rw [hy841]; with_reducible exact H2_) | (have H2_ := (Option.bind_some _ _).symm.trans H; with_reducible exact H2_) | with_reducible exact H | (rw [hy841]; exact H) | exact H
      have Ny841 := Aside0.mk hy841
      clear hy841
      by_cases c4 : 1 + (strOfNums y841).size ≤ 9223372036854775807
      · rw [if_pos c4] at H
        have c4b0 := eq_true c4
        have c4b1 : decide (1 + (strOfNums y841).size ≤ 9223372036854775807) = true := decide_eq_true c4
        try have c4b2 : (9223372036854775807 < 1 + (strOfNums y841).size) = False := eq_false (Nat.not_lt.2 c4)
        have H' := Aside0.mk H
        clear H
        go_enter Try.func140, Try.ntmps140
        go_wp2_with (first | ((with_reducible refine gate_dst (N := 11) rfl ?_); refine Kd.R_lit Kd.string _ 9 ?hg (N := 11) ?hd (xs := ([] : List ByteArray)) (inner := []) (ok := fun _ => True) (okp := fun _ => True) ?hr ?hp (fun _ hk => hk) trivial (Below.refl _ _) (Nat.le_refl _) (by simp) ?_; (case hd => rfl); (case hg => rfl); (case hr => first | (go_simp; done) | (go_simp; rfl)); (case hp => exact (Reps.none _ _)); intro v836 w5 ho6 hb hg_ hnew_; clear hg_ hnew_; (first | rw [← Ny835.out] at ho6 | (simp only [Int.reduceToNat] at ho6; rw [← Ny835.out] at ho6)); have n0_ := Aside0.mk (Kd.R_lower ho6 (below_size (by repeat (first | (with_reducible first | exact HB.out | apply below_alloc | apply pw_below_drewN | apply below_drew1) | exact HB.out)))); have n1_ := Aside0.mk (below_step (by repeat (first | (with_reducible first | exact HB.out | apply below_alloc | apply pw_below_drewN | apply below_drew1) | exact HB.out)) hb); clear HB; have HO837 := n0_; have HB := n1_; clear n0_ n1_; clear hb ho6) | ((with_reducible refine gate_builtin (b := .append) (xs := #[.tmp 11, .tmp 12]) rfl ?_); at_builtin; refine Kd.R_append_rows Kd.string (w0 := w) w.heap.size rfl (.tmp 11) (.tmp 12) 43 9 (.string ⟨#[]⟩) 16 rfl Try.underlying43 info9 rfl (by decide) (by omega) v836 y835 l0 _ _ _ (fun _ => True) (fun _ => False) rfl rfl ?aO ?aR (fun _ _ h => h) (fun _ h => h.elim) ?aF ?aB ?aS ?aL ?_; (case aR => repeat (first | exact (Kd.C_below HR0.out HB.out) | (with_reducible refine Kd.C_alloc ?_ _) | (with_reducible refine Kd.C_drewN ?_ _) | (with_reducible refine Kd.C_drew ?_))); (case aB => exact (by repeat (first | (with_reducible first | exact HB.out | apply below_alloc | apply pw_below_drewN | apply below_drew1) | exact HB.out))); (case aF => exact (fun _ _ => trivial)); (case aO => exact (by (with_reducible repeat (first | apply Kd.R_alloc | apply Kd.R_drewN | apply Kd.R_drew)); exact HO837.out)); (case aS => exact (below_size (by repeat (first | (with_reducible first | exact HB.out | apply below_alloc | apply pw_below_drewN | apply below_drew1) | exact HB.out)))); (case aL => have := LMc3.out; omega); intro v839 w7 ho hb hg hat; rw [← Ny838.out] at ho; have n0_ := Aside0.mk (hb); have n1_ := Aside0.mk (ho); clear HB; clear HO837; have HB := n0_; have HO840 := n1_; clear n0_ n1_; clear ho hb hg hat) | ((with_reducible refine gate_dst (N := 17) rfl ?_); refine Kd.R_lit (Kd.int .u8) _ 5 ?hg (N := 17) ?hd (xs := ([((l0.length : Int)) % 256] : List Int)) (inner := [.int .u8 (((l0.length : Int)) % 256)]) (ok := fun _ => True) (okp := fun _ => True) ?hr ?hp (fun _ hk => hk) trivial (Below.refl _ _) (Nat.le_refl _) (by simp) ?_; (case hd => rfl); (case hg => rfl); (case hr => first | (go_simp; done) | (go_simp; rfl)); (case hp => exact (Reps.one (show Kd.M (Kd.int .u8) _ _ _ (((l0.length : Int)) % 256) [.int .u8 (((l0.length : Int)) % 256)] from rfl) (Reps.none _ _))); intro v842 w8 ho9 hb hg_ hnew_; clear hg_ hnew_; (first | rw [← Ny841.out] at ho9 | (simp only [Int.reduceToNat] at ho9; rw [← Ny841.out] at ho9)); have n0_ := Aside0.mk (Kd.R_below (by (with_reducible repeat (first | apply Kd.R_alloc | apply Kd.R_drewN | apply Kd.R_drew)); exact HO840.out) hb); have n1_ := Aside0.mk (Kd.R_lower ho9 (below_size (by repeat (first | (with_reducible first | exact HB.out | apply below_alloc | apply pw_below_drewN | apply below_drew1) | exact HB.out)))); have n2_ := Aside0.mk (below_step (by repeat (first | (with_reducible first | exact HB.out | apply below_alloc | apply pw_below_drewN | apply below_drew1) | exact HB.out)) hb); clear HO840; clear HB; have HO840 := n0_; have HO843 := n1_; have HB := n2_; clear n0_ n1_ n2_; clear hb ho9; have hcv10 := own_string (P := Try.prog) Try.underlying148 Try.underlying5 Try.underlying9 (Kd.own_of_R HO843.out)))
        go_loopg [3, 5] k (fun kq v3 v5 w' => ∃ (x3_1 : List ByteArray) (x5_1 : ByteArray), v5 = .string x5_1 ∧ Aside0 (gemotref1_Raised_p.l0 kq x3_1 x5_1 = some r) ∧ Aside0 (kq ≤ k) ∧ Aside0 (Kd.R Kd.string 9 w' w.heap.size (fun _ => True) v3 x3_1) ∧ Aside0 (Below w.heap.size w w'))
        case atStart => exact ⟨(y838), ((⟨#[101]⟩ : ByteArray) ++ (strOfNums y841)), (by first | rfl | (simp; done) | (simp [*]; done)), H', ⟨Nat.le_refl _⟩, ⟨by (with_reducible repeat (first | apply Kd.R_alloc | apply Kd.R_drewN | apply Kd.R_drew)); exact HO840.out⟩, ⟨by repeat (first | (with_reducible first | exact HB.out | apply below_alloc | apply pw_below_drewN | apply below_drew1) | exact HB.out)⟩⟩
        case round =>
          clear H'
          try clear c1
          try clear hcv1
          try clear c2
          try clear c2b0
          try clear c2b1
          try clear c2b2
          try clear p2
          try clear c3
          try clear c4
          try clear c4b0
          try clear c4b1
          try clear c4b2
          try clear hcv10
          obtain ⟨x3_1, x5_1, rfl, HA, HK1, HO_3, HB⟩ := hrel
          cases gk with
          | zero => exact absurd HA.out (by simp [gemotref1_Raised_p.l0])
          | succ k1 =>
            have H := HA.out
            clear HA
            simp only [gemotref1_Raised_p.l0] at H
            by_cases c11 : (x3_1.length : Int) > 0
            · rw [if_pos c11] at H
              have c11b0 : decide (0 < (x3_1.length : Int)) = true := decide_eq_true c11
              have c11b1 : decide (0 < x3_1.length) = true := decide_eq_true (by omega)
              clear c11
              have H' := Aside0.mk H
              clear H
              obtain ⟨Ao12, co12, eo12⟩ := Kd.R_slice HO_3.out
              subst eo12
              go_wp2
              go_loopg [6, 7] k1 (fun kq v6 v7 w' => ∃ (x6_2 : Int) (x7_2 : Int), v6 = .int .i64 x6_2 ∧ v7 = .int .i64 x7_2 ∧ Aside0 (gemotref1_Raised_p.l1 kq x3_1 x5_1 x6_2 x7_2 = some r) ∧ Aside0 (kq ≤ k1) ∧ Aside0 (Kd.R Kd.string 9 w' w.heap.size (fun _ => True) (.slice Ao12 x3_1.length co12) x3_1) ∧ Aside0 (Below w.heap.size w w'))
              case atStart => exact ⟨(0), (0), (by first | rfl | (simp; done) | (simp [*]; done)), (by first | rfl | (simp; done) | (simp [*]; done)), H', ⟨Nat.le_refl _⟩, ⟨by (with_reducible repeat (first | apply Kd.R_alloc | apply Kd.R_drewN | apply Kd.R_drew)); exact HO_3.out⟩, ⟨by repeat (first | (with_reducible first | exact HB.out | apply below_alloc | apply pw_below_drewN | apply below_drew1) | exact HB.out)⟩⟩
              case round =>
                clear H'
                try clear c1
                try clear hcv1
                try clear c2
                try clear c2b0
                try clear c2b1
                try clear c2b2
                try clear p2
                try clear c3
                try clear c4
                try clear c4b0
                try clear c4b1
                try clear c4b2
                try clear hcv10
                try clear c11
                try clear c11b0
                try clear c11b1
                try clear p2
                obtain ⟨x6_2, x7_2, rfl, rfl, HA, HK2, HO_3, HB⟩ := hrel
                cases gk with
                | zero => exact absurd HA.out (by simp [gemotref1_Raised_p.l1])
                | succ k2 =>
                  have H := HA.out
                  clear HA
                  simp only [gemotref1_Raised_p.l1] at H
                  by_cases c13 : x7_2 < (x3_1.length : Int)
                  · rw [if_pos c13] at H
                    have c13b0 : decide (x7_2 < (x3_1.length : Int)) = true := decide_eq_true c13
                    clear c13
                    by_cases c14 : 0 ≤ x7_2
                    · rw [if_pos c14] at H
                      have c14b0 : decide (0 ≤ x7_2) = true := decide_eq_true c14
                      clear c14
                      by_cases c15 : 0 ≤ x6_2
                      · rw [if_pos c15] at H
                        have c15b0 : decide (0 ≤ x6_2) = true := decide_eq_true c15
                        clear c15
                        by_cases c16 : x6_2 < (x3_1.length : Int)
                        · rw [if_pos c16] at H
                          have c16b0 : decide (x6_2 < (x3_1.length : Int)) = true := decide_eq_true c16
                          clear c16
                          by_cases c17 : (Op.bytesLess ((rdOf ByteArray.empty x3_1 x7_2).toList) ((rdOf ByteArray.empty x3_1 x6_2).toList)) = true
                          · rw [if_pos c17] at H
                            have c17b0 : (Op.bytesLess ((rdOf ByteArray.empty x3_1 x7_2).toList) ((rdOf ByteArray.empty x3_1 x6_2).toList)) = true := c17
                            clear c17
                            have H' := Aside0.mk H
                            clear H
                            try go_wp2
                            have n0_ := Aside0.mk (Kd.R_drew HO_3.out)
                            have n1_ := Aside0.mk (below_drew1 HB.out)
                            clear HO_3
                            clear HB
                            have HO_3 := n0_
                            have HB := n1_
                            clear n0_ n1_
                            have p844 : 0 ≤ (x7_2 : Int) := of_decide_eq_true (by first | (with_reducible assumption) | assumption)
                            have q844 : x7_2 < (x3_1.length : Int) := of_decide_eq_true (by first | (with_reducible assumption) | assumption)
                            obtain ⟨ad844, e844, hx844_0⟩ := Kd.at_string (Kd.R_reads' HO_3.out).2.2 x7_2 p844 q844
                            cases e844
                            replace p844 := eq_true p844
                            replace q844 := eq_true q844
                            have p845 : 0 ≤ (x6_2 : Int) := of_decide_eq_true (by first | (with_reducible assumption) | assumption)
                            have q845 : x6_2 < (x3_1.length : Int) := of_decide_eq_true (by first | (with_reducible assumption) | assumption)
                            obtain ⟨ad845, e845, hx845_0⟩ := Kd.at_string (Kd.R_reads' HO_3.out).2.2 x6_2 p845 q845
                            obtain rfl : ad844 = ad845 := (by injection e845)
                            replace p845 := eq_true p845
                            replace q845 := eq_true q845
                            refine start_ (n := 9) (S := fun w' => w'.cell? (ad844.add (x7_2).toNat) = some (.string (rdOf ByteArray.empty x3_1 x7_2)) ∧ w'.cell? (ad844.add (x6_2).toNat) = some (.string (rdOf ByteArray.empty x3_1 x6_2))) (ds := []) #[false, false, false, false, false, false, false, false, false] (by kernel_rfl) rfl rfl ⟨hx844_0, hx845_0⟩ (fun hHeld => ?_); refine with_tabW gemotref1_Raised_p.tab11 gemotref1_Raised_p.bits11 (fun HT_ HW_ => ?_)
                            generalize wr.drew = w18 at HO_3 HB hx844_0 hx845_0 hHeld ⊢
                            refine pure_ (i := 0) (N := some 30) (v := ?_) (a' := ?_) #[true, false, false, false, false, false, false, false, false] rfl rfl (any_of HT_.out (by kernel_rfl)) (fun _ _ _ h => h) (Or.inl ⟨by rfl, ?_⟩) ?_ ?_
                            rotate_left
                            · intro w'
                              go_simp
                              with_reducible rfl
                            rotate_left
                            · simp only [Act.put, List.setIfInBounds_toArray, List.set_cons_zero, List.set_cons_succ, i64_w, i32_w]
                              rfl
                            refine pure_ (i := 1) (N := some 31) (v := ?_) (a' := ?_) #[true, true, false, false, false, false, false, false, false] rfl rfl (any_of HT_.out (by kernel_rfl)) (fun _ _ _ h => h) (Or.inl ⟨by rfl, ?_⟩) ?_ ?_
                            rotate_left
                            · intro w'
                              go_simp
                              with_reducible rfl
                            rotate_left
                            · simp only [Act.put, List.setIfInBounds_toArray, List.set_cons_zero, List.set_cons_succ, i64_w, i32_w]
                              rfl
                            refine pure_ (i := 2) (N := some 32) (v := ?_) (a' := ?_) #[true, true, true, false, false, false, false, false, false] rfl rfl (any_of HT_.out (by kernel_rfl)) (fun _ _ _ h => h) (Or.inl ⟨by rfl, ?_⟩) ?_ ?_
                            rotate_left
                            · intro w'
                              go_simp
                              with_reducible rfl
                            rotate_left
                            · simp only [Act.put, List.setIfInBounds_toArray, List.set_cons_zero, List.set_cons_succ, i64_w, i32_w]
                              rfl
                            refine pure_ (i := 4) (N := some 34) (v := ?_) (a' := ?_) #[true, true, true, false, true, false, false, false, false] rfl rfl (any_of HT_.out (by kernel_rfl)) (fun _ _ _ h => h) (Or.inl ⟨by rfl, ?_⟩) ?_ ?_
                            rotate_left
                            · intro w'
                              go_simp
                              with_reducible rfl
                            rotate_left
                            · simp only [Act.put, List.setIfInBounds_toArray, List.set_cons_zero, List.set_cons_succ, i64_w, i32_w]
                              rfl
                            refine pure_ (i := 5) (N := some 35) (v := ?_) (a' := ?_) #[true, true, true, false, true, true, false, false, false] rfl rfl (any_of HT_.out (by kernel_rfl)) (fun _ _ _ h => h) (Or.inl ⟨by rfl, ?_⟩) ?_ ?_
                            rotate_left
                            · intro w'
                              go_simp
                              with_reducible rfl
                            rotate_left
                            · simp only [Act.put, List.setIfInBounds_toArray, List.set_cons_zero, List.set_cons_succ, i64_w, i32_w]
                              rfl
                            refine pure_ (i := 6) (N := some 36) (v := ?_) (a' := ?_) #[true, true, true, false, true, true, true, false, false] rfl rfl (any_of HT_.out (by kernel_rfl)) (fun _ _ _ h => h) (Or.inl ⟨by rfl, ?_⟩) ?_ ?_
                            rotate_left
                            · intro w'
                              go_simp
                              with_reducible rfl
                            rotate_left
                            · simp only [Act.put, List.setIfInBounds_toArray, List.set_cons_zero, List.set_cons_succ, i64_w, i32_w]
                              rfl
                            refine take_ (i := 3) (N := some 33) (v := ?_) (a' := ?_) #[true, true, true, true, true, true, true, false, false] rfl rfl (take_ofW HT_.out HW_.out (by kernel_rfl)) (fun _ _ _ h => h) (Or.inl ⟨by rfl, ?_⟩) hHeld ?_ ?_
                            rotate_left
                            · rintro w' ⟨s0, s1⟩
                              go_simp
                              with_reducible rfl
                            rotate_left
                            · simp only [Act.put, List.setIfInBounds_toArray, List.set_cons_zero, List.set_cons_succ, i64_w, i32_w]
                              rfl
                            refine take_ (i := 7) (N := some 37) (v := ?_) (a' := ?_) #[true, true, true, true, true, true, true, true, false] rfl rfl (take_ofW HT_.out HW_.out (by kernel_rfl)) (fun _ _ _ h => h) (Or.inl ⟨by rfl, ?_⟩) hHeld ?_ ?_
                            rotate_left
                            · rintro w' ⟨s0, s1⟩
                              go_simp
                              with_reducible rfl
                            rotate_left
                            · simp only [Act.put, List.setIfInBounds_toArray, List.set_cons_zero, List.set_cons_succ, i64_w, i32_w]
                              rfl
                            refine pure_ (i := 8) (N := some 38) (v := ?_) (a' := ?_) #[true, true, true, true, true, true, true, true, true] rfl rfl (any_of HT_.out (by kernel_rfl)) (fun _ _ _ h => h) (Or.inl ⟨by rfl, ?_⟩) ?_ ?_
                            rotate_left
                            · intro w'
                              go_simp
                              with_reducible rfl
                            rotate_left
                            · simp only [Act.put, List.setIfInBounds_toArray, List.set_cons_zero, List.set_cons_succ, i64_w, i32_w]
                              rfl
                            refine done_ (done_of HT_.out (by kernel_rfl)) ?_
                            try go_wp2
                            go_roundg k2
                            case measure => have := HK1.out; have := HK2.out; omega
                            case rel => exact ⟨(x7_2), (wrap64 (x7_2 + 1)), (by first | rfl | (simp; done) | (simp [*]; done)), (by first | rfl | (simp; done) | (simp [*]; done)), H', ⟨by have := HK1.out; have := HK2.out; omega⟩, ⟨by (with_reducible repeat (first | apply Kd.R_alloc | apply Kd.R_drewN | apply Kd.R_drew)); exact HO_3.out⟩, ⟨by repeat (first | (with_reducible first | exact HB.out | apply below_alloc | apply pw_below_drewN | apply below_drew1) | exact HB.out)⟩⟩
                          · rw [if_neg c17] at H
                            have c17b0 : (Op.bytesLess ((rdOf ByteArray.empty x3_1 x7_2).toList) ((rdOf ByteArray.empty x3_1 x6_2).toList)) = false := by simpa using c17
                            clear c17
                            have H' := Aside0.mk H
                            clear H
                            try go_wp2
                            have n0_ := Aside0.mk (Kd.R_drew HO_3.out)
                            have n1_ := Aside0.mk (below_drew1 HB.out)
                            clear HO_3
                            clear HB
                            have HO_3 := n0_
                            have HB := n1_
                            clear n0_ n1_
                            have p844 : 0 ≤ (x7_2 : Int) := of_decide_eq_true (by first | (with_reducible assumption) | assumption)
                            have q844 : x7_2 < (x3_1.length : Int) := of_decide_eq_true (by first | (with_reducible assumption) | assumption)
                            obtain ⟨ad844, e844, hx844_0⟩ := Kd.at_string (Kd.R_reads' HO_3.out).2.2 x7_2 p844 q844
                            cases e844
                            replace p844 := eq_true p844
                            replace q844 := eq_true q844
                            have p845 : 0 ≤ (x6_2 : Int) := of_decide_eq_true (by first | (with_reducible assumption) | assumption)
                            have q845 : x6_2 < (x3_1.length : Int) := of_decide_eq_true (by first | (with_reducible assumption) | assumption)
                            obtain ⟨ad845, e845, hx845_0⟩ := Kd.at_string (Kd.R_reads' HO_3.out).2.2 x6_2 p845 q845
                            obtain rfl : ad844 = ad845 := (by injection e845)
                            replace p845 := eq_true p845
                            replace q845 := eq_true q845
                            refine start_ (n := 9) (S := fun w' => w'.cell? (ad844.add (x7_2).toNat) = some (.string (rdOf ByteArray.empty x3_1 x7_2)) ∧ w'.cell? (ad844.add (x6_2).toNat) = some (.string (rdOf ByteArray.empty x3_1 x6_2))) (ds := []) #[false, false, false, false, false, false, false, false, false] (by kernel_rfl) rfl rfl ⟨hx844_0, hx845_0⟩ (fun hHeld => ?_); refine with_tabW gemotref1_Raised_p.tab11 gemotref1_Raised_p.bits11 (fun HT_ HW_ => ?_)
                            generalize wr.drew = w19 at HO_3 HB hx844_0 hx845_0 hHeld ⊢
                            refine pure_ (i := 0) (N := some 30) (v := ?_) (a' := ?_) #[true, false, false, false, false, false, false, false, false] rfl rfl (any_of HT_.out (by kernel_rfl)) (fun _ _ _ h => h) (Or.inl ⟨by rfl, ?_⟩) ?_ ?_
                            rotate_left
                            · intro w'
                              go_simp
                              with_reducible rfl
                            rotate_left
                            · simp only [Act.put, List.setIfInBounds_toArray, List.set_cons_zero, List.set_cons_succ, i64_w, i32_w]
                              rfl
                            refine pure_ (i := 1) (N := some 31) (v := ?_) (a' := ?_) #[true, true, false, false, false, false, false, false, false] rfl rfl (any_of HT_.out (by kernel_rfl)) (fun _ _ _ h => h) (Or.inl ⟨by rfl, ?_⟩) ?_ ?_
                            rotate_left
                            · intro w'
                              go_simp
                              with_reducible rfl
                            rotate_left
                            · simp only [Act.put, List.setIfInBounds_toArray, List.set_cons_zero, List.set_cons_succ, i64_w, i32_w]
                              rfl
                            refine pure_ (i := 2) (N := some 32) (v := ?_) (a' := ?_) #[true, true, true, false, false, false, false, false, false] rfl rfl (any_of HT_.out (by kernel_rfl)) (fun _ _ _ h => h) (Or.inl ⟨by rfl, ?_⟩) ?_ ?_
                            rotate_left
                            · intro w'
                              go_simp
                              with_reducible rfl
                            rotate_left
                            · simp only [Act.put, List.setIfInBounds_toArray, List.set_cons_zero, List.set_cons_succ, i64_w, i32_w]
                              rfl
                            refine pure_ (i := 4) (N := some 34) (v := ?_) (a' := ?_) #[true, true, true, false, true, false, false, false, false] rfl rfl (any_of HT_.out (by kernel_rfl)) (fun _ _ _ h => h) (Or.inl ⟨by rfl, ?_⟩) ?_ ?_
                            rotate_left
                            · intro w'
                              go_simp
                              with_reducible rfl
                            rotate_left
                            · simp only [Act.put, List.setIfInBounds_toArray, List.set_cons_zero, List.set_cons_succ, i64_w, i32_w]
                              rfl
                            refine pure_ (i := 5) (N := some 35) (v := ?_) (a' := ?_) #[true, true, true, false, true, true, false, false, false] rfl rfl (any_of HT_.out (by kernel_rfl)) (fun _ _ _ h => h) (Or.inl ⟨by rfl, ?_⟩) ?_ ?_
                            rotate_left
                            · intro w'
                              go_simp
                              with_reducible rfl
                            rotate_left
                            · simp only [Act.put, List.setIfInBounds_toArray, List.set_cons_zero, List.set_cons_succ, i64_w, i32_w]
                              rfl
                            refine pure_ (i := 6) (N := some 36) (v := ?_) (a' := ?_) #[true, true, true, false, true, true, true, false, false] rfl rfl (any_of HT_.out (by kernel_rfl)) (fun _ _ _ h => h) (Or.inl ⟨by rfl, ?_⟩) ?_ ?_
                            rotate_left
                            · intro w'
                              go_simp
                              with_reducible rfl
                            rotate_left
                            · simp only [Act.put, List.setIfInBounds_toArray, List.set_cons_zero, List.set_cons_succ, i64_w, i32_w]
                              rfl
                            refine take_ (i := 3) (N := some 33) (v := ?_) (a' := ?_) #[true, true, true, true, true, true, true, false, false] rfl rfl (take_ofW HT_.out HW_.out (by kernel_rfl)) (fun _ _ _ h => h) (Or.inl ⟨by rfl, ?_⟩) hHeld ?_ ?_
                            rotate_left
                            · rintro w' ⟨s0, s1⟩
                              go_simp
                              with_reducible rfl
                            rotate_left
                            · simp only [Act.put, List.setIfInBounds_toArray, List.set_cons_zero, List.set_cons_succ, i64_w, i32_w]
                              rfl
                            refine take_ (i := 7) (N := some 37) (v := ?_) (a' := ?_) #[true, true, true, true, true, true, true, true, false] rfl rfl (take_ofW HT_.out HW_.out (by kernel_rfl)) (fun _ _ _ h => h) (Or.inl ⟨by rfl, ?_⟩) hHeld ?_ ?_
                            rotate_left
                            · rintro w' ⟨s0, s1⟩
                              go_simp
                              with_reducible rfl
                            rotate_left
                            · simp only [Act.put, List.setIfInBounds_toArray, List.set_cons_zero, List.set_cons_succ, i64_w, i32_w]
                              rfl
                            refine pure_ (i := 8) (N := some 38) (v := ?_) (a' := ?_) #[true, true, true, true, true, true, true, true, true] rfl rfl (any_of HT_.out (by kernel_rfl)) (fun _ _ _ h => h) (Or.inl ⟨by rfl, ?_⟩) ?_ ?_
                            rotate_left
                            · intro w'
                              go_simp
                              with_reducible rfl
                            rotate_left
                            · simp only [Act.put, List.setIfInBounds_toArray, List.set_cons_zero, List.set_cons_succ, i64_w, i32_w]
                              rfl
                            refine done_ (done_of HT_.out (by kernel_rfl)) ?_
                            try go_wp2
                            go_roundg k2
                            case measure => have := HK1.out; have := HK2.out; omega
                            case rel => exact ⟨(x6_2), (wrap64 (x7_2 + 1)), (by first | rfl | (simp; done) | (simp [*]; done)), (by first | rfl | (simp; done) | (simp [*]; done)), H', ⟨by have := HK1.out; have := HK2.out; omega⟩, ⟨by (with_reducible repeat (first | apply Kd.R_alloc | apply Kd.R_drewN | apply Kd.R_drew)); exact HO_3.out⟩, ⟨by repeat (first | (with_reducible first | exact HB.out | apply below_alloc | apply pw_below_drewN | apply below_drew1) | exact HB.out)⟩⟩
                        · rw [if_neg c16] at H
                          exact absurd H (by simp)
                      · rw [if_neg c15] at H
                        exact absurd H (by simp)
                    · rw [if_neg c14] at H
                      exact absurd H (by simp)
                  · rw [if_neg c13] at H
                    have c13b0 : decide (x7_2 < (x3_1.length : Int)) = false := decide_eq_false c13
                    clear c13
                    by_cases c20 : 0 ≤ x6_2
                    · rw [if_pos c20] at H
                      have c20b0 : decide (0 ≤ x6_2) = true := decide_eq_true c20
                      clear c20
                      by_cases c21 : x6_2 < (x3_1.length : Int)
                      · rw [if_pos c21] at H
                        have c21b0 : decide (x6_2 < (x3_1.length : Int)) = true := decide_eq_true c21
                        clear c21
                        by_cases c22 : x5_1.size + (rdOf ByteArray.empty x3_1 x6_2).size ≤ 9223372036854775807
                        · rw [if_pos c22] at H
                          have c22b0 := eq_true c22
                          have c22b1 : decide (x5_1.size + (rdOf ByteArray.empty x3_1 x6_2).size ≤ 9223372036854775807) = true := decide_eq_true c22
                          try have c22b2 : (9223372036854775807 < x5_1.size + (rdOf ByteArray.empty x3_1 x6_2).size) = False := eq_false (Nat.not_lt.2 c22)
                          obtain ⟨y847, hy847⟩ : ∃ y_ : List ByteArray, y_ = (([] : List ByteArray)) := ⟨_, rfl⟩
                          replace H : (if x6_2 ≤ (x3_1.length : Int) then ((some (x3_1.take (x6_2 : Int).toNat : List ByteArray)).bind fun y850 => (if y847.length + y850.length < 8796093022208 then ((some (y847 ++ y850 : List ByteArray)).bind fun y854 => (if 0 ≤ (wrap64 (x6_2 + 1)) then (if (wrap64 (x6_2 + 1)) ≤ (x3_1.length : Int) then ((some (x3_1.drop ((wrap64 (x6_2 + 1)) : Int).toNat : List ByteArray)).bind fun y857 => (if y854.length + y857.length < 8796093022208 then (gemotref1_Raised_p.l0 k2 (y854 ++ y857) (x5_1 ++ (rdOf ByteArray.empty x3_1 x6_2))) else (none))) else (none)) else (none))) else (none))) else (none)) = some r := by first | (rw [hy847]; with_reducible exact H) | (have H2_ := (Option.bind_some _ _).symm.trans H; rw [hy847]; with_reducible exact H2_) | (have H2_ := (Option.bind_some _ _).symm.trans H; with_reducible exact H2_) | with_reducible exact H | (rw [hy847]; exact H) | exact H
                          have Ny847 := Aside0.mk hy847
                          clear hy847
                          have c23b0 := eq_true (of_decide_eq_true (by first | (with_reducible assumption) | assumption) : 0 ≤ x6_2)
                          by_cases c24 : x6_2 ≤ (x3_1.length : Int)
                          · rw [if_pos c24] at H
                            have c24b0 := eq_true c24
                            have c24b1 : decide (x6_2 ≤ (x3_1.length : Int)) = true := decide_eq_true c24
                            clear c24
                            obtain ⟨y850, hy850⟩ : ∃ y_ : List ByteArray, y_ = (x3_1.take (x6_2 : Int).toNat) := ⟨_, rfl⟩
                            replace H : (if y847.length + y850.length < 8796093022208 then ((some (y847 ++ y850 : List ByteArray)).bind fun y854 => (if 0 ≤ (wrap64 (x6_2 + 1)) then (if (wrap64 (x6_2 + 1)) ≤ (x3_1.length : Int) then ((some (x3_1.drop ((wrap64 (x6_2 + 1)) : Int).toNat : List ByteArray)).bind fun y857 => (if y854.length + y857.length < 8796093022208 then (gemotref1_Raised_p.l0 k2 (y854 ++ y857) (x5_1 ++ (rdOf ByteArray.empty x3_1 x6_2))) else (none))) else (none)) else (none))) else (none)) = some r := by first | (rw [hy850]; with_reducible exact H) | (have H2_ := (Option.bind_some _ _).symm.trans H; rw [hy850]; with_reducible exact H2_) | (have H2_ := (Option.bind_some _ _).symm.trans H; with_reducible exact H2_) | with_reducible exact H | (rw [hy850]; exact H) | exact H
                            have Ny850 := Aside0.mk hy850
                            clear hy850
                            by_cases c25 : y847.length + y850.length < 8796093022208
                            · rw [if_pos c25] at H
                              have LMc25 := Aside0.mk c25
                              clear c25
                              obtain ⟨y854, hy854⟩ : ∃ y_ : List ByteArray, y_ = (y847 ++ y850) := ⟨_, rfl⟩
                              replace H : (if 0 ≤ (wrap64 (x6_2 + 1)) then (if (wrap64 (x6_2 + 1)) ≤ (x3_1.length : Int) then ((some (x3_1.drop ((wrap64 (x6_2 + 1)) : Int).toNat : List ByteArray)).bind fun y857 => (if y854.length + y857.length < 8796093022208 then (gemotref1_Raised_p.l0 k2 (y854 ++ y857) (x5_1 ++ (rdOf ByteArray.empty x3_1 x6_2))) else (none))) else (none)) else (none)) = some r := by first | (rw [hy854]; with_reducible exact H) | (have H2_ := (Option.bind_some _ _).symm.trans H; rw [hy854]; with_reducible exact H2_) | (have H2_ := (Option.bind_some _ _).symm.trans H; with_reducible exact H2_) | with_reducible exact H | (rw [hy854]; exact H) | exact H
                              have Ny854 := Aside0.mk hy854
                              clear hy854
                              obtain ⟨ji26, hji26⟩ : ∃ j_ : Int, (wrap64 (x6_2 + 1)) = j_ := ⟨_, rfl⟩
                              replace H : (if 0 ≤ (ji26) then (if (ji26) ≤ (x3_1.length : Int) then ((some (x3_1.drop ((ji26) : Int).toNat : List ByteArray)).bind fun y857 => (if y854.length + y857.length < 8796093022208 then (gemotref1_Raised_p.l0 k2 (y854 ++ y857) (x5_1 ++ (rdOf ByteArray.empty x3_1 x6_2))) else (none))) else (none)) else (none)) = some r := by first | (rw [hji26] at H; exact H) | (simp only [hji26] at H ⊢; exact H)
                              have hji26w : (IntKind.i64.wrap (x6_2 + 1)) = ji26 := (i64_w _).trans hji26
                              by_cases c27 : 0 ≤ (ji26)
                              · rw [if_pos c27] at H
                                have c27b0 := eq_true c27
                                have c27b1 : decide (0 ≤ (ji26)) = true := decide_eq_true c27
                                clear c27
                                by_cases c28 : (ji26) ≤ (x3_1.length : Int)
                                · rw [if_pos c28] at H
                                  have c28b0 := eq_true c28
                                  have c28b1 : decide ((ji26) ≤ (x3_1.length : Int)) = true := decide_eq_true c28
                                  clear c28
                                  obtain ⟨y857, hy857⟩ : ∃ y_ : List ByteArray, y_ = (x3_1.drop ((ji26) : Int).toNat) := ⟨_, rfl⟩
                                  replace H : (if y854.length + y857.length < 8796093022208 then (gemotref1_Raised_p.l0 k2 (y854 ++ y857) (x5_1 ++ (rdOf ByteArray.empty x3_1 x6_2))) else (none)) = some r := by first | (rw [hy857]; with_reducible exact H) | (have H2_ := (Option.bind_some _ _).symm.trans H; rw [hy857]; with_reducible exact H2_) | (have H2_ := (Option.bind_some _ _).symm.trans H; with_reducible exact H2_) | with_reducible exact H | (rw [hy857]; exact H) | exact H
                                  have Ny857 := Aside0.mk hy857
                                  clear hy857
                                  by_cases c29 : y854.length + y857.length < 8796093022208
                                  · rw [if_pos c29] at H
                                    have LMc29 := Aside0.mk c29
                                    clear c29
                                    obtain ⟨y861, hy861⟩ : ∃ y_ : List ByteArray, y_ = (y854 ++ y857) := ⟨_, rfl⟩
                                    replace H : (gemotref1_Raised_p.l0 k2 y861 (x5_1 ++ (rdOf ByteArray.empty x3_1 x6_2))) = some r := by first | (rw [hy861]; with_reducible exact H) | (have H2_ := (Option.bind_some _ _).symm.trans H; rw [hy861]; with_reducible exact H2_) | (have H2_ := (Option.bind_some _ _).symm.trans H; with_reducible exact H2_) | with_reducible exact H | (rw [hy861]; exact H) | exact H
                                    have Ny861 := Aside0.mk hy861
                                    clear hy861
                                    have H' := Aside0.mk H
                                    clear H
                                    have p846 : 0 ≤ (x6_2 : Int) := of_decide_eq_true (by first | (with_reducible assumption) | assumption)
                                    have q846 : x6_2 < (x3_1.length : Int) := of_decide_eq_true (by first | (with_reducible assumption) | assumption)
                                    obtain ⟨ad846, e846, hx846_0⟩ := Kd.at_string (Kd.R_reads' HO_3.out).2.2 x6_2 p846 q846
                                    cases e846
                                    replace p846 := eq_true p846
                                    replace q846 := eq_true q846
                                    try go_wp2
                                    have n0_ := Aside0.mk (Kd.R_drew HO_3.out)
                                    have n1_ := Aside0.mk (below_drew1 HB.out)
                                    clear HO_3
                                    clear HB
                                    have HO_3 := n0_
                                    have HB := n1_
                                    clear n0_ n1_
                                    have q31 : (x6_2 : Int) ≤ ((x3_1.length : Int) : Int) := of_decide_eq_true (by first | (with_reducible assumption) | assumption)
                                    obtain ⟨i031, hi031, _, hsz31, _⟩ := info_parts info9
                                    have hroom31 : x3_1.length ≤ co12 := (Kd.R_reads' HO_3.out).2.1
                                    have hC31 : Kd.C Kd.string _ (some ad846) x3_1.length x3_1 := (Kd.R_reads' HO_3.out).2.2
                                    have hcut31 := cut_to (P := Try.prog) 43 9 .i64 Try.underlying43 hi031 (some ad846) x3_1.length co12 x6_2 (of_decide_eq_true (by first | (with_reducible assumption) | assumption)) q31 hroom31
                                    have hr31 := Kd.C_take (m := (x6_2 : Int).toNat) hC31 (by omega)
                                    have hy31 : y850.length = (x6_2 : Int).toNat := (by rw [Ny850.out, List.length_take]; omega)
                                    rw [← Ny850.out] at hr31
                                    rw [← hy31] at hcut31
                                    have HR853 := Aside0.mk hr31
                                    have HC853 := Aside0.mk (show y850.length ≤ co12 from by omega)
                                    clear hr31 hC31 hroom31 hi031 hsz31
                                    have KY31 := Aside0.mk hy31
                                    clear hy31
                                    have KL31 := Aside0.mk (show (x6_2 : Int).toNat ≤ x3_1.length from by omega)
                                    replace q31 := eq_true q31
                                    have q32 : ((ji26) : Int) ≤ ((x3_1.length : Int) : Int) := of_decide_eq_true (by first | (with_reducible assumption) | assumption)
                                    obtain ⟨i032, hi032, _, hsz32, _⟩ := info_parts info9
                                    have hroom32 : x3_1.length ≤ co12 := (Kd.R_reads' HO_3.out).2.1
                                    have hC32 : Kd.C Kd.string _ (some ad846) x3_1.length x3_1 := (Kd.R_reads' HO_3.out).2.2
                                    have q032 : (0 : Int) ≤ ((ji26) : Int) := of_decide_eq_true (by first | (with_reducible assumption) | assumption)
                                    have hcut32 := cut_from (P := Try.prog) 43 9 .i64 Try.underlying43 hi032 1 hsz32 (some ad846) x3_1.length co12 (ji26) q032 q32
                                    have hr32 := Kd.C_drop (m := ((ji26) : Int).toNat) (c := co12) hC32 (by omega) hroom32
                                    obtain ⟨A32, hA32⟩ : ∃ A1, A1 = (if co12 = ((ji26) : Int).toNat then (some ad846) else ((some ad846) : Option Addr).map (·.add (((ji26) : Int).toNat * 1))) := ⟨_, rfl⟩
                                    obtain ⟨c32, hc32⟩ : ∃ c1, c1 = co12 - ((ji26) : Int).toNat := ⟨_, rfl⟩
                                    have hy32 : y857.length = x3_1.length - ((ji26) : Int).toNat := (by rw [Ny857.out, List.length_drop] <;> omega)
                                    rw [show (x3_1).drop ((ji26) : Int).toNat = y857 from Ny857.out.symm] at hr32
                                    replace hr32 : Kd.C Kd.string _ A32 y857.length y857 := (by rw [hA32]; exact hr32)
                                    rw [← hy32, ← hA32, ← hc32] at hcut32
                                    have HR860 := Aside0.mk hr32
                                    have HC860 := Aside0.mk (show y857.length ≤ c32 from by rw [hy32, hc32]; exact Nat.sub_le_sub_right hroom32 _)
                                    clear hr32 hC32 hroom32 hi032 hsz32 hc32
                                    have KY32 := Aside0.mk hy32
                                    have KA32 := Aside0.mk hA32
                                    clear hy32 hA32
                                    have KL32 := Aside0.mk (show ((ji26) : Int).toNat ≤ x3_1.length from by omega)
                                    replace q32 := eq_true q32
                                    refine start_ (n := 11) (S := fun w' => True) (ds := []) #[false, false, false, false, false, false, false, false, false, false, false] (by kernel_rfl) rfl rfl trivial (fun hHeld => ?_); refine with_tabW gemotref1_Raised_p.tab14 gemotref1_Raised_p.bits14 (fun HT_ HW_ => ?_)
                                    generalize wr.drew = w30 at HO_3 HB HR853 HR860 hHeld ⊢
                                    refine pure_ (i := 1) (N := some 47) (v := ?_) (a' := ?_) #[false, true, false, false, false, false, false, false, false, false, false] rfl rfl (any_of HT_.out (by kernel_rfl)) (fun _ _ _ h => h) (Or.inl ⟨by rfl, ?_⟩) ?_ ?_
                                    rotate_left
                                    · intro w'
                                      go_simp
                                      with_reducible rfl
                                    rotate_left
                                    · simp only [Act.put, List.setIfInBounds_toArray, List.set_cons_zero, List.set_cons_succ, i64_w, i32_w]
                                      rfl
                                    refine pure_ (i := 2) (N := some 48) (v := ?_) (a' := ?_) #[false, true, true, false, false, false, false, false, false, false, false] rfl rfl (any_of HT_.out (by kernel_rfl)) (fun _ _ _ h => h) (Or.inl ⟨by rfl, ?_⟩) ?_ ?_
                                    rotate_left
                                    · intro w'
                                      go_simp
                                      with_reducible rfl
                                    rotate_left
                                    · simp only [Act.put, List.setIfInBounds_toArray, List.set_cons_zero, List.set_cons_succ, i64_w, i32_w]
                                      rfl
                                    refine pure_ (i := 3) (N := some 49) (v := ?_) (a' := ?_) #[false, true, true, true, false, false, false, false, false, false, false] rfl rfl (any_of HT_.out (by kernel_rfl)) (fun _ _ _ h => h) (Or.inl ⟨by rfl, ?_⟩) ?_ ?_
                                    rotate_left
                                    · intro w'
                                      go_simp
                                      with_reducible rfl
                                    rotate_left
                                    · simp only [Act.put, List.setIfInBounds_toArray, List.set_cons_zero, List.set_cons_succ, i64_w, i32_w]
                                      rfl
                                    refine pure_ (i := 5) (N := some 51) (v := ?_) (a' := ?_) #[false, true, true, true, false, true, false, false, false, false, false] rfl rfl (any_of HT_.out (by kernel_rfl)) (fun _ _ _ h => h) (Or.inl ⟨by rfl, ?_⟩) ?_ ?_
                                    rotate_left
                                    · intro w'
                                      go_simp
                                      with_reducible rfl
                                    rotate_left
                                    · simp only [Act.put, List.setIfInBounds_toArray, List.set_cons_zero, List.set_cons_succ, i64_w, i32_w]
                                      rfl
                                    refine pure_ (i := 6) (N := some 52) (v := ?_) (a' := ?_) #[false, true, true, true, false, true, true, false, false, false, false] rfl rfl (any_of HT_.out (by kernel_rfl)) (fun _ _ _ h => h) (Or.inl ⟨by rfl, ?_⟩) ?_ ?_
                                    rotate_left
                                    · intro w'
                                      go_simp
                                      with_reducible rfl
                                    rotate_left
                                    · simp only [Act.put, List.setIfInBounds_toArray, List.set_cons_zero, List.set_cons_succ, i64_w, i32_w]
                                      rfl
                                    refine pure_ (i := 7) (N := some 53) (v := ?_) (a' := ?_) #[false, true, true, true, false, true, true, true, false, false, false] rfl rfl (any_of HT_.out (by kernel_rfl)) (fun _ _ _ h => h) (Or.inl ⟨by rfl, ?_⟩) ?_ ?_
                                    rotate_left
                                    · intro w'
                                      go_simp
                                      with_reducible rfl
                                    rotate_left
                                    · simp only [Act.put, List.setIfInBounds_toArray, List.set_cons_zero, List.set_cons_succ, i64_w, i32_w]
                                      rfl
                                    refine pure_ (i := 8) (N := some 54) (v := ?_) (a' := ?_) #[false, true, true, true, false, true, true, true, true, false, false] rfl rfl (any_of HT_.out (by kernel_rfl)) (fun _ _ _ h => h) (Or.inl ⟨by rfl, ?_⟩) ?_ ?_
                                    rotate_left
                                    · intro w'
                                      go_simp
                                      with_reducible rfl
                                    rotate_left
                                    · simp only [Act.put, List.setIfInBounds_toArray, List.set_cons_zero, List.set_cons_succ, i64_w, i32_w]
                                      rfl
                                    refine one_ (i := 0) (N := some 46) #[true, true, true, true, false, true, true, true, true, false, false] rfl rfl (one_of HT_.out (by kernel_rfl)) (by decide) (fun K hK => ?_)
                                    refine Kd.R_lit_step Kd.string _ 9 ?hg (N := 46) ?hd (xs := ([] : List ByteArray)) (inner := []) (ok := fun _ => True) (okp := fun _ => True) ?hr ?hp (fun _ hk => hk) trivial (Below.refl _ _) (Nat.le_refl _) (by simp) ?_; (case hd => rfl); (case hg => rfl); (case hr => first | (go_simp; done) | (go_simp; rfl)); (case hp => exact (Reps.none _ _))
                                    intro v848 w33 ho34 hb hg_ hnew_
                                    clear hg_ hnew_
                                    (first | rw [← Ny847.out] at ho34 | (simp only [Int.reduceToNat] at ho34; rw [← Ny847.out] at ho34))
                                    have n0_ := Aside0.mk (Kd.R_elder' (by (with_reducible repeat (first | apply Kd.R_alloc | apply Kd.R_drewN | apply Kd.R_drew)); exact HO_3.out) (Kd.R_base ho34) hb)
                                    have n1_ := Aside0.mk (Kd.R_lower (Kd.R_new' ho34 (Kd.R_lt (by (with_reducible repeat (first | apply Kd.R_alloc | apply Kd.R_drewN | apply Kd.R_drew)); exact HO_3.out))) (below_size (by repeat (first | (with_reducible first | exact HB.out | apply below_alloc | apply pw_below_drewN | apply below_drew1) | exact HB.out))))
                                    have n2_ := Aside0.mk (Kd.C_below (by repeat (first | (with_reducible exact HR853.out) | (with_reducible refine Kd.C_alloc ?_ _) | (with_reducible refine Kd.C_drewN ?_ _) | (with_reducible refine Kd.C_drew ?_) | exact HR853.out)) hb)
                                    have n3_ := Aside0.mk (Kd.C_below (by repeat (first | (with_reducible exact HR860.out) | (with_reducible refine Kd.C_alloc ?_ _) | (with_reducible refine Kd.C_drewN ?_ _) | (with_reducible refine Kd.C_drew ?_) | exact HR860.out)) hb)
                                    have n4_ := Aside0.mk (below_step (by repeat (first | (with_reducible first | exact HB.out | apply below_alloc | apply pw_below_drewN | apply below_drew1) | exact HB.out)) hb)
                                    clear HO_3
                                    clear HR853
                                    clear HR860
                                    clear HB
                                    have HO_3 := n0_
                                    have HO849 := n1_
                                    have HR853 := n2_
                                    have HR860 := n3_
                                    have HB := n4_
                                    clear n0_ n1_ n2_ n3_ n4_
                                    clear hb ho34
                                    refine hK.out _ _ trivial (fun hHeld => ?_)
                                    clear hK K
                                    refine norm_ (a' := ?_) ?_ ?_
                                    rotate_left
                                    · show Act.put _ (some 46) _ = _
                                      simp only [Act.put, List.setIfInBounds_toArray, List.set_cons_zero, List.set_cons_succ, i64_w, i32_w]
                                      rfl
                                    refine one_ (i := 4) (N := some 50) #[true, true, true, true, true, true, true, true, true, false, false] rfl rfl (one_of HT_.out (by kernel_rfl)) (by decide) (fun K hK => ?_)
                                    refine Kd.R_append_rows_step Kd.string (w0 := w) w.heap.size (by rfl) (.tmp 46) (.tmp 49) 43 9 (.string ⟨#[]⟩) 16 rfl Try.underlying43 info9 rfl (by decide) (by omega) v848 y847 y850 _ _ _ (fun k_ => some k_ ≠ (.slice (some ad846) x3_1.length co12 : Value).ownBlock) (fun _ => False) rfl rfl ?aO ?aR (fun _ _ h => h) (fun _ h => h.elim) ?aF ?aB ?aS ?aL ?_
                                    (case aR => repeat (first | exact (by repeat (first | (with_reducible exact HR853.out) | (with_reducible refine Kd.C_alloc ?_ _) | (with_reducible refine Kd.C_drewN ?_ _) | (with_reducible refine Kd.C_drew ?_) | exact HR853.out)) | (with_reducible refine Kd.C_alloc ?_ _) | (with_reducible refine Kd.C_drewN ?_ _) | (with_reducible refine Kd.C_drew ?_)))
                                    (case aB => exact (by repeat (first | (with_reducible first | exact HB.out | apply below_alloc | apply pw_below_drewN | apply below_drew1) | exact HB.out)))
                                    (case aF => exact (fun k_ hk => Kd.fresh' (Kd.R_lt (by (with_reducible repeat (first | apply Kd.R_alloc | apply Kd.R_drewN | apply Kd.R_drew)); exact HO_3.out)) k_ hk))
                                    (case aO => exact (by (with_reducible repeat (first | apply Kd.R_alloc | apply Kd.R_drewN | apply Kd.R_drew)); exact Kd.R_mono HO849.out (fun _ hk => hk.2)))
                                    (case aS => exact (below_size (by repeat (first | (with_reducible first | exact HB.out | apply below_alloc | apply pw_below_drewN | apply below_drew1) | exact HB.out))))
                                    (case aL => have := LMc25.out; omega)
                                    intro v855 w35 ho hb hg hat
                                    rw [← Ny854.out] at ho
                                    have n0_ := Aside0.mk (Kd.R_after (ok := (fun _ => True)) (by (with_reducible repeat (first | apply Kd.R_alloc | apply Kd.R_drewN | apply Kd.R_drew)); exact HO_3.out) hg hat)
                                    have n1_ := Aside0.mk (hb)
                                    have n2_ := Aside0.mk ((show Kd.C Kd.string w35 (some ad846) y850.length y850 from by rw [Ny850.out]; exact Kd.C_take (m := (x6_2 : Int).toNat) ((Kd.R_reads' (Kd.R_after (ok := (fun _ => True)) (by (with_reducible repeat (first | apply Kd.R_alloc | apply Kd.R_drewN | apply Kd.R_drew)); exact HO_3.out) hg hat)).2.2) KL31.out))
                                    have n3_ := Aside0.mk ((show Kd.C Kd.string w35 A32 y857.length y857 from by rw [Ny857.out, KA32.out]; exact Kd.C_drop (m := ((ji26) : Int).toNat) (c := co12) ((Kd.R_reads' (Kd.R_after (ok := (fun _ => True)) (by (with_reducible repeat (first | apply Kd.R_alloc | apply Kd.R_drewN | apply Kd.R_drew)); exact HO_3.out) hg hat)).2.2) KL32.out ((Kd.R_reads' (Kd.R_after (ok := (fun _ => True)) (by (with_reducible repeat (first | apply Kd.R_alloc | apply Kd.R_drewN | apply Kd.R_drew)); exact HO_3.out) hg hat)).2.1)))
                                    have n4_ := Aside0.mk (ho)
                                    clear HO_3
                                    clear HB
                                    clear HR853
                                    clear HR860
                                    clear HO849
                                    have HO_3 := n0_
                                    have HB := n1_
                                    have HR853 := n2_
                                    have HR860 := n3_
                                    have HO856 := n4_
                                    clear n0_ n1_ n2_ n3_ n4_
                                    clear ho hb hg hat
                                    refine hK.out _ _ trivial (fun hHeld => ?_)
                                    clear hK K
                                    refine norm_ (a' := ?_) ?_ ?_
                                    rotate_left
                                    · show Act.put _ (some 50) _ = _
                                      simp only [Act.put, List.setIfInBounds_toArray, List.set_cons_zero, List.set_cons_succ, i64_w, i32_w]
                                      rfl
                                    refine one_ (i := 9) (N := some 55) #[true, true, true, true, true, true, true, true, true, true, false] rfl rfl (one_of HT_.out (by kernel_rfl)) (by decide) (fun K hK => ?_)
                                    refine Kd.R_append_rows_step Kd.string (w0 := w) w.heap.size (by rfl) (.tmp 50) (.tmp 54) 43 9 (.string ⟨#[]⟩) 16 rfl Try.underlying43 info9 rfl (by decide) (by omega) v855 y854 y857 _ _ _ (fun k_ => some k_ ≠ (.slice (some ad846) x3_1.length co12 : Value).ownBlock) (fun _ => False) rfl rfl ?aO ?aR (fun _ _ h => h) (fun _ h => h.elim) ?aF ?aB ?aS ?aL ?_
                                    (case aR => repeat (first | exact (by repeat (first | (with_reducible exact HR860.out) | (with_reducible refine Kd.C_alloc ?_ _) | (with_reducible refine Kd.C_drewN ?_ _) | (with_reducible refine Kd.C_drew ?_) | exact HR860.out)) | (with_reducible refine Kd.C_alloc ?_ _) | (with_reducible refine Kd.C_drewN ?_ _) | (with_reducible refine Kd.C_drew ?_)))
                                    (case aB => exact (by repeat (first | (with_reducible first | exact HB.out | apply below_alloc | apply pw_below_drewN | apply below_drew1) | exact HB.out)))
                                    (case aF => exact (fun k_ hk => Kd.fresh' (Kd.R_lt (by (with_reducible repeat (first | apply Kd.R_alloc | apply Kd.R_drewN | apply Kd.R_drew)); exact HO_3.out)) k_ hk))
                                    (case aO => exact (by (with_reducible repeat (first | apply Kd.R_alloc | apply Kd.R_drewN | apply Kd.R_drew)); exact HO856.out))
                                    (case aS => exact (below_size (by repeat (first | (with_reducible first | exact HB.out | apply below_alloc | apply pw_below_drewN | apply below_drew1) | exact HB.out))))
                                    (case aL => have := LMc29.out; omega)
                                    intro v862 w36 ho hb hg hat
                                    rw [← Ny861.out] at ho
                                    have n0_ := Aside0.mk (Kd.R_after (ok := (fun _ => True)) (by (with_reducible repeat (first | apply Kd.R_alloc | apply Kd.R_drewN | apply Kd.R_drew)); exact HO_3.out) hg hat)
                                    have n1_ := Aside0.mk (hb)
                                    have n2_ := Aside0.mk ((show Kd.C Kd.string w36 (some ad846) y850.length y850 from by rw [Ny850.out]; exact Kd.C_take (m := (x6_2 : Int).toNat) ((Kd.R_reads' (Kd.R_after (ok := (fun _ => True)) (by (with_reducible repeat (first | apply Kd.R_alloc | apply Kd.R_drewN | apply Kd.R_drew)); exact HO_3.out) hg hat)).2.2) KL31.out))
                                    have n3_ := Aside0.mk ((show Kd.C Kd.string w36 A32 y857.length y857 from by rw [Ny857.out, KA32.out]; exact Kd.C_drop (m := ((ji26) : Int).toNat) (c := co12) ((Kd.R_reads' (Kd.R_after (ok := (fun _ => True)) (by (with_reducible repeat (first | apply Kd.R_alloc | apply Kd.R_drewN | apply Kd.R_drew)); exact HO_3.out) hg hat)).2.2) KL32.out ((Kd.R_reads' (Kd.R_after (ok := (fun _ => True)) (by (with_reducible repeat (first | apply Kd.R_alloc | apply Kd.R_drewN | apply Kd.R_drew)); exact HO_3.out) hg hat)).2.1)))
                                    have n4_ := Aside0.mk (ho)
                                    clear HO_3
                                    clear HB
                                    clear HR853
                                    clear HR860
                                    clear HO856
                                    have HO_3 := n0_
                                    have HB := n1_
                                    have HR853 := n2_
                                    have HR860 := n3_
                                    have HO863 := n4_
                                    clear n0_ n1_ n2_ n3_ n4_
                                    clear ho hb hg hat
                                    refine hK.out _ _ trivial (fun hHeld => ?_)
                                    clear hK K
                                    refine norm_ (a' := ?_) ?_ ?_
                                    rotate_left
                                    · show Act.put _ (some 55) _ = _
                                      simp only [Act.put, List.setIfInBounds_toArray, List.set_cons_zero, List.set_cons_succ, i64_w, i32_w]
                                      rfl
                                    refine pure_ (i := 10) (N := some 3) (v := ?_) (a' := ?_) #[true, true, true, true, true, true, true, true, true, true, true] rfl rfl (any_of HT_.out (by kernel_rfl)) (fun _ _ _ h => h) (Or.inl ⟨by rfl, ?_⟩) ?_ ?_
                                    rotate_left
                                    · intro w'
                                      go_simp
                                      with_reducible rfl
                                    rotate_left
                                    · simp only [Act.put, List.setIfInBounds_toArray, List.set_cons_zero, List.set_cons_succ, i64_w, i32_w]
                                      rfl
                                    refine done_ (done_of HT_.out (by kernel_rfl)) ?_
                                    try go_wp2
                                    go_roundg k2
                                    case measure => have := HK1.out; have := HK2.out; omega
                                    case rel => exact ⟨(y861), (x5_1 ++ (rdOf ByteArray.empty x3_1 x6_2)), (by first | rfl | (simp; done) | (simp [*]; done)), H', ⟨by have := HK1.out; have := HK2.out; omega⟩, ⟨by (with_reducible repeat (first | apply Kd.R_alloc | apply Kd.R_drewN | apply Kd.R_drew)); exact Kd.R_mono HO863.out (fun _ hk => trivial)⟩, ⟨by repeat (first | (with_reducible first | exact HB.out | apply below_alloc | apply pw_below_drewN | apply below_drew1) | exact HB.out)⟩⟩
                                  · rw [if_neg c29] at H
                                    exact absurd H (by simp)
                                · rw [if_neg c28] at H
                                  exact absurd H (by simp)
                              · rw [if_neg c27] at H
                                exact absurd H (by simp)
                            · rw [if_neg c25] at H
                              exact absurd H (by simp)
                          · rw [if_neg c24] at H
                            exact absurd H (by simp)
                        · rw [if_neg c22] at H
                          exact absurd H (by simp)
                      · rw [if_neg c21] at H
                        exact absurd H (by simp)
                    · rw [if_neg c20] at H
                      exact absurd H (by simp)
            · rw [if_neg c11] at H
              have c11b0 : decide (0 < (x3_1.length : Int)) = false := decide_eq_false c11
              have c11b1 : decide (0 < x3_1.length) = false := decide_eq_false (by omega)
              clear c11
              obtain rfl := Option.some.inj H
              obtain ⟨Ao37, co37, eo37⟩ := Kd.R_slice HO_3.out
              subst eo37
              go_wp2
              go_ret
              exact ⟨by first | rfl | (simp [errW_none, errW_some] <;> rfl) | (simp [*, errW_none, errW_some] <;> rfl), by repeat (first | (with_reducible first | exact HB.out | apply below_alloc | apply pw_below_drewN | apply below_drew1) | exact HB.out)⟩
      · rw [if_neg c4] at H
        exact absurd H (by simp)
    · rw [if_neg c3] at H
      exact absurd H (by simp)

open Go.Proofs.Ytpfpmjdifnoeoaa.Pure
def gemotref1_Raised.f (l : List ByteArray) : Option ByteArray := if l.length ≤ 32 ∧ ∀ x ∈ l, x.size ≤ 20000 then some (elmOf l) else none
theorem gemotref1_Raised.rd {l : List ByteArray} {i : Nat} (h : i < l.length) : rdOf ByteArray.empty l (i : Int) = l[i] := by simp [rdOf, List.getD_eq_getElem?_getD, h]
theorem gemotref1_Raised.s1 (l : List ByteArray) (hl : l.length ≤ 32) (s : ByteArray) (k at_ i : Nat) (ha : at_ < l.length) (hi : i < l.length) :
    gemotref1_Raised_p.l1 (k + 1) l s at_ i = if Op.bytesLess l[i].toList l[at_].toList = true then gemotref1_Raised_p.l1 k l s i ((i + 1 : Nat) : Int) else gemotref1_Raised_p.l1 k l s at_ ((i + 1 : Nat) : Int) := by
  have hw : wrap64 ((i : Int) + 1) = ((i + 1 : Nat) : Int) := by unfold wrap64; omega
  rw [gemotref1_Raised_p.l1, if_pos (show (i : Int) < (l.length : Int) by omega), if_pos (show (0 : Int) ≤ (i : Int) by omega), if_pos (show (0 : Int) ≤ (at_ : Int) by omega), if_pos (show (at_ : Int) < (l.length : Int) by omega), gemotref1_Raised.rd hi, gemotref1_Raised.rd ha, hw]
theorem gemotref1_Raised.s2 (l : List ByteArray) (hl : l.length ≤ 32) (hx : ∀ x ∈ l, x.size ≤ 20000) (s : ByteArray) (hs : s.size ≤ 10000000) (k at_ : Nat) (ha : at_ < l.length) :
    gemotref1_Raised_p.l1 (k + 1) l s at_ (l.length : Int) = gemotref1_Raised_p.l0 k (l.take at_ ++ l.drop (at_ + 1)) (s ++ l[at_]) := by
  have hw : wrap64 ((at_ : Int) + 1) = ((at_ + 1 : Nat) : Int) := by unfold wrap64; omega
  have h1 := hx _ (List.getElem_mem ha)
  rw [gemotref1_Raised_p.l1, if_neg (show ¬ (l.length : Int) < (l.length : Int) by omega), if_pos (show (0 : Int) ≤ (at_ : Int) by omega), if_pos (show (at_ : Int) < (l.length : Int) by omega), gemotref1_Raised.rd ha, if_pos (show s.size + l[at_].size ≤ 9223372036854775807 by omega)]
  have h2 : (l.take at_).length ≤ 32 := by rw [List.length_take]; omega
  have h3 : (l.drop (at_ + 1)).length ≤ 32 := by rw [List.length_drop]; omega
  rw [Option.bind_some, if_pos (show (at_ : Int) ≤ (l.length : Int) by omega), Option.bind_some, Int.toNat_natCast, if_pos (by rw [List.length_nil]; omega), Option.bind_some, hw, if_pos (show (0 : Int) ≤ ((at_ + 1 : Nat) : Int) by omega), if_pos (show ((at_ + 1 : Nat) : Int) ≤ (l.length : Int) by omega), Option.bind_some, Int.toNat_natCast, List.nil_append, if_pos (by omega)]
theorem gemotref1_Raised.least (l : List ByteArray) (hl : l.length ≤ 32) (hx : ∀ x ∈ l, x.size ≤ 20000) (s : ByteArray) (hs : s.size ≤ 10000000) (d : Nat) : ∀ (at_ i : Nat) (ha : at_ < l.length), i + d = l.length → (∀ (j : Nat) (hj : j < l.length), j < i → bl l[at_] ≤ bl l[j]) →
    ∃ (a : Nat) (h : a < l.length), (∀ (j : Nat) (hj : j < l.length), bl l[a] ≤ bl l[j]) ∧ ∀ k, gemotref1_Raised_p.l1 (k + 1 + d) l s at_ i = gemotref1_Raised_p.l0 k (l.take a ++ l.drop (a + 1)) (s ++ l[a]) := by
  induction d with
  | zero =>
    intro at_ i ha hi hm
    obtain rfl : i = l.length := by omega
    exact ⟨at_, ha, fun j hj => hm j hj hj, fun k => gemotref1_Raised.s2 l hl hx s hs k at_ ha⟩
  | succ d ih =>
    intro at_ i ha hi hm
    have hil : i < l.length := by omega
    have hstep := fun k => gemotref1_Raised.s1 l hl s (k + 1 + d) at_ i ha hil
    by_cases c : Op.bytesLess l[i].toList l[at_].toList = true
    · have hlt : bl l[i] ≤ bl l[at_] := by
        rcases List.le_total (bl l[i]) (bl l[at_]) with q | q
        · exact q
        · have := (less_iff _ _).mp c
          exact absurd this (List.not_lt.mpr q)
      obtain ⟨a, h, h1, h2⟩ := ih i (i + 1) hil (by omega) (fun j hj hji => by
        rcases Nat.lt_or_ge j i with q | q
        · exact List.le_trans hlt (hm j hj q)
        · obtain rfl : j = i := by omega
          exact List.le_refl _)
      exact ⟨a, h, h1, fun k => (hstep k).trans ((if_pos c).trans (h2 k))⟩
    · obtain ⟨a, h, h1, h2⟩ := ih at_ (i + 1) ha (by omega) (fun j hj hji => by
        rcases Nat.lt_or_ge j i with q | q
        · exact hm j hj q
        · obtain rfl : j = i := by omega
          exact (less_not _ _).mp (by simpa using c))
      exact ⟨a, h, h1, fun k => (hstep k).trans ((if_neg c).trans (h2 k))⟩
theorem gemotref1_Raised.s0 (l : List ByteArray) (h : 0 < l.length) (s : ByteArray) (k : Nat) : gemotref1_Raised_p.l0 (k + 1) l s = gemotref1_Raised_p.l1 k l s 0 0 := by
  rw [gemotref1_Raised_p.l0, if_pos (show (l.length : Int) > 0 by omega)]
theorem gemotref1_Raised.sorts : ∀ (n : Nat) (l : List ByteArray) (s : ByteArray), l.length = n → n ≤ 32 → (∀ x ∈ l, x.size ≤ 20000) → s.size + n * 20000 ≤ 10000000 →
    ∃ ord : List ByteArray, ord.Perm l ∧ ord.Pairwise (fun x y => bl x ≤ bl y) ∧ ∃ K, ∀ k, K ≤ k → gemotref1_Raised_p.l0 k l s = some (s ++ cat ord)
  | 0, l, s, hl, _, _, _ => by
    have : l = [] := List.eq_nil_of_length_eq_zero hl
    subst this
    refine ⟨[], List.Perm.refl _, List.Pairwise.nil, 1, fun k hk => ?_⟩
    obtain ⟨k, rfl⟩ : ∃ m, k = m + 1 := ⟨k - 1, by omega⟩
    simp only [gemotref1_Raised_p.l0]
    rw [if_neg (by simp), cat, app_nil]
  | n + 1, l, s, hl, hn, hx, hs => by
    obtain ⟨a, ha, hmin, hstep⟩ := gemotref1_Raised.least l (by omega) hx s (by omega) l.length 0 0 (by omega) (by omega) (fun j hj h => by omega)
    have hperm : (l[a] :: (l.take a ++ l.drop (a + 1))).Perm l := by
      have h1 : l = l.take a ++ l[a] :: l.drop (a + 1) := by
        rw [← List.drop_eq_getElem_cons ha, List.take_append_drop]
      have h2 : (l.take a ++ l[a] :: l.drop (a + 1)).Perm (l[a] :: (l.take a ++ l.drop (a + 1))) := List.perm_middle
      rw [← h1] at h2
      exact h2.symm
    have hmem : ∀ x ∈ l.take a ++ l.drop (a + 1), x ∈ l := fun x hxm => hperm.mem_iff.mp (List.mem_cons_of_mem _ hxm)
    have hlen : (l.take a ++ l.drop (a + 1)).length = n := by have := hperm.length_eq; rw [List.length_cons] at this; omega
    obtain ⟨ord, h1, h2, K, hK⟩ := gemotref1_Raised.sorts n (l.take a ++ l.drop (a + 1)) (s ++ l[a]) hlen (by omega) (fun x hxm => hx x (hmem x hxm)) (by have := hx _ (List.getElem_mem ha); rw [ByteArray.size_append]; omega)
    refine ⟨l[a] :: ord, (h1.cons _).trans hperm, List.pairwise_cons.mpr ⟨fun y hy => ?_, h2⟩, K + l.length + 2, fun k hk => ?_⟩
    · have hyl := hmem y (h1.mem_iff.mp hy)
      obtain ⟨j, hj, rfl⟩ := List.mem_iff_getElem.mp hyl
      exact hmin j hj
    · obtain ⟨k, rfl⟩ : ∃ m, k = (m + 1 + l.length) + 1 := ⟨k - l.length - 2, by omega⟩
      have h3 := hstep k
      rw [show ((0 : Nat) : Int) = 0 from rfl] at h3
      rw [gemotref1_Raised.s0 l (by omega) s, h3, hK k (by omega), cat, app_assoc]
theorem gemotref1_Raised.eq (l : List ByteArray) (h : l.length ≤ 32 ∧ ∀ x ∈ l, x.size ≤ 20000) : ∃ k, gemotref1_Raised_p.f k l = some (elmOf l) := by
  unfold gemotref1_Raised_p.f elmOf
  by_cases c : l = []
  · subst c; exact ⟨1, rfl⟩
  · have hc : (l.length : Int) ≠ 0 := by have := List.length_pos_iff.mpr c; omega
    obtain ⟨ord, h1, h2, K, hK⟩ := gemotref1_Raised.sorts l.length l ((⟨#[101]⟩ : ByteArray) ++ strOfNums [(l.length : Int)]) rfl h.1 h.2 (by rw [ByteArray.size_append]; show 1 + 1 + _ ≤ _; omega)
    refine ⟨K, ?_⟩
    rw [if_neg hc, if_neg c, Option.bind_some, if_pos (by rw [List.length_nil]; omega), Option.bind_some, show ((l.length : Int)) % 256 = l.length by omega, if_pos (by show 1 + 1 ≤ _; omega), List.nil_append, hK K (Nat.le_refl _), sorted_unique h2 (sortB_sorted l) (h1.trans (sortB_perm l).symm)]
    have e : (⟨#[101]⟩ : ByteArray) ++ strOfNums [(l.length : Int)] = ⟨#[101, UInt8.ofNat l.length]⟩ := by
      have := head_pow l.length h.1
      rw [← this]
      apply ByteArray.ext
      rw [ByteArray.data_append]
      rfl
    rw [e]
theorem gemotref1_Raised.calls (A0 : Option Addr) (c0 : Nat) (l0 : List ByteArray) (r : ByteArray) (w : World) (hr0 : Kd.C Kd.string w A0 l0.length l0) (hc0 : l0.length ≤ c0) (h : gemotref1_Raised.f l0 = some r) :
    Calls Try.prog 140 #[.slice A0 l0.length c0] w fun e w' => e = .returned (.string r) ∧ Below w.heap.size w w' := by
  unfold gemotref1_Raised.f at h
  split at h
  case isFalse => cases h
  rename_i hs
  obtain ⟨k, hk⟩ := gemotref1_Raised.eq l0 hs
  exact gemotref1_Raised_p.calls k A0 c0 l0 r w hr0 hc0 (hk.trans h)

end Go.Proofs.Ytpfpmjdifnoeoaa.F
