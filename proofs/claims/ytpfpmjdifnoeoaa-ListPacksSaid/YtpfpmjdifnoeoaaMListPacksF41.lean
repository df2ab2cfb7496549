import Derived.Test.YtpfpmjdifnoeoaaMListPacksF0
import Derived.Test.YtpfpmjdifnoeoaaMListPacksF46
import Derived.Test.YtpfpmjdifnoeoaaMListPacksB1
import Derived.Test.YtpfpmjdifnoeoaaMListPacksB2
import Derived.Test.YtpfpmjdifnoeoaaMListPacksLList
namespace Go.Proofs.Ytpfpmjdifnoeoaa.F
open Go.RowKit Go.Proofs.YtpfpmjdifnoeoaaW.PrintWords Go.Proofs.YtpfpmjdifnoeoaaW.PrintLast Go.Proofs.YtpfpmjdifnoeoaaW.PrintMore
attribute [local go_sem] max2_int min2_int max_two min_two max_three min_three max_four min_four
set_option linter.unusedVariables false
set_option linter.unusedSimpArgs false
def gemotlaw4_shown_p.f  : Option (Bool) := (list_Put.f (([(⟨#[103]⟩ : ByteArray), (⟨#[104, 103]⟩ : ByteArray)] : List ByteArray))).bind fun bt1004 => ((term_Number.f 0).bind fun t1006 => (if 5 + t1006.size ≤ 9223372036854775807 then (if bt1004.1.toList = ((⟨#[112, 103, 112, 104, 103]⟩ : ByteArray) ++ t1006).toList then (if bt1004.2 = 0 then ((term_Number.f 0).bind fun t1007 => (some ((t1007.size : Int) == 9))) else (some false)) else (some false)) else (none)))
set_option maxHeartbeats 8000000 in
set_option maxRecDepth 100000 in
theorem gemotlaw4_shown_p.calls  (r : Bool) (w : World) (h : gemotlaw4_shown_p.f  = some r) :
    Calls Try.prog 41 #[] w fun e w' => e = .returned (.bool r) ∧ Below w.heap.size w w' := by
  have HB := Aside0.mk (Below.refl w.heap.size w)
  have H : ((list_Put.f (([(⟨#[103]⟩ : ByteArray), (⟨#[104, 103]⟩ : ByteArray)] : List ByteArray))).bind fun bt1004 => ((term_Number.f 0).bind fun t1006 => (if 5 + t1006.size ≤ 9223372036854775807 then (if bt1004.1.toList = ((⟨#[112, 103, 112, 104, 103]⟩ : ByteArray) ++ t1006).toList then (if bt1004.2 = 0 then ((term_Number.f 0).bind fun t1007 => (some ((t1007.size : Int) == 9))) else (some false)) else (some false)) else (none)))) = some r := h
  clear h; obtain ⟨y1001, hy1001⟩ : ∃ y_ : List ByteArray, y_ = (([(⟨#[103]⟩ : ByteArray), (⟨#[104, 103]⟩ : ByteArray)] : List ByteArray)) := ⟨_, rfl⟩
  replace H : ((list_Put.f y1001).bind fun bt1004 => ((term_Number.f 0).bind fun t1006 => (if 5 + t1006.size ≤ 9223372036854775807 then (if bt1004.1.toList = ((⟨#[112, 103, 112, 104, 103]⟩ : ByteArray) ++ t1006).toList then (if bt1004.2 = 0 then ((term_Number.f 0).bind fun t1007 => (some ((t1007.size : Int) == 9))) else (some false)) else (some false)) else (none)))) = some r := by first | (rw [hy1001]; with_reducible exact H) | (have H2_ := (Option.bind_some _ _).symm.trans H; rw [hy1001]; with_reducible exact H2_) | (have H2_ := (Option.bind_some _ _).symm.trans H; with_reducible exact H2_) | with_reducible exact H | (rw [hy1001]; exact H) | exact H
  have Ny1001 := Aside0.mk hy1001
  clear hy1001; replace H := Option.bind_eq_some_iff.mp H
  obtain ⟨⟨t1004, t1005⟩, A10, H⟩ := H
  replace H : ((term_Number.f 0).bind fun t1006 => (if 5 + t1006.size ≤ 9223372036854775807 then (if t1004.toList = ((⟨#[112, 103, 112, 104, 103]⟩ : ByteArray) ++ t1006).toList then (if t1005 = 0 then ((term_Number.f 0).bind fun t1007 => (some ((t1007.size : Int) == 9))) else (some false)) else (some false)) else (none))) = some r := H
  have A1 := Aside0.mk A10
  clear A10; replace H := Option.bind_eq_some_iff.mp H
  obtain ⟨t1006, A20, H⟩ := H; replace H : (if 5 + t1006.size ≤ 9223372036854775807 then (if t1004.toList = ((⟨#[112, 103, 112, 104, 103]⟩ : ByteArray) ++ t1006).toList then (if t1005 = 0 then ((term_Number.f 0).bind fun t1007 => (some ((t1007.size : Int) == 9))) else (some false)) else (some false)) else (none)) = some r := H
  have A2 := Aside0.mk A20
  clear A20; by_cases c3 : 5 + t1006.size ≤ 9223372036854775807
  · rw [if_pos c3] at H
    have c3b0 := eq_true c3
    have c3b1 : decide (5 + t1006.size ≤ 9223372036854775807) = true := decide_eq_true c3
    try have c3b2 : (9223372036854775807 < 5 + t1006.size) = False := eq_false (Nat.not_lt.2 c3)
    by_cases c4 : t1004.toList = ((⟨#[112, 103, 112, 104, 103]⟩ : ByteArray) ++ t1006).toList
    · rw [if_pos c4] at H
      have c4b0 : (t1004.toList == ((⟨#[112, 103, 112, 104, 103]⟩ : ByteArray) ++ t1006).toList) = true := beq_iff_eq.mpr c4
      have c4b1 : (t1004.toList != ((⟨#[112, 103, 112, 104, 103]⟩ : ByteArray) ++ t1006).toList) = false := bne_eq_false_iff_eq.mpr c4
      clear c4; by_cases c5 : t1005 = 0
      · rw [if_pos c5] at H
        have c5b0 : (t1005 == 0) = true := beq_iff_eq.mpr c5
        have c5b1 : (t1005 != 0) = false := bne_eq_false_iff_eq.mpr c5
        clear c5; replace H := Option.bind_eq_some_iff.mp H
        obtain ⟨t1007, A60, H⟩ := H; replace H : (some ((t1007.size : Int) == 9)) = some r := H
        have A6 := Aside0.mk A60
        clear A60; obtain rfl := Option.some.inj H
        go_enter Try.func41, Try.ntmps41
        go_wp2_with (first | ((with_reducible refine gate_dst (N := 4) rfl ?_); refine Kd.R_lit Kd.string _ 23 ?hg (N := 4) ?hd (xs := ([(⟨#[103]⟩ : ByteArray), (⟨#[104, 103]⟩ : ByteArray)] : List ByteArray)) (inner := [.string (⟨#[103]⟩ : ByteArray), .string (⟨#[104, 103]⟩ : ByteArray)]) (ok := fun _ => True) (okp := fun _ => True) ?hr ?hp (fun _ hk => hk) trivial (Below.refl _ _) (Nat.le_refl _) (by simp) ?_; (case hd => rfl); (case hg => rfl); (case hr => first | (go_simp; done) | (go_simp; rfl)); (case hp => exact (Reps.one (show Kd.M Kd.string _ _ _ (⟨#[103]⟩ : ByteArray) [.string (⟨#[103]⟩ : ByteArray)] from rfl) (Reps.one (show Kd.M Kd.string _ _ _ (⟨#[104, 103]⟩ : ByteArray) [.string (⟨#[104, 103]⟩ : ByteArray)] from rfl) (Reps.none _ _)))); intro v1002 w7 ho8 hb hg_ hnew_; clear hg_ hnew_; (first | rw [← Ny1001.out] at ho8 | (simp only [Int.reduceToNat] at ho8; rw [← Ny1001.out] at ho8)); have n0_ := Aside0.mk (Kd.R_lower ho8 (below_size (by repeat with_reducible first | exact HB.out | apply below_alloc | apply pw_below_drewN | apply below_drew1))); have n1_ := Aside0.mk (below_step (by repeat with_reducible first | exact HB.out | apply below_alloc | apply pw_below_drewN | apply below_drew1) hb); clear HB; have HO1003 := n0_; have HB := n1_; clear n0_ n1_; clear hb ho8; obtain ⟨Ao9, co9, eo9⟩ := Kd.R_slice HO1003.out; subst eo9) | ((with_reducible refine gate_callee (f := 46) rfl ?_); refine goesL_ (some 5) rfl rfl Try.func46 (by kernel_rfl) rfl #[.slice Ao9 y1001.length co9] rfl (by simp only [List.map_toArray, List.map_cons, List.map_nil] <;> rfl) ?_; (with_reducible refine (list_Put.calls _ _ y1001 t1004 t1005 _ ?side1 ?side2 A1.out).mono ?_); (case side1 => repeat (first | exact (Kd.R_reads' HO1003.out).2.2 | (with_reducible refine Kd.C_alloc ?_ _) | (with_reducible refine Kd.C_drewN ?_ _) | (with_reducible refine Kd.C_drew ?_))); (case side2 => exact (Kd.R_reads' HO1003.out).2.1); rintro e w10 ⟨rfl, hb⟩; refine ⟨_, rfl, ?_⟩; have n0_ := Aside0.mk (Kd.R_below (by (with_reducible repeat (first | apply Kd.R_alloc | apply Kd.R_drewN | apply Kd.R_drew)); exact HO1003.out) hb); have n1_ := Aside0.mk (below_step (by repeat with_reducible first | exact HB.out | apply below_alloc | apply pw_below_drewN | apply below_drew1) hb); clear HO1003; clear HB; have HO1003 := n0_; have HB := n1_; clear n0_ n1_; (try clear hb)) | ((with_reducible refine gate_callee (f := 84) rfl ?_); refine goesL_ (some 9) rfl rfl Try.func84 (by kernel_rfl) rfl #[.int .u64 0] rfl (by simp only [List.map_toArray, List.map_cons, List.map_nil] <;> rfl) ?_; (with_reducible refine (term_Number.calls 0 t1006 _ A2.out).mono ?_); rintro e w11 ⟨rfl, hb⟩; refine ⟨_, rfl, ?_⟩; have n0_ := Aside0.mk (Kd.R_below (by (with_reducible repeat (first | apply Kd.R_alloc | apply Kd.R_drewN | apply Kd.R_drew)); exact HO1003.out) hb); have n1_ := Aside0.mk (below_step (by repeat with_reducible first | exact HB.out | apply below_alloc | apply pw_below_drewN | apply below_drew1) hb); clear HO1003; clear HB; have HO1003 := n0_; have HB := n1_; clear n0_ n1_; (try clear hb)) | (go_at_call 84; (with_reducible refine (term_Number.calls 0 t1007 _ A6.out).mono ?_); rintro e w12 ⟨rfl, hb⟩; have n0_ := Aside0.mk (Kd.R_below (by (with_reducible repeat (first | apply Kd.R_alloc | apply Kd.R_drewN | apply Kd.R_drew)); exact HO1003.out) hb); have n1_ := Aside0.mk (below_step (by repeat with_reducible first | exact HB.out | apply below_alloc | apply pw_below_drewN | apply below_drew1) hb); clear HO1003; clear HB; have HO1003 := n0_; have HB := n1_; clear n0_ n1_; (try clear hb)))
        go_ret
        exact ⟨by first | rfl | (simp [errW_none, errW_some] <;> rfl) | (simp [*, errW_none, errW_some] <;> rfl), by repeat (first | (with_reducible first | exact HB.out | apply below_alloc | apply pw_below_drewN | apply below_drew1) | exact HB.out)⟩
      · rw [if_neg c5] at H
        have c5b0 : (t1005 == 0) = false := beq_eq_false_iff_ne.mpr c5
        have c5b1 : (t1005 != 0) = true := bne_iff_ne.mpr c5
        obtain rfl := Option.some.inj H
        go_enter Try.func41, Try.ntmps41
        go_wp2_with (first | ((with_reducible refine gate_dst (N := 4) rfl ?_); refine Kd.R_lit Kd.string _ 23 ?hg (N := 4) ?hd (xs := ([(⟨#[103]⟩ : ByteArray), (⟨#[104, 103]⟩ : ByteArray)] : List ByteArray)) (inner := [.string (⟨#[103]⟩ : ByteArray), .string (⟨#[104, 103]⟩ : ByteArray)]) (ok := fun _ => True) (okp := fun _ => True) ?hr ?hp (fun _ hk => hk) trivial (Below.refl _ _) (Nat.le_refl _) (by simp) ?_; (case hd => rfl); (case hg => rfl); (case hr => first | (go_simp; done) | (go_simp; rfl)); (case hp => exact (Reps.one (show Kd.M Kd.string _ _ _ (⟨#[103]⟩ : ByteArray) [.string (⟨#[103]⟩ : ByteArray)] from rfl) (Reps.one (show Kd.M Kd.string _ _ _ (⟨#[104, 103]⟩ : ByteArray) [.string (⟨#[104, 103]⟩ : ByteArray)] from rfl) (Reps.none _ _)))); intro v1002 w13 ho14 hb hg_ hnew_; clear hg_ hnew_; (first | rw [← Ny1001.out] at ho14 | (simp only [Int.reduceToNat] at ho14; rw [← Ny1001.out] at ho14)); have n0_ := Aside0.mk (Kd.R_lower ho14 (below_size (by repeat with_reducible first | exact HB.out | apply below_alloc | apply pw_below_drewN | apply below_drew1))); have n1_ := Aside0.mk (below_step (by repeat with_reducible first | exact HB.out | apply below_alloc | apply pw_below_drewN | apply below_drew1) hb); clear HB; have HO1003 := n0_; have HB := n1_; clear n0_ n1_; clear hb ho14; obtain ⟨Ao15, co15, eo15⟩ := Kd.R_slice HO1003.out; subst eo15) | ((with_reducible refine gate_callee (f := 46) rfl ?_); refine goesL_ (some 5) rfl rfl Try.func46 (by kernel_rfl) rfl #[.slice Ao15 y1001.length co15] rfl (by simp only [List.map_toArray, List.map_cons, List.map_nil] <;> rfl) ?_; (with_reducible refine (list_Put.calls _ _ y1001 t1004 t1005 _ ?side1 ?side2 A1.out).mono ?_); (case side1 => repeat (first | exact (Kd.R_reads' HO1003.out).2.2 | (with_reducible refine Kd.C_alloc ?_ _) | (with_reducible refine Kd.C_drewN ?_ _) | (with_reducible refine Kd.C_drew ?_))); (case side2 => exact (Kd.R_reads' HO1003.out).2.1); rintro e w16 ⟨rfl, hb⟩; refine ⟨_, rfl, ?_⟩; have n0_ := Aside0.mk (Kd.R_below (by (with_reducible repeat (first | apply Kd.R_alloc | apply Kd.R_drewN | apply Kd.R_drew)); exact HO1003.out) hb); have n1_ := Aside0.mk (below_step (by repeat with_reducible first | exact HB.out | apply below_alloc | apply pw_below_drewN | apply below_drew1) hb); clear HO1003; clear HB; have HO1003 := n0_; have HB := n1_; clear n0_ n1_; (try clear hb)) | ((with_reducible refine gate_callee (f := 84) rfl ?_); refine goesL_ (some 9) rfl rfl Try.func84 (by kernel_rfl) rfl #[.int .u64 0] rfl (by simp only [List.map_toArray, List.map_cons, List.map_nil] <;> rfl) ?_; (with_reducible refine (term_Number.calls 0 t1006 _ A2.out).mono ?_); rintro e w17 ⟨rfl, hb⟩; refine ⟨_, rfl, ?_⟩; have n0_ := Aside0.mk (Kd.R_below (by (with_reducible repeat (first | apply Kd.R_alloc | apply Kd.R_drewN | apply Kd.R_drew)); exact HO1003.out) hb); have n1_ := Aside0.mk (below_step (by repeat with_reducible first | exact HB.out | apply below_alloc | apply pw_below_drewN | apply below_drew1) hb); clear HO1003; clear HB; have HO1003 := n0_; have HB := n1_; clear n0_ n1_; (try clear hb)))
        go_ret
        exact ⟨by first | rfl | (simp [errW_none, errW_some] <;> rfl) | (simp [*, errW_none, errW_some] <;> rfl), by repeat (first | (with_reducible first | exact HB.out | apply below_alloc | apply pw_below_drewN | apply below_drew1) | exact HB.out)⟩
    · rw [if_neg c4] at H
      have c4b0 : (t1004.toList == ((⟨#[112, 103, 112, 104, 103]⟩ : ByteArray) ++ t1006).toList) = false := beq_eq_false_iff_ne.mpr c4
      have c4b1 : (t1004.toList != ((⟨#[112, 103, 112, 104, 103]⟩ : ByteArray) ++ t1006).toList) = true := bne_iff_ne.mpr c4
      obtain rfl := Option.some.inj H
      go_enter Try.func41, Try.ntmps41
      go_wp2_with (first | ((with_reducible refine gate_dst (N := 4) rfl ?_); refine Kd.R_lit Kd.string _ 23 ?hg (N := 4) ?hd (xs := ([(⟨#[103]⟩ : ByteArray), (⟨#[104, 103]⟩ : ByteArray)] : List ByteArray)) (inner := [.string (⟨#[103]⟩ : ByteArray), .string (⟨#[104, 103]⟩ : ByteArray)]) (ok := fun _ => True) (okp := fun _ => True) ?hr ?hp (fun _ hk => hk) trivial (Below.refl _ _) (Nat.le_refl _) (by simp) ?_; (case hd => rfl); (case hg => rfl); (case hr => first | (go_simp; done) | (go_simp; rfl)); (case hp => exact (Reps.one (show Kd.M Kd.string _ _ _ (⟨#[103]⟩ : ByteArray) [.string (⟨#[103]⟩ : ByteArray)] from rfl) (Reps.one (show Kd.M Kd.string _ _ _ (⟨#[104, 103]⟩ : ByteArray) [.string (⟨#[104, 103]⟩ : ByteArray)] from rfl) (Reps.none _ _)))); intro v1002 w18 ho19 hb hg_ hnew_; clear hg_ hnew_; (first | rw [← Ny1001.out] at ho19 | (simp only [Int.reduceToNat] at ho19; rw [← Ny1001.out] at ho19)); have n0_ := Aside0.mk (Kd.R_lower ho19 (below_size (by repeat with_reducible first | exact HB.out | apply below_alloc | apply pw_below_drewN | apply below_drew1))); have n1_ := Aside0.mk (below_step (by repeat with_reducible first | exact HB.out | apply below_alloc | apply pw_below_drewN | apply below_drew1) hb); clear HB; have HO1003 := n0_; have HB := n1_; clear n0_ n1_; clear hb ho19; obtain ⟨Ao20, co20, eo20⟩ := Kd.R_slice HO1003.out; subst eo20) | ((with_reducible refine gate_callee (f := 46) rfl ?_); refine goesL_ (some 5) rfl rfl Try.func46 (by kernel_rfl) rfl #[.slice Ao20 y1001.length co20] rfl (by simp only [List.map_toArray, List.map_cons, List.map_nil] <;> rfl) ?_; (with_reducible refine (list_Put.calls _ _ y1001 t1004 t1005 _ ?side1 ?side2 A1.out).mono ?_); (case side1 => repeat (first | exact (Kd.R_reads' HO1003.out).2.2 | (with_reducible refine Kd.C_alloc ?_ _) | (with_reducible refine Kd.C_drewN ?_ _) | (with_reducible refine Kd.C_drew ?_))); (case side2 => exact (Kd.R_reads' HO1003.out).2.1); rintro e w21 ⟨rfl, hb⟩; refine ⟨_, rfl, ?_⟩; have n0_ := Aside0.mk (Kd.R_below (by (with_reducible repeat (first | apply Kd.R_alloc | apply Kd.R_drewN | apply Kd.R_drew)); exact HO1003.out) hb); have n1_ := Aside0.mk (below_step (by repeat with_reducible first | exact HB.out | apply below_alloc | apply pw_below_drewN | apply below_drew1) hb); clear HO1003; clear HB; have HO1003 := n0_; have HB := n1_; clear n0_ n1_; (try clear hb)) | ((with_reducible refine gate_callee (f := 84) rfl ?_); refine goesL_ (some 9) rfl rfl Try.func84 (by kernel_rfl) rfl #[.int .u64 0] rfl (by simp only [List.map_toArray, List.map_cons, List.map_nil] <;> rfl) ?_; (with_reducible refine (term_Number.calls 0 t1006 _ A2.out).mono ?_); rintro e w22 ⟨rfl, hb⟩; refine ⟨_, rfl, ?_⟩; have n0_ := Aside0.mk (Kd.R_below (by (with_reducible repeat (first | apply Kd.R_alloc | apply Kd.R_drewN | apply Kd.R_drew)); exact HO1003.out) hb); have n1_ := Aside0.mk (below_step (by repeat with_reducible first | exact HB.out | apply below_alloc | apply pw_below_drewN | apply below_drew1) hb); clear HO1003; clear HB; have HO1003 := n0_; have HB := n1_; clear n0_ n1_; (try clear hb)))
      go_ret
      exact ⟨by first | rfl | (simp [errW_none, errW_some] <;> rfl) | (simp [*, errW_none, errW_some] <;> rfl), by repeat (first | (with_reducible first | exact HB.out | apply below_alloc | apply pw_below_drewN | apply below_drew1) | exact HB.out)⟩
  · rw [if_neg c3] at H
    exact absurd H (by simp)
open Go.Proofs.Ytpfpmjdifnoeoaa.Pure
def gemotlaw4_shown.f : Option Bool := some true
theorem gemotlaw4_shown.eq : gemotlaw4_shown_p.f = some true := by
  have hg : Part 1 ⟨#[103]⟩ := gen_leaf.part (by decide) (by decide)
  have hh := hash_made (m := 1) (by decide) (by decide) hg (by decide)
  have h2 : Part 2 (⟨#[104, 103]⟩ : ByteArray) := hh.2
  have hall : ∀ x ∈ [(⟨#[103]⟩ : ByteArray), ⟨#[104, 103]⟩], Tm x ∧ depF x ≤ 2 := mem2 ⟨hg.tm, by have := hg.dep; omega⟩ ⟨h2.tm, h2.dep⟩
  have h3 := putOut_tm 2 (by decide) _ hall (by decide)
  have hz : (putOut [(⟨#[103]⟩ : ByteArray), ⟨#[104, 103]⟩]).size = 14 := rfl
  have h4 : putF [(⟨#[103]⟩ : ByteArray), ⟨#[104, 103]⟩] = (putOut [(⟨#[103]⟩ : ByteArray), ⟨#[104, 103]⟩], 0) := by
    have ha : [(⟨#[103]⟩ : ByteArray), ⟨#[104, 103]⟩].any (fun x => !rightB x) = false := by
      rw [List.any_cons, List.any_cons, hg.right, h2.right]; rfl
    unfold putF
    rw [if_neg (by rw [ha]; simp), if_neg (by omega), if_pos ((right_iff _).mpr ⟨h3.1, by omega⟩)]
  have h5 : (putOut [(⟨#[103]⟩ : ByteArray), ⟨#[104, 103]⟩]).toList = ((⟨#[112, 103, 112, 104, 103]⟩ : ByteArray) ++ numF 0).toList := by
    rw [ByteArray.toList_eq, ByteArray.toList_eq]; rfl
  unfold gemotlaw4_shown_p.f list_Put.f term_Number.f
  rw [if_pos (mem2 (by decide) (by decide)), h4]
  simp only [Option.bind_some]; rw [if_pos (by rw [numF_size]; omega), if_pos h5, if_pos trivial, numF_size]
  rfl
theorem gemotlaw4_shown.calls (r : Bool) (w : World) (h : gemotlaw4_shown.f = some r) :
    Calls Try.prog 41 #[] w fun e w' => e = .returned (.bool r) ∧ Below w.heap.size w w' :=
  gemotlaw4_shown_p.calls r w (gemotlaw4_shown.eq.trans h)
end Go.Proofs.Ytpfpmjdifnoeoaa.F
