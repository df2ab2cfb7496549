-- Laid by mk.py (a program of this session) over the seat's translation.
import Derived.Test.YtpfpmjdifnoeoaaF0
import Derived.Test.YtpfpmjdifnoeoaaF141
namespace Go.Proofs.Ytpfpmjdifnoeoaa.F
open Go.RowKit Go.Proofs.YtpfpmjdifnoeoaaW.PrintWords Go.Proofs.YtpfpmjdifnoeoaaW.PrintLast Go.Proofs.YtpfpmjdifnoeoaaW.PrintMore
attribute [local go_sem] max2_int min2_int max_two min_two max_three min_three max_four min_four
set_option linter.unusedVariables false
set_option linter.unusedSimpArgs false

/-! ### term_Sign: function 96 -/
/-! #### term_Sign_p: function 96 -/
def term_Sign_p.f (a0 : ByteArray) (a1 : ByteArray) : Option (ByteArray × Int) := (term_of.f (⟨#[120]⟩ : ByteArray) (([a0, a1] : List ByteArray))).bind fun bt889 => (some (bt889.1, bt889.2))
set_option maxHeartbeats 8000000 in
set_option maxRecDepth 100000 in
theorem term_Sign_p.calls (a0 : ByteArray) (a1 : ByteArray) (r1 : ByteArray) (r2 : Int) (w : World) (h : term_Sign_p.f a0 a1 = some (r1, r2)) :
    Calls Try.prog 96 #[.string a0, .string a1] w fun e w' => e = .returned (.tuple #[.string r1, .int .i64 r2]) ∧ Below w.heap.size w w' := by
  have HB := Aside0.mk (Below.refl w.heap.size w)
  have H : ((term_of.f (⟨#[120]⟩ : ByteArray) (([a0, a1] : List ByteArray))).bind fun bt889 => (some (bt889.1, bt889.2))) = some (r1, r2) := h
  clear h
  obtain ⟨y886, hy886⟩ : ∃ y_ : List ByteArray, y_ = (([a0, a1] : List ByteArray)) := ⟨_, rfl⟩
  replace H : ((term_of.f (⟨#[120]⟩ : ByteArray) y886).bind fun bt889 => (some (bt889.1, bt889.2))) = some (r1, r2) := by first | (rw [hy886]; with_reducible exact H) | (have H2_ := (Option.bind_some _ _).symm.trans H; rw [hy886]; with_reducible exact H2_) | (have H2_ := (Option.bind_some _ _).symm.trans H; with_reducible exact H2_) | with_reducible exact H | (rw [hy886]; exact H) | exact H
  have Ny886 := Aside0.mk hy886
  clear hy886
  replace H := Option.bind_eq_some_iff.mp H
  obtain ⟨⟨t889, t890⟩, A30, H⟩ := H
  replace H : (some (t889, t890)) = some (r1, r2) := H
  have A3 := Aside0.mk A30
  clear A30
  simp only [Option.some.injEq, Prod.mk.injEq] at H
  obtain ⟨rfl, rfl⟩ := H
  go_enter Try.func96, Try.ntmps96
  go_wp2_with (first | ((with_reducible refine gate_dst (N := 8) rfl ?_); refine Kd.R_lit Kd.string _ 23 ?hg (N := 8) ?hd (xs := ([a0, a1] : List ByteArray)) (inner := [.string a0, .string a1]) (ok := fun _ => True) (okp := fun _ => True) ?hr ?hp (fun _ hk => hk) trivial (Below.refl _ _) (Nat.le_refl _) (by simp) ?_; (case hd => rfl); (case hg => rfl); (case hr => first | (go_simp; done) | (go_simp; rfl)); (case hp => exact (Reps.one (show Kd.M Kd.string _ _ _ a0 [.string a0] from rfl) (Reps.one (show Kd.M Kd.string _ _ _ a1 [.string a1] from rfl) (Reps.none _ _)))); intro v887 w4 ho5 hb hg_ hnew_; clear hg_ hnew_; (first | rw [← Ny886.out] at ho5 | (simp only [Int.reduceToNat] at ho5; rw [← Ny886.out] at ho5)); have n0_ := Aside0.mk (Kd.R_lower ho5 (below_size (by repeat (first | (with_reducible first | exact HB.out | apply below_alloc | apply pw_below_drewN | apply below_drew1) | exact HB.out)))); have n1_ := Aside0.mk (below_step (by repeat (first | (with_reducible first | exact HB.out | apply below_alloc | apply pw_below_drewN | apply below_drew1) | exact HB.out)) hb); clear HB; have HO888 := n0_; have HB := n1_; clear n0_ n1_; clear hb ho5; obtain ⟨Ao6, co6, eo6⟩ := Kd.R_slice HO888.out; subst eo6) | ((with_reducible refine gate_callee (f := 141) rfl ?_); refine goesL_ (some 9) rfl rfl Try.func141 (by kernel_rfl) rfl #[.string (⟨#[120]⟩ : ByteArray), .slice Ao6 y886.length co6] rfl (by (try simp only [List.map_toArray, List.map_cons, List.map_nil]); first | done | rfl | (simp only [List.length_drop, List.length_take]; rfl)) ?_; (with_reducible refine (term_of.calls (⟨#[120]⟩ : ByteArray) _ _ y886 t889 t890 _ ?side1 ?side2 A3.out).mono ?_); (case side1 => repeat (first | exact (Kd.R_reads' HO888.out).2.2 | (with_reducible refine Kd.C_alloc ?_ _) | (with_reducible refine Kd.C_drewN ?_ _) | (with_reducible refine Kd.C_drew ?_))); (case side2 => exact (Kd.R_reads' HO888.out).2.1); rintro e w7 ⟨rfl, hb⟩; refine ⟨_, rfl, ?_⟩; have n0_ := Aside0.mk (Kd.R_below (by (with_reducible repeat (first | apply Kd.R_alloc | apply Kd.R_drewN | apply Kd.R_drew)); exact HO888.out) hb); have n1_ := Aside0.mk (below_step (by repeat (first | (with_reducible first | exact HB.out | apply below_alloc | apply pw_below_drewN | apply below_drew1) | exact HB.out)) hb); clear HO888; clear HB; have HO888 := n0_; have HB := n1_; clear n0_ n1_; (try clear hb); (try clear hb2); (try clear hk); (try clear hi)))
  go_ret2
  exact ⟨by first | rfl | (simp [errW_none, errW_some] <;> rfl) | (simp [*, errW_none, errW_some] <;> rfl), by repeat (first | (with_reducible first | exact HB.out | apply below_alloc | apply pw_below_drewN | apply below_drew1) | exact HB.out)⟩

def signF (a0 : ByteArray) (a1 : ByteArray) : ByteArray × Int := ofF ⟨#[120]⟩ [a0, a1]
def term_Sign.f (a0 : ByteArray) (a1 : ByteArray) : Option (ByteArray × Int) := if a0.size < 9223372036854775000 ∧ a1.size < 9223372036854775000 then some (signF a0 a1) else none
theorem term_Sign.eq (a0 : ByteArray) (a1 : ByteArray) (h : a0.size < 9223372036854775000 ∧ a1.size < 9223372036854775000) : term_Sign_p.f a0 a1 = term_Sign.f a0 a1 := by
  unfold term_Sign_p.f term_of.f term_Sign.f
  rw [if_pos h, if_pos ⟨by show 1 ≤ 100; omega, by simp, by simp; omega⟩]
  rfl
theorem term_Sign.calls (a0 : ByteArray) (a1 : ByteArray) (r1 : ByteArray) (r2 : Int) (w : World) (h : term_Sign.f a0 a1 = some (r1, r2)) :
    Calls Try.prog 96 #[.string a0, .string a1] w fun e w' => e = .returned (.tuple #[.string r1, .int .i64 r2]) ∧ Below w.heap.size w w' := by
  have hs : a0.size < 9223372036854775000 ∧ a1.size < 9223372036854775000 := by
    unfold term_Sign.f at h
    split at h
    · assumption
    · cases h
  exact term_Sign_p.calls a0 a1 r1 r2 w ((term_Sign.eq a0 a1 hs).trans h)

end Go.Proofs.Ytpfpmjdifnoeoaa.F
