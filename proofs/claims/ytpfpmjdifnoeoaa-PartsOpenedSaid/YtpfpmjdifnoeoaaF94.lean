-- Laid by mk.py (a program of this session) over the seat's translation.
import Derived.Test.YtpfpmjdifnoeoaaF0
import Derived.Test.YtpfpmjdifnoeoaaF141
namespace Go.Proofs.Ytpfpmjdifnoeoaa.F
open Go.RowKit Go.Proofs.YtpfpmjdifnoeoaaW.PrintWords Go.Proofs.YtpfpmjdifnoeoaaW.PrintLast Go.Proofs.YtpfpmjdifnoeoaaW.PrintMore
attribute [local go_sem] max2_int min2_int max_two min_two max_three min_three max_four min_four
set_option linter.unusedVariables false
set_option linter.unusedSimpArgs false

/-! ### term_Hash: function 94 -/
/-! #### term_Hash_p: function 94 -/
def term_Hash_p.f (a0 : ByteArray) : Option (ByteArray × Int) := (term_of.f (⟨#[104]⟩ : ByteArray) (([a0] : List ByteArray))).bind fun bt884 => (some (bt884.1, bt884.2))
set_option maxHeartbeats 8000000 in
set_option maxRecDepth 100000 in
theorem term_Hash_p.calls (a0 : ByteArray) (r1 : ByteArray) (r2 : Int) (w : World) (h : term_Hash_p.f a0 = some (r1, r2)) :
    Calls Try.prog 94 #[.string a0] w fun e w' => e = .returned (.tuple #[.string r1, .int .i64 r2]) ∧ Below w.heap.size w w' := by
  have HB := Aside0.mk (Below.refl w.heap.size w)
  have H : ((term_of.f (⟨#[104]⟩ : ByteArray) (([a0] : List ByteArray))).bind fun bt884 => (some (bt884.1, bt884.2))) = some (r1, r2) := h
  clear h
  obtain ⟨y881, hy881⟩ : ∃ y_ : List ByteArray, y_ = (([a0] : List ByteArray)) := ⟨_, rfl⟩
  replace H : ((term_of.f (⟨#[104]⟩ : ByteArray) y881).bind fun bt884 => (some (bt884.1, bt884.2))) = some (r1, r2) := by first | (rw [hy881]; with_reducible exact H) | (have H2_ := (Option.bind_some _ _).symm.trans H; rw [hy881]; with_reducible exact H2_) | (have H2_ := (Option.bind_some _ _).symm.trans H; with_reducible exact H2_) | with_reducible exact H | (rw [hy881]; exact H) | exact H
  have Ny881 := Aside0.mk hy881
  clear hy881
  replace H := Option.bind_eq_some_iff.mp H
  obtain ⟨⟨t884, t885⟩, A20, H⟩ := H
  replace H : (some (t884, t885)) = some (r1, r2) := H
  have A2 := Aside0.mk A20
  clear A20
  simp only [Option.some.injEq, Prod.mk.injEq] at H
  obtain ⟨rfl, rfl⟩ := H
  go_enter Try.func94, Try.ntmps94
  go_wp2_with (first | ((with_reducible refine gate_dst (N := 5) rfl ?_); refine Kd.R_lit Kd.string _ 23 ?hg (N := 5) ?hd (xs := ([a0] : List ByteArray)) (inner := [.string a0]) (ok := fun _ => True) (okp := fun _ => True) ?hr ?hp (fun _ hk => hk) trivial (Below.refl _ _) (Nat.le_refl _) (by simp) ?_; (case hd => rfl); (case hg => rfl); (case hr => first | (go_simp; done) | (go_simp; rfl)); (case hp => exact (Reps.one (show Kd.M Kd.string _ _ _ a0 [.string a0] from rfl) (Reps.none _ _))); intro v882 w3 ho4 hb hg_ hnew_; clear hg_ hnew_; (first | rw [← Ny881.out] at ho4 | (simp only [Int.reduceToNat] at ho4; rw [← Ny881.out] at ho4)); have n0_ := Aside0.mk (Kd.R_lower ho4 (below_size (by repeat (first | (with_reducible first | exact HB.out | apply below_alloc | apply pw_below_drewN | apply below_drew1) | exact HB.out)))); have n1_ := Aside0.mk (below_step (by repeat (first | (with_reducible first | exact HB.out | apply below_alloc | apply pw_below_drewN | apply below_drew1) | exact HB.out)) hb); clear HB; have HO883 := n0_; have HB := n1_; clear n0_ n1_; clear hb ho4; obtain ⟨Ao5, co5, eo5⟩ := Kd.R_slice HO883.out; subst eo5) | ((with_reducible refine gate_callee (f := 141) rfl ?_); refine goesL_ (some 6) rfl rfl Try.func141 (by kernel_rfl) rfl #[.string (⟨#[104]⟩ : ByteArray), .slice Ao5 y881.length co5] rfl (by (try simp only [List.map_toArray, List.map_cons, List.map_nil]); first | done | rfl | (simp only [List.length_drop, List.length_take]; rfl)) ?_; (with_reducible refine (term_of.calls (⟨#[104]⟩ : ByteArray) _ _ y881 t884 t885 _ ?side1 ?side2 A2.out).mono ?_); (case side1 => repeat (first | exact (Kd.R_reads' HO883.out).2.2 | (with_reducible refine Kd.C_alloc ?_ _) | (with_reducible refine Kd.C_drewN ?_ _) | (with_reducible refine Kd.C_drew ?_))); (case side2 => exact (Kd.R_reads' HO883.out).2.1); rintro e w6 ⟨rfl, hb⟩; refine ⟨_, rfl, ?_⟩; have n0_ := Aside0.mk (Kd.R_below (by (with_reducible repeat (first | apply Kd.R_alloc | apply Kd.R_drewN | apply Kd.R_drew)); exact HO883.out) hb); have n1_ := Aside0.mk (below_step (by repeat (first | (with_reducible first | exact HB.out | apply below_alloc | apply pw_below_drewN | apply below_drew1) | exact HB.out)) hb); clear HO883; clear HB; have HO883 := n0_; have HB := n1_; clear n0_ n1_; (try clear hb); (try clear hb2); (try clear hk); (try clear hi)))
  go_ret2
  exact ⟨by first | rfl | (simp [errW_none, errW_some] <;> rfl) | (simp [*, errW_none, errW_some] <;> rfl), by repeat (first | (with_reducible first | exact HB.out | apply below_alloc | apply pw_below_drewN | apply below_drew1) | exact HB.out)⟩

def hashF (a0 : ByteArray) : ByteArray × Int := ofF ⟨#[104]⟩ [a0]
def term_Hash.f (a0 : ByteArray) : Option (ByteArray × Int) := if a0.size < 9223372036854775000 then some (hashF a0) else none
theorem term_Hash.eq (a0 : ByteArray) (h : a0.size < 9223372036854775000) : term_Hash_p.f a0 = term_Hash.f a0 := by
  unfold term_Hash_p.f term_of.f term_Hash.f
  rw [if_pos h, if_pos ⟨by show 1 ≤ 100; omega, by simp, by simp; omega⟩]
  rfl
theorem term_Hash.calls (a0 : ByteArray) (r1 : ByteArray) (r2 : Int) (w : World) (h : term_Hash.f a0 = some (r1, r2)) :
    Calls Try.prog 94 #[.string a0] w fun e w' => e = .returned (.tuple #[.string r1, .int .i64 r2]) ∧ Below w.heap.size w w' := by
  have hs : a0.size < 9223372036854775000 := by
    unfold term_Hash.f at h
    split at h
    · assumption
    · cases h
  exact term_Hash_p.calls a0 r1 r2 w ((term_Hash.eq a0 hs).trans h)

end Go.Proofs.Ytpfpmjdifnoeoaa.F
