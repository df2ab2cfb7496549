-- Laid by mk.py (a program of this session) over the seat's translation.
import Derived.Test.YtpfpmjdifnoeoaaF0
import Derived.Test.YtpfpmjdifnoeoaaF100
import Derived.Test.YtpfpmjdifnoeoaaF41
import Derived.Test.YtpfpmjdifnoeoaaF46
import Derived.Test.YtpfpmjdifnoeoaaF55
import Derived.Test.YtpfpmjdifnoeoaaB1
import Derived.Test.YtpfpmjdifnoeoaaB2
namespace Go.Proofs.Ytpfpmjdifnoeoaa.F
open Go.RowKit Go.Proofs.YtpfpmjdifnoeoaaW.PrintWords Go.Proofs.YtpfpmjdifnoeoaaW.PrintLast Go.Proofs.YtpfpmjdifnoeoaaW.PrintMore
attribute [local go_sem] max2_int min2_int max_two min_two max_three min_three max_four min_four
set_option linter.unusedVariables false
set_option linter.unusedSimpArgs false

/-! ### gemotlaw4_ListJoins: function 23 -/
def gemotlaw4_ListJoins.j0 : Nat → ByteArray → ByteArray → Int → ByteArray → Int → Bool → Option (Bool)
  | 0, _, _, _, _, _, _ => none
  | k + 1, x7, x8, x9, x10, x11, x44 => if x44 = true then (if x9 = 3 then (some true) else (if x11 = 3 then (some true) else (if x9 = 4 then (some true) else (some (x11 == 4))))) else ((term_Pair.f x7 x8).bind fun bt1017 => (if bt1017.2 = 0 then (if bt1017.1.toList = x10.toList then (if x8.toList = x10.toList then (none) else ((term_Right.f x8).bind fun t1019 => (some t1019))) else (none)) else (none)))
def gemotlaw4_ListJoins.f (k : Nat) (l0 : List (S170)) (a1 : Int) : Option (Bool) := (gemotlaw4_shown.f).bind fun t1001 => (if t1001 = true then ((gemotlaw4_made.f l0).bind fun t1002 => ((gemotlaw4_pick.f a1 (t1002.length : Int)).bind fun t1005 => (if 0 ≤ t1005 then (if t1005 < (t1002.length : Int) then ((list_Put.f t1002).bind fun bt1007 => ((some (([rdOf ByteArray.empty t1002 t1005] : List ByteArray) : List ByteArray)).bind fun y1009 => (if y1009.length + t1002.length < 8796093022208 then ((list_Put.f (y1009 ++ t1002)).bind fun bt1015 => (if bt1007.2 = 0 then (gemotlaw4_ListJoins.j0 k (rdOf ByteArray.empty t1002 t1005) bt1007.1 bt1007.2 bt1015.1 bt1015.2 (bt1015.2 != 0)) else (gemotlaw4_ListJoins.j0 k (rdOf ByteArray.empty t1002 t1005) bt1007.1 bt1007.2 bt1015.1 bt1015.2 true))) else (none)))) else (none)) else (none)))) else (none))
theorem gemotlaw4_ListJoins.mono_l : ∀ k, (∀ y0 y1 y2 y3 y4 y5, LeO (gemotlaw4_ListJoins.j0 k y0 y1 y2 y3 y4 y5) (gemotlaw4_ListJoins.j0 (k + 1) y0 y1 y2 y3 y4 y5))
  | 0 => fun _ _ _ _ _ _ r h => by simp [gemotlaw4_ListJoins.j0] at h
  | k + 1 => by
    have ih0 := gemotlaw4_ListJoins.mono_l k
    · intro y0 y1 y2 y3 y4 y5
      unfold gemotlaw4_ListJoins.j0
      repeat' first
      | (with_reducible exact ih0 _ _ _ _ _ _)
      | (with_reducible exact LeO.refl _)
      | (with_reducible exact LeO.none _)
      | (with_reducible refine LeO.ite ?_ ?_)
      | (with_reducible refine LeO.bind ?_ (fun _ => ?_))
      | exact ih0 _ _ _ _ _ _
      | exact LeO.none _
      | refine LeO.ite ?_ ?_
      | refine LeO.bind ?_ (fun _ => ?_)
theorem gemotlaw4_ListJoins.mono : ∀ a0 a1 k, LeO (gemotlaw4_ListJoins.f k a0 a1) (gemotlaw4_ListJoins.f (k + 1) a0 a1) := by
  intro a0 a1 k
  have ih0 := gemotlaw4_ListJoins.mono_l k
  unfold gemotlaw4_ListJoins.f
  repeat' first
      | (with_reducible exact ih0 _ _ _ _ _ _)
      | (with_reducible exact LeO.refl _)
      | (with_reducible exact LeO.none _)
      | (with_reducible refine LeO.ite ?_ ?_)
      | (with_reducible refine LeO.bind ?_ (fun _ => ?_))
      | exact ih0 _ _ _ _ _ _
      | exact LeO.none _
      | refine LeO.ite ?_ ?_
      | refine LeO.bind ?_ (fun _ => ?_)
set_option maxHeartbeats 8000000 in
set_option maxRecDepth 100000 in
theorem gemotlaw4_ListJoins.calls (k : Nat) (A0 : Option Addr) (c0 : Nat) (l0 : List (S170)) (a1 : Int) (r : Bool) (w : World) (hr0 : Kd.C k170 w A0 l0.length l0) (hc0 : l0.length ≤ c0) (h : gemotlaw4_ListJoins.f k l0 a1 = some r) :
    Calls Try.prog 23 #[.slice A0 l0.length c0, .int .i64 a1] w fun e w' => e = .returned (.bool r) ∧ Below w.heap.size w w' := by
  have HR0 := Aside0.mk hr0
  have HC0 := Aside0.mk hc0
  clear hr0 hc0
  have HB := Aside0.mk (Below.refl w.heap.size w)
  have H : ((gemotlaw4_shown.f).bind fun t1001 => (if t1001 = true then ((gemotlaw4_made.f l0).bind fun t1002 => ((gemotlaw4_pick.f a1 (t1002.length : Int)).bind fun t1005 => (if 0 ≤ t1005 then (if t1005 < (t1002.length : Int) then ((list_Put.f t1002).bind fun bt1007 => ((some (([rdOf ByteArray.empty t1002 t1005] : List ByteArray) : List ByteArray)).bind fun y1009 => (if y1009.length + t1002.length < 8796093022208 then ((list_Put.f (y1009 ++ t1002)).bind fun bt1015 => (if bt1007.2 = 0 then (gemotlaw4_ListJoins.j0 k (rdOf ByteArray.empty t1002 t1005) bt1007.1 bt1007.2 bt1015.1 bt1015.2 (bt1015.2 != 0)) else (gemotlaw4_ListJoins.j0 k (rdOf ByteArray.empty t1002 t1005) bt1007.1 bt1007.2 bt1015.1 bt1015.2 true))) else (none)))) else (none)) else (none)))) else (none))) = some r := h
  clear h
  replace H := Option.bind_eq_some_iff.mp H
  obtain ⟨t1001, A30, H⟩ := H
  replace H : (if t1001 = true then ((gemotlaw4_made.f l0).bind fun t1002 => ((gemotlaw4_pick.f a1 (t1002.length : Int)).bind fun t1005 => (if 0 ≤ t1005 then (if t1005 < (t1002.length : Int) then ((list_Put.f t1002).bind fun bt1007 => ((some (([rdOf ByteArray.empty t1002 t1005] : List ByteArray) : List ByteArray)).bind fun y1009 => (if y1009.length + t1002.length < 8796093022208 then ((list_Put.f (y1009 ++ t1002)).bind fun bt1015 => (if bt1007.2 = 0 then (gemotlaw4_ListJoins.j0 k (rdOf ByteArray.empty t1002 t1005) bt1007.1 bt1007.2 bt1015.1 bt1015.2 (bt1015.2 != 0)) else (gemotlaw4_ListJoins.j0 k (rdOf ByteArray.empty t1002 t1005) bt1007.1 bt1007.2 bt1015.1 bt1015.2 true))) else (none)))) else (none)) else (none)))) else (none)) = some r := H
  have A3 := Aside0.mk A30
  clear A30
  by_cases c4 : t1001 = true
  · subst c4
    have H1 : ((gemotlaw4_made.f l0).bind fun t1002 => ((gemotlaw4_pick.f a1 (t1002.length : Int)).bind fun t1005 => (if 0 ≤ t1005 then (if t1005 < (t1002.length : Int) then ((list_Put.f t1002).bind fun bt1007 => ((some (([rdOf ByteArray.empty t1002 t1005] : List ByteArray) : List ByteArray)).bind fun y1009 => (if y1009.length + t1002.length < 8796093022208 then ((list_Put.f (y1009 ++ t1002)).bind fun bt1015 => (if bt1007.2 = 0 then (gemotlaw4_ListJoins.j0 k (rdOf ByteArray.empty t1002 t1005) bt1007.1 bt1007.2 bt1015.1 bt1015.2 (bt1015.2 != 0)) else (gemotlaw4_ListJoins.j0 k (rdOf ByteArray.empty t1002 t1005) bt1007.1 bt1007.2 bt1015.1 bt1015.2 true))) else (none)))) else (none)) else (none)))) = some r := by rw [if_pos rfl] at H; exact H
    clear H
    have H := H1
    clear H1
    replace H := Option.bind_eq_some_iff.mp H
    obtain ⟨t1002, A50, H⟩ := H
    replace H : ((gemotlaw4_pick.f a1 (t1002.length : Int)).bind fun t1005 => (if 0 ≤ t1005 then (if t1005 < (t1002.length : Int) then ((list_Put.f t1002).bind fun bt1007 => ((some (([rdOf ByteArray.empty t1002 t1005] : List ByteArray) : List ByteArray)).bind fun y1009 => (if y1009.length + t1002.length < 8796093022208 then ((list_Put.f (y1009 ++ t1002)).bind fun bt1015 => (if bt1007.2 = 0 then (gemotlaw4_ListJoins.j0 k (rdOf ByteArray.empty t1002 t1005) bt1007.1 bt1007.2 bt1015.1 bt1015.2 (bt1015.2 != 0)) else (gemotlaw4_ListJoins.j0 k (rdOf ByteArray.empty t1002 t1005) bt1007.1 bt1007.2 bt1015.1 bt1015.2 true))) else (none)))) else (none)) else (none))) = some r := H
    have A5 := Aside0.mk A50
    clear A50
    replace H := Option.bind_eq_some_iff.mp H
    obtain ⟨t1005, A60, H⟩ := H
    replace H : (if 0 ≤ t1005 then (if t1005 < (t1002.length : Int) then ((list_Put.f t1002).bind fun bt1007 => ((some (([rdOf ByteArray.empty t1002 t1005] : List ByteArray) : List ByteArray)).bind fun y1009 => (if y1009.length + t1002.length < 8796093022208 then ((list_Put.f (y1009 ++ t1002)).bind fun bt1015 => (if bt1007.2 = 0 then (gemotlaw4_ListJoins.j0 k (rdOf ByteArray.empty t1002 t1005) bt1007.1 bt1007.2 bt1015.1 bt1015.2 (bt1015.2 != 0)) else (gemotlaw4_ListJoins.j0 k (rdOf ByteArray.empty t1002 t1005) bt1007.1 bt1007.2 bt1015.1 bt1015.2 true))) else (none)))) else (none)) else (none)) = some r := H
    have A6 := Aside0.mk A60
    clear A60
    by_cases c7 : 0 ≤ t1005
    · rw [if_pos c7] at H
      have c7b0 : decide (0 ≤ t1005) = true := decide_eq_true c7
      clear c7
      by_cases c8 : t1005 < (t1002.length : Int)
      · rw [if_pos c8] at H
        have c8b0 : decide (t1005 < (t1002.length : Int)) = true := decide_eq_true c8
        clear c8
        replace H := Option.bind_eq_some_iff.mp H
        obtain ⟨⟨t1007, t1008⟩, A90, H⟩ := H
        replace H : ((some (([rdOf ByteArray.empty t1002 t1005] : List ByteArray) : List ByteArray)).bind fun y1009 => (if y1009.length + t1002.length < 8796093022208 then ((list_Put.f (y1009 ++ t1002)).bind fun bt1015 => (if t1008 = 0 then (gemotlaw4_ListJoins.j0 k (rdOf ByteArray.empty t1002 t1005) t1007 t1008 bt1015.1 bt1015.2 (bt1015.2 != 0)) else (gemotlaw4_ListJoins.j0 k (rdOf ByteArray.empty t1002 t1005) t1007 t1008 bt1015.1 bt1015.2 true))) else (none))) = some r := H
        have A9 := Aside0.mk A90
        clear A90
        obtain ⟨y1009, hy1009⟩ : ∃ y_ : List ByteArray, y_ = (([rdOf ByteArray.empty t1002 t1005] : List ByteArray)) := ⟨_, rfl⟩
        replace H : (if y1009.length + t1002.length < 8796093022208 then ((list_Put.f (y1009 ++ t1002)).bind fun bt1015 => (if t1008 = 0 then (gemotlaw4_ListJoins.j0 k (rdOf ByteArray.empty t1002 t1005) t1007 t1008 bt1015.1 bt1015.2 (bt1015.2 != 0)) else (gemotlaw4_ListJoins.j0 k (rdOf ByteArray.empty t1002 t1005) t1007 t1008 bt1015.1 bt1015.2 true))) else (none)) = some r := by first | (rw [hy1009]; with_reducible exact H) | (have H2_ := (Option.bind_some _ _).symm.trans H; rw [hy1009]; with_reducible exact H2_) | (have H2_ := (Option.bind_some _ _).symm.trans H; with_reducible exact H2_) | with_reducible exact H | (rw [hy1009]; exact H) | exact H
        have Ny1009 := Aside0.mk hy1009
        clear hy1009
        by_cases c10 : y1009.length + t1002.length < 8796093022208
        · rw [if_pos c10] at H
          have LMc10 := Aside0.mk c10
          clear c10
          obtain ⟨y1012, hy1012⟩ : ∃ y_ : List ByteArray, y_ = (y1009 ++ t1002) := ⟨_, rfl⟩
          replace H : ((list_Put.f y1012).bind fun bt1015 => (if t1008 = 0 then (gemotlaw4_ListJoins.j0 k (rdOf ByteArray.empty t1002 t1005) t1007 t1008 bt1015.1 bt1015.2 (bt1015.2 != 0)) else (gemotlaw4_ListJoins.j0 k (rdOf ByteArray.empty t1002 t1005) t1007 t1008 bt1015.1 bt1015.2 true))) = some r := by first | (rw [hy1012]; with_reducible exact H) | (have H2_ := (Option.bind_some _ _).symm.trans H; rw [hy1012]; with_reducible exact H2_) | (have H2_ := (Option.bind_some _ _).symm.trans H; with_reducible exact H2_) | with_reducible exact H | (rw [hy1012]; exact H) | exact H
          have Ny1012 := Aside0.mk hy1012
          clear hy1012
          replace H := Option.bind_eq_some_iff.mp H
          obtain ⟨⟨t1015, t1016⟩, A110, H⟩ := H
          replace H : (if t1008 = 0 then (gemotlaw4_ListJoins.j0 k (rdOf ByteArray.empty t1002 t1005) t1007 t1008 t1015 t1016 (t1016 != 0)) else (gemotlaw4_ListJoins.j0 k (rdOf ByteArray.empty t1002 t1005) t1007 t1008 t1015 t1016 true)) = some r := H
          have A11 := Aside0.mk A110
          clear A110
          have HC12 := Aside0.mk H
          clear H
          go_enter Try.func23, Try.ntmps23
          go_upto_region 8 with (first | ((with_reducible refine gate_callee (f := 41) rfl ?_); refine goesL_ (some 14) rfl rfl Try.func41 (by kernel_rfl) rfl #[] rfl (by (try simp only [List.map_toArray, List.map_cons, List.map_nil]); first | done | rfl | (simp only [List.length_drop, List.length_take]; rfl)) ?_; (with_reducible refine (gemotlaw4_shown.calls  true _ A3.out).mono ?_); rintro e w13 ⟨rfl, hb⟩; refine ⟨_, rfl, ?_⟩; have n0_ := Aside0.mk (below_step (by repeat (first | (with_reducible first | exact HB.out | apply below_alloc | apply pw_below_drewN | apply below_drew1) | exact HB.out)) hb); clear HB; have HB := n0_; clear n0_; (try clear hb); (try clear hb2); (try clear hk); (try clear hi)) | ((with_reducible refine gate_callee (f := 100) rfl ?_); refine goesL_ (some 18) rfl rfl Try.func100 (by kernel_rfl) rfl #[.slice A0 l0.length c0] rfl (by (try simp only [List.map_toArray, List.map_cons, List.map_nil]); first | done | rfl | (simp only [List.length_drop, List.length_take]; rfl)) ?_; (with_reducible refine (gemotlaw4_made.calls _ _ l0 t1002 _ ?side1 ?side2 A5.out).mono ?_); (case side1 => repeat (first | exact (Kd.C_below HR0.out HB.out) | (with_reducible refine Kd.C_alloc ?_ _) | (with_reducible refine Kd.C_drewN ?_ _) | (with_reducible refine Kd.C_drew ?_))); (case side2 => exact HC0.out); rintro e w14 ⟨v1003, rfl, ho0, hb⟩; refine ⟨_, rfl, ?_⟩; have n0_ := Aside0.mk (Kd.R_lower ho0 (below_size (by repeat (first | (with_reducible first | exact HB.out | apply below_alloc | apply pw_below_drewN | apply below_drew1) | exact HB.out)))); have n1_ := Aside0.mk (below_step (by repeat (first | (with_reducible first | exact HB.out | apply below_alloc | apply pw_below_drewN | apply below_drew1) | exact HB.out)) hb); clear HB; have HO1004 := n0_; have HB := n1_; clear n0_ n1_; (try clear hb); (try clear hb2); (try clear hk); (try clear hi); (try clear ho0); obtain ⟨Ao15, co15, eo15⟩ := Kd.R_slice HO1004.out; subst eo15) | ((with_reducible refine gate_callee (f := 55) rfl ?_); refine goesL_ (some 23) rfl rfl Try.func55 (by kernel_rfl) rfl #[.int .i64 a1, .int .i64 (t1002.length : Int)] rfl (by (try simp only [List.map_toArray, List.map_cons, List.map_nil]); first | done | rfl | (simp only [List.length_drop, List.length_take]; rfl)) ?_; (with_reducible refine (gemotlaw4_pick.calls a1 (t1002.length : Int) t1005 _ A6.out).mono ?_); rintro e w' ⟨rfl, ⟨nd, rfl⟩⟩; refine ⟨_, rfl, ?_⟩; have p1006 : 0 ≤ (t1005 : Int) := of_decide_eq_true (by first | (with_reducible assumption) | assumption); have q1006 : t1005 < (t1002.length : Int) := of_decide_eq_true (by first | (with_reducible assumption) | assumption); obtain ⟨ad1006, e1006, hx1006_0⟩ := Kd.at_string (Kd.R_reads' HO1004.out).2.2 t1005 p1006 q1006; cases e1006; replace p1006 := eq_true p1006; replace q1006 := eq_true q1006) | ((with_reducible refine gate_callee (f := 46) rfl ?_); refine goesL_ (some 28) rfl rfl Try.func46 (by kernel_rfl) rfl #[.slice (some ad1006) t1002.length co15] rfl (by (try simp only [List.map_toArray, List.map_cons, List.map_nil]); first | done | rfl | (simp only [List.length_drop, List.length_take]; rfl)) ?_; (with_reducible refine (list_Put.calls _ _ t1002 t1007 t1008 _ ?side1 ?side2 A9.out).mono ?_); (case side1 => repeat (first | exact (Kd.R_reads' HO1004.out).2.2 | (with_reducible refine Kd.C_alloc ?_ _) | (with_reducible refine Kd.C_drewN ?_ _) | (with_reducible refine Kd.C_drew ?_))); (case side2 => exact (Kd.R_reads' HO1004.out).2.1); rintro e w16 ⟨rfl, hb⟩; refine ⟨_, rfl, ?_⟩; have n0_ := Aside0.mk (Kd.R_below (by (with_reducible repeat (first | apply Kd.R_alloc | apply Kd.R_drewN | apply Kd.R_drew)); exact HO1004.out) hb); have n1_ := Aside0.mk (below_step (by repeat (first | (with_reducible first | exact HB.out | apply below_alloc | apply pw_below_drewN | apply below_drew1) | exact HB.out)) hb); clear HO1004; clear HB; have HO1004 := n0_; have HB := n1_; clear n0_ n1_; (try clear hb); (try clear hb2); (try clear hk); (try clear hi)) | ((with_reducible refine gate_dst (N := 33) rfl ?_); refine Kd.R_lit Kd.string _ 23 ?hg (N := 33) ?hd (xs := ([rdOf ByteArray.empty t1002 t1005] : List ByteArray)) (inner := [.string (rdOf ByteArray.empty t1002 t1005)]) (ok := fun _ => True) (okp := fun _ => True) ?hr ?hp (fun _ hk => hk) trivial (Below.refl _ _) (Nat.le_refl _) (by simp) ?_; (case hd => rfl); (case hg => rfl); (case hr => first | (go_simp; done) | (go_simp; rfl)); (case hp => exact (Reps.one (show Kd.M Kd.string _ _ _ (rdOf ByteArray.empty t1002 t1005) [.string (rdOf ByteArray.empty t1002 t1005)] from rfl) (Reps.none _ _))); intro v1010 w17 ho18 hb hg_ hnew_; clear hg_ hnew_; (first | rw [← Ny1009.out] at ho18 | (simp only [Int.reduceToNat] at ho18; rw [← Ny1009.out] at ho18)); have n0_ := Aside0.mk (Kd.R_elder' (by (with_reducible repeat (first | apply Kd.R_alloc | apply Kd.R_drewN | apply Kd.R_drew)); exact HO1004.out) (Kd.R_base ho18) hb); have n1_ := Aside0.mk (Kd.R_lower (Kd.R_new' ho18 (Kd.R_lt (by (with_reducible repeat (first | apply Kd.R_alloc | apply Kd.R_drewN | apply Kd.R_drew)); exact HO1004.out))) (below_size (by repeat (first | (with_reducible first | exact HB.out | apply below_alloc | apply pw_below_drewN | apply below_drew1) | exact HB.out)))); have n2_ := Aside0.mk (below_step (by repeat (first | (with_reducible first | exact HB.out | apply below_alloc | apply pw_below_drewN | apply below_drew1) | exact HB.out)) hb); clear HO1004; clear HB; have HO1004 := n0_; have HO1011 := n1_; have HB := n2_; clear n0_ n1_ n2_; clear hb ho18) | ((with_reducible refine gate_builtin (b := .append) (xs := #[.tmp 33, .tmp 34]) rfl ?_); at_builtin; refine Kd.R_append_rows Kd.string (w0 := w) w.heap.size rfl (.tmp 33) (.tmp 34) 37 23 (.string ⟨#[]⟩) 16 rfl Try.underlying37 info23 rfl (by decide) (by omega) v1010 y1009 t1002 _ _ _ (fun k_ => some k_ ≠ (.slice (some ad1006) t1002.length co15 : Value).ownBlock) (fun _ => False) rfl rfl ?aO ?aR (fun _ _ h => h) (fun _ h => h.elim) ?aF ?aB ?aS ?aL ?_; (case aR => repeat (first | exact (Kd.R_reads' HO1004.out).2.2 | (with_reducible refine Kd.C_alloc ?_ _) | (with_reducible refine Kd.C_drewN ?_ _) | (with_reducible refine Kd.C_drew ?_))); (case aB => exact (by repeat (first | (with_reducible first | exact HB.out | apply below_alloc | apply pw_below_drewN | apply below_drew1) | exact HB.out))); (case aF => exact (fun k_ hk => Kd.fresh' (Kd.R_lt (by (with_reducible repeat (first | apply Kd.R_alloc | apply Kd.R_drewN | apply Kd.R_drew)); exact HO1004.out)) k_ hk)); (case aO => exact (by (with_reducible repeat (first | apply Kd.R_alloc | apply Kd.R_drewN | apply Kd.R_drew)); exact Kd.R_mono HO1011.out (fun _ hk => hk.2))); (case aS => exact (below_size (by repeat (first | (with_reducible first | exact HB.out | apply below_alloc | apply pw_below_drewN | apply below_drew1) | exact HB.out)))); (case aL => have := LMc10.out; omega); intro v1013 w19 ho hb hg hat; rw [← Ny1012.out] at ho; have n0_ := Aside0.mk (Kd.R_after (ok := (fun _ => True)) (by (with_reducible repeat (first | apply Kd.R_alloc | apply Kd.R_drewN | apply Kd.R_drew)); exact HO1004.out) hg hat); have n1_ := Aside0.mk (hb); have n2_ := Aside0.mk (ho); clear HO1004; clear HB; clear HO1011; have HO1004 := n0_; have HB := n1_; have HO1014 := n2_; clear n0_ n1_ n2_; clear ho hb hg hat; obtain ⟨Ao20, co20, eo20⟩ := Kd.R_slice HO1014.out; subst eo20) | ((with_reducible refine gate_callee (f := 46) rfl ?_); refine goesL_ (some 36) rfl rfl Try.func46 (by kernel_rfl) rfl #[.slice Ao20 y1012.length co20] rfl (by (try simp only [List.map_toArray, List.map_cons, List.map_nil]); first | done | rfl | (simp only [List.length_drop, List.length_take]; rfl)) ?_; (with_reducible refine (list_Put.calls _ _ y1012 t1015 t1016 _ ?side1 ?side2 A11.out).mono ?_); (case side1 => repeat (first | exact (Kd.R_reads' HO1014.out).2.2 | (with_reducible refine Kd.C_alloc ?_ _) | (with_reducible refine Kd.C_drewN ?_ _) | (with_reducible refine Kd.C_drew ?_))); (case side2 => exact (Kd.R_reads' HO1014.out).2.1); rintro e w21 ⟨rfl, hb⟩; refine ⟨_, rfl, ?_⟩; have n0_ := Aside0.mk (Kd.R_below (by (with_reducible repeat (first | apply Kd.R_alloc | apply Kd.R_drewN | apply Kd.R_drew)); exact HO1004.out) hb); have n1_ := Aside0.mk (Kd.R_below (by (with_reducible repeat (first | apply Kd.R_alloc | apply Kd.R_drewN | apply Kd.R_drew)); exact HO1014.out) hb); have n2_ := Aside0.mk (below_step (by repeat (first | (with_reducible first | exact HB.out | apply below_alloc | apply pw_below_drewN | apply below_drew1) | exact HB.out)) hb); clear HO1004; clear HO1014; clear HB; have HO1004 := n0_; have HO1014 := n1_; have HB := n2_; clear n0_ n1_ n2_; (try clear hb); (try clear hb2); (try clear hk); (try clear hi)))
          (try simp only [Act.put, List.setIfInBounds_toArray, List.set_cons_zero, List.set_cons_succ])
          go_cut [44] (fun v44 wc => ∃ (kq : Nat) (x44_11 : Bool), v44 = .bool x44_11 ∧ Aside0 (gemotlaw4_ListJoins.j0 kq (rdOf ByteArray.empty t1002 t1005) t1007 t1008 t1015 t1016 x44_11 = some r) ∧ Aside0 (kq ≤ k) ∧ Aside0 (Below w.heap.size w wc))
          case first =>
            have H := HC12.out
            clear HC12
            by_cases c22 : t1008 = 0
            · rw [if_pos c22] at H
              have c22b0 : (t1008 == 0) = true := beq_iff_eq.mpr c22
              have c22b1 : (t1008 != 0) = false := bne_eq_false_iff_eq.mpr c22
              clear c22
              (first | rw [c22b0] | (simp only [i64_w, i32_w]; rw [c22b0]) | skip)
              have H' := Aside0.mk H
              clear H
              go_wp2
              go_meet
              case rel => exact ⟨_, ((t1016 != 0)), (by first | rfl | (simp; done) | (simp [*]; done)), H', ⟨by first | omega | exact Nat.le_refl _⟩, ⟨by repeat (first | (with_reducible first | exact HB.out | apply below_alloc | apply pw_below_drewN | apply below_drew1) | exact HB.out)⟩⟩
            · rw [if_neg c22] at H
              have c22b0 : (t1008 == 0) = false := beq_eq_false_iff_ne.mpr c22
              have c22b1 : (t1008 != 0) = true := bne_iff_ne.mpr c22
              (first | rw [c22b0] | (simp only [i64_w, i32_w]; rw [c22b0]) | skip)
              have H' := Aside0.mk H
              clear H
              go_wp2
              go_meet
              case rel => exact ⟨_, (true), (by first | rfl | (simp; done) | (simp [*]; done)), H', ⟨by first | omega | exact Nat.le_refl _⟩, ⟨by repeat (first | (with_reducible first | exact HB.out | apply below_alloc | apply pw_below_drewN | apply below_drew1) | exact HB.out)⟩⟩
          case rest =>
            clear HC12
            try clear c1
            try clear p1
            try clear q1
            try clear hx1
            try clear c2
            try clear p2
            try clear c4
            try clear c5
            try clear c7
            try clear c7b0
            try clear c8
            try clear c8b0
            try clear c10
            try clear p10
            try clear q10
            try clear hx10
            try clear c22
            try clear c22b0
            try clear c22b1
            try clear hx1006_0
            try clear p1006
            try clear q1006
            obtain ⟨kq, x44_11, rfl, HA, HJ11, HB⟩ := hcut
            cases kq with
            | zero => exact absurd HA.out (by simp [gemotlaw4_ListJoins.j0])
            | succ kj11 =>
              have H := HA.out
              clear HA
              simp only [gemotlaw4_ListJoins.j0] at H
              by_cases c23 : x44_11 = true
              · subst c23
                have H1 : (if t1008 = 3 then (some true) else (if t1016 = 3 then (some true) else (if t1008 = 4 then (some true) else (some (t1016 == 4))))) = some r := by rw [if_pos rfl] at H; exact H
                clear H
                have H := H1
                clear H1
                by_cases c24 : t1008 = 3
                · rw [if_pos c24] at H
                  have c24b0 : (t1008 == 3) = true := beq_iff_eq.mpr c24
                  have c24b1 : (t1008 != 3) = false := bne_eq_false_iff_eq.mpr c24
                  clear c24
                  obtain rfl := Option.some.inj H
                  go_wp2
                  go_ret
                  exact ⟨by first | rfl | (simp [errW_none, errW_some] <;> rfl) | (simp [*, errW_none, errW_some] <;> rfl), by repeat (first | (with_reducible first | exact HB.out | apply below_alloc | apply pw_below_drewN | apply below_drew1) | exact HB.out)⟩
                · rw [if_neg c24] at H
                  have c24b0 : (t1008 == 3) = false := beq_eq_false_iff_ne.mpr c24
                  have c24b1 : (t1008 != 3) = true := bne_iff_ne.mpr c24
                  by_cases c25 : t1016 = 3
                  · rw [if_pos c25] at H
                    have c25b0 : (t1016 == 3) = true := beq_iff_eq.mpr c25
                    have c25b1 : (t1016 != 3) = false := bne_eq_false_iff_eq.mpr c25
                    clear c25
                    obtain rfl := Option.some.inj H
                    go_wp2
                    go_ret
                    exact ⟨by first | rfl | (simp [errW_none, errW_some] <;> rfl) | (simp [*, errW_none, errW_some] <;> rfl), by repeat (first | (with_reducible first | exact HB.out | apply below_alloc | apply pw_below_drewN | apply below_drew1) | exact HB.out)⟩
                  · rw [if_neg c25] at H
                    have c25b0 : (t1016 == 3) = false := beq_eq_false_iff_ne.mpr c25
                    have c25b1 : (t1016 != 3) = true := bne_iff_ne.mpr c25
                    by_cases c26 : t1008 = 4
                    · rw [if_pos c26] at H
                      have c26b0 : (t1008 == 4) = true := beq_iff_eq.mpr c26
                      have c26b1 : (t1008 != 4) = false := bne_eq_false_iff_eq.mpr c26
                      clear c26
                      obtain rfl := Option.some.inj H
                      go_wp2
                      go_ret
                      exact ⟨by first | rfl | (simp [errW_none, errW_some] <;> rfl) | (simp [*, errW_none, errW_some] <;> rfl), by repeat (first | (with_reducible first | exact HB.out | apply below_alloc | apply pw_below_drewN | apply below_drew1) | exact HB.out)⟩
                    · rw [if_neg c26] at H
                      have c26b0 : (t1008 == 4) = false := beq_eq_false_iff_ne.mpr c26
                      have c26b1 : (t1008 != 4) = true := bne_iff_ne.mpr c26
                      obtain rfl := Option.some.inj H
                      go_wp2
                      go_ret
                      exact ⟨by first | rfl | (simp [errW_none, errW_some] <;> rfl) | (simp [*, errW_none, errW_some] <;> rfl), by repeat (first | (with_reducible first | exact HB.out | apply below_alloc | apply pw_below_drewN | apply below_drew1) | exact HB.out)⟩
              · replace c23 := Bool.eq_false_iff.mpr c23
                subst c23
                have H1 : ((term_Pair.f (rdOf ByteArray.empty t1002 t1005) t1007).bind fun bt1017 => (if bt1017.2 = 0 then (if bt1017.1.toList = t1015.toList then (if t1007.toList = t1015.toList then (none) else ((term_Right.f t1007).bind fun t1019 => (some t1019))) else (none)) else (none))) = some r := by rw [if_neg (show ¬ (false = true) by decide)] at H; exact H
                clear H
                have H := H1
                clear H1
                replace H := Option.bind_eq_some_iff.mp H
                obtain ⟨⟨t1017, t1018⟩, A270, H⟩ := H
                replace H : (if t1018 = 0 then (if t1017.toList = t1015.toList then (if t1007.toList = t1015.toList then (none) else ((term_Right.f t1007).bind fun t1019 => (some t1019))) else (none)) else (none)) = some r := H
                have A27 := Aside0.mk A270
                clear A270
                by_cases c28 : t1018 = 0
                · rw [if_pos c28] at H
                  have c28b0 : (t1018 == 0) = true := beq_iff_eq.mpr c28
                  have c28b1 : (t1018 != 0) = false := bne_eq_false_iff_eq.mpr c28
                  clear c28
                  by_cases c29 : t1017.toList = t1015.toList
                  · rw [if_pos c29] at H
                    have c29b0 : (t1017.toList == t1015.toList) = true := beq_iff_eq.mpr c29
                    have c29b1 : (t1017.toList != t1015.toList) = false := bne_eq_false_iff_eq.mpr c29
                    clear c29
                    by_cases c30 : t1007.toList = t1015.toList
                    · rw [if_pos c30] at H
                      exact absurd H (by simp)
                    · rw [if_neg c30] at H
                      have c30b0 : (t1007.toList == t1015.toList) = false := beq_eq_false_iff_ne.mpr c30
                      have c30b1 : (t1007.toList != t1015.toList) = true := bne_iff_ne.mpr c30
                      replace H := Option.bind_eq_some_iff.mp H
                      obtain ⟨t1019, A320, H⟩ := H
                      replace H : (some t1019) = some r := H
                      have A32 := Aside0.mk A320
                      clear A320
                      obtain rfl := Option.some.inj H
                      go_wp2_with (first | ((with_reducible refine gate_callee (f := 92) rfl ?_); refine goesL_ (some 62) rfl rfl Try.func92 (by kernel_rfl) rfl #[.string (rdOf ByteArray.empty t1002 t1005), .string t1007] rfl (by (try simp only [List.map_toArray, List.map_cons, List.map_nil]); first | done | rfl | (simp only [List.length_drop, List.length_take]; rfl)) ?_; (with_reducible refine (term_Pair.calls (rdOf ByteArray.empty t1002 t1005) t1007 t1017 t1018 _ A27.out).mono ?_); rintro e w33 ⟨rfl, hb⟩; refine ⟨_, rfl, ?_⟩; have n0_ := Aside0.mk (below_step (by repeat (first | (with_reducible first | exact HB.out | apply below_alloc | apply pw_below_drewN | apply below_drew1) | exact HB.out)) hb); clear HB; have HB := n0_; clear n0_; (try clear hb); (try clear hb2); (try clear hk); (try clear hi)) | (go_at_call 66; (with_reducible refine (term_Right.calls t1007 t1019 _ A32.out).mono ?_); rintro e w34 ⟨rfl, hb⟩; have n0_ := Aside0.mk (below_step (by repeat (first | (with_reducible first | exact HB.out | apply below_alloc | apply pw_below_drewN | apply below_drew1) | exact HB.out)) hb); clear HB; have HB := n0_; clear n0_; (try clear hb); (try clear hb2); (try clear hk); (try clear hi)))
                      go_ret
                      exact ⟨by first | rfl | (simp [errW_none, errW_some] <;> rfl) | (simp [*, errW_none, errW_some] <;> rfl), by repeat (first | (with_reducible first | exact HB.out | apply below_alloc | apply pw_below_drewN | apply below_drew1) | exact HB.out)⟩
                  · rw [if_neg c29] at H
                    exact absurd H (by simp)
                · rw [if_neg c28] at H
                  exact absurd H (by simp)
        · rw [if_neg c10] at H
          exact absurd H (by simp)
      · rw [if_neg c8] at H
        exact absurd H (by simp)
    · rw [if_neg c7] at H
      exact absurd H (by simp)
  · replace c4 := Bool.eq_false_iff.mpr c4
    subst c4
    have H1 : (none) = some r := by rw [if_neg (show ¬ (false = true) by decide)] at H; exact H
    exact absurd H1 (by simp)

end Go.Proofs.Ytpfpmjdifnoeoaa.F
