-- Laid by mk.py (a program of this session) over the seat's translation.
import Derived.Test.YtpfpmjdifnoeoaaF0
import Derived.Test.YtpfpmjdifnoeoaaF142
import Derived.Test.YtpfpmjdifnoeoaaF86
import Derived.Test.YtpfpmjdifnoeoaaF88
import Derived.Test.YtpfpmjdifnoeoaaF90
import Derived.Test.YtpfpmjdifnoeoaaF92
import Derived.Test.YtpfpmjdifnoeoaaF94
import Derived.Test.YtpfpmjdifnoeoaaF95
import Derived.Test.YtpfpmjdifnoeoaaF96
import Derived.Test.YtpfpmjdifnoeoaaF98
import Derived.Test.YtpfpmjdifnoeoaaLMade
namespace Go.Proofs.Ytpfpmjdifnoeoaa.F
open Go.RowKit Go.Proofs.YtpfpmjdifnoeoaaW.PrintWords Go.Proofs.YtpfpmjdifnoeoaaW.PrintLast Go.Proofs.YtpfpmjdifnoeoaaW.PrintMore
attribute [local go_sem] max2_int min2_int max_two min_two max_three min_three max_four min_four
set_option linter.unusedVariables false
set_option linter.unusedSimpArgs false

/-! ### gemotlaw1_made: function 97 -/
/-! #### gemotlaw1_made_p: function 97 -/
mutual
def gemotlaw1_made_p.l0 : Nat → List (S169) → List ByteArray → Int → Option (List ByteArray)
  | 0, _, _, _ => none
  | k + 1, x0, x3, x4 => if x4 < (x0.length : Int) then (gemotlaw1_made_p.j1 k x0 x3 x4 (decide (x4 < 40))) else (gemotlaw1_made_p.j1 k x0 x3 x4 false)
def gemotlaw1_made_p.j1 : Nat → List (S169) → List ByteArray → Int → Bool → Option (List ByteArray)
  | 0, _, _, _, _ => none
  | k + 1, x0, x3, x4, x21 => if x21 = true then (if 0 ≤ x4 then (if x4 < (x0.length : Int) then ((gemotlaw1_pick.f ((rd_T169 x0 x4).f1) (x3.length : Int)).bind fun t942 => (if 0 ≤ t942 then (if t942 < (x3.length : Int) then ((gemotlaw1_pick.f ((rd_T169 x0 x4).f2) (x3.length : Int)).bind fun t944 => (if 0 ≤ t944 then (if t944 < (x3.length : Int) then ((gemotlaw1_pick.f ((rd_T169 x0 x4).f3) (x3.length : Int)).bind fun t946 => (if 0 ≤ t946 then (if t946 < (x3.length : Int) then ((gemotlaw1_name.f ((rd_T169 x0 x4).f1)).bind fun t948 => ((gemotlaw1_pick.f ((rd_T169 x0 x4).f0) 10).bind fun t949 => (if t949 = 1 then (gemotlaw1_made_p.j2 k x0 x3 x4 (rdOf ByteArray.empty x3 t942) (rdOf ByteArray.empty x3 t944) (rdOf ByteArray.empty x3 t946) t948 0 t949 (t949 == 1) ((rd_T169 x0 x4).f0) ((rd_T169 x0 x4).f1) ((rd_T169 x0 x4).f2) ((rd_T169 x0 x4).f3)) else (if t949 = 2 then (gemotlaw1_made_p.j2 k x0 x3 x4 (rdOf ByteArray.empty x3 t942) (rdOf ByteArray.empty x3 t944) (rdOf ByteArray.empty x3 t946) t948 0 t949 (t949 == 2) ((rd_T169 x0 x4).f0) ((rd_T169 x0 x4).f1) ((rd_T169 x0 x4).f2) ((rd_T169 x0 x4).f3)) else (gemotlaw1_made_p.j2 k x0 x3 x4 (rdOf ByteArray.empty x3 t942) (rdOf ByteArray.empty x3 t944) (rdOf ByteArray.empty x3 t946) t948 0 t949 (t949 == 3) ((rd_T169 x0 x4).f0) ((rd_T169 x0 x4).f1) ((rd_T169 x0 x4).f2) ((rd_T169 x0 x4).f3)))))) else (none)) else (none))) else (none)) else (none))) else (none)) else (none))) else (none)) else (none)) else (some x3)
def gemotlaw1_made_p.j2 : Nat → List (S169) → List ByteArray → Int → ByteArray → ByteArray → ByteArray → ByteArray → Int → Int → Bool → Int → Int → Int → Int → Option (List ByteArray)
  | 0, _, _, _, _, _, _, _, _, _, _, _, _, _, _ => none
  | k + 1, x0, x3, x4, x6, x7, x8, x9, x10, x57, x58, x942000, x942001, x942002, x942003 => if x58 = true then ((term_Power.f x6 x7).bind fun bt950 => (if bt950.2 = 0 then (if (bt950.1.size : Int) > 600 then ((gemotlaw1_name.f x942002).bind fun t952 => (if x3.length < 8796093022208 then (gemotlaw1_made_p.l0 k x0 (x3 ++ [t952]) (wrap64 (x4 + 1))) else (none))) else (if x3.length < 8796093022208 then (gemotlaw1_made_p.l0 k x0 (x3 ++ [bt950.1]) (wrap64 (x4 + 1))) else (none))) else ((gemotlaw1_name.f x942002).bind fun t959 => (if x3.length < 8796093022208 then (gemotlaw1_made_p.l0 k x0 (x3 ++ [t959]) (wrap64 (x4 + 1))) else (none))))) else (if x57 = 4 then ((term_Key.f x6).bind fun bt963 => (if bt963.2 = 0 then (if (bt963.1.size : Int) > 600 then ((gemotlaw1_name.f x942002).bind fun t965 => (if x3.length < 8796093022208 then (gemotlaw1_made_p.l0 k x0 (x3 ++ [t965]) (wrap64 (x4 + 1))) else (none))) else (if x3.length < 8796093022208 then (gemotlaw1_made_p.l0 k x0 (x3 ++ [bt963.1]) (wrap64 (x4 + 1))) else (none))) else ((gemotlaw1_name.f x942002).bind fun t972 => (if x3.length < 8796093022208 then (gemotlaw1_made_p.l0 k x0 (x3 ++ [t972]) (wrap64 (x4 + 1))) else (none))))) else (if x57 = 5 then (gemotlaw1_made_p.j3 k x0 x3 x4 x6 x7 x8 x9 x10 x57 (x57 == 5) x942000 x942001 x942002 x942003) else (gemotlaw1_made_p.j3 k x0 x3 x4 x6 x7 x8 x9 x10 x57 (x57 == 6) x942000 x942001 x942002 x942003)))
def gemotlaw1_made_p.j3 : Nat → List (S169) → List ByteArray → Int → ByteArray → ByteArray → ByteArray → ByteArray → Int → Int → Bool → Int → Int → Int → Int → Option (List ByteArray)
  | 0, _, _, _, _, _, _, _, _, _, _, _, _, _, _ => none
  | k + 1, x0, x3, x4, x6, x7, x8, x9, x10, x57, x75, x942000, x942001, x942002, x942003 => if x75 = true then ((term_Pair.f x6 x7).bind fun bt976 => (if bt976.2 = 0 then (if (bt976.1.size : Int) > 600 then ((gemotlaw1_name.f x942002).bind fun t978 => (if x3.length < 8796093022208 then (gemotlaw1_made_p.l0 k x0 (x3 ++ [t978]) (wrap64 (x4 + 1))) else (none))) else (if x3.length < 8796093022208 then (gemotlaw1_made_p.l0 k x0 (x3 ++ [bt976.1]) (wrap64 (x4 + 1))) else (none))) else ((gemotlaw1_name.f x942002).bind fun t985 => (if x3.length < 8796093022208 then (gemotlaw1_made_p.l0 k x0 (x3 ++ [t985]) (wrap64 (x4 + 1))) else (none))))) else (if x57 = 7 then ((term_Hash.f x6).bind fun bt989 => (if bt989.2 = 0 then (if (bt989.1.size : Int) > 600 then ((gemotlaw1_name.f x942002).bind fun t991 => (if x3.length < 8796093022208 then (gemotlaw1_made_p.l0 k x0 (x3 ++ [t991]) (wrap64 (x4 + 1))) else (none))) else (if x3.length < 8796093022208 then (gemotlaw1_made_p.l0 k x0 (x3 ++ [bt989.1]) (wrap64 (x4 + 1))) else (none))) else ((gemotlaw1_name.f x942002).bind fun t998 => (if x3.length < 8796093022208 then (gemotlaw1_made_p.l0 k x0 (x3 ++ [t998]) (wrap64 (x4 + 1))) else (none))))) else (if x57 = 8 then ((term_Seal.f x6 x7 x8).bind fun bt1002 => (if bt1002.2 = 0 then (if (bt1002.1.size : Int) > 600 then ((gemotlaw1_name.f x942002).bind fun t1004 => (if x3.length < 8796093022208 then (gemotlaw1_made_p.l0 k x0 (x3 ++ [t1004]) (wrap64 (x4 + 1))) else (none))) else (if x3.length < 8796093022208 then (gemotlaw1_made_p.l0 k x0 (x3 ++ [bt1002.1]) (wrap64 (x4 + 1))) else (none))) else ((gemotlaw1_name.f x942002).bind fun t1011 => (if x3.length < 8796093022208 then (gemotlaw1_made_p.l0 k x0 (x3 ++ [t1011]) (wrap64 (x4 + 1))) else (none))))) else (if x57 = 9 then ((term_Sign.f x6 x7).bind fun bt1015 => (if bt1015.2 = 0 then (if (bt1015.1.size : Int) > 600 then ((gemotlaw1_name.f x942002).bind fun t1017 => (if x3.length < 8796093022208 then (gemotlaw1_made_p.l0 k x0 (x3 ++ [t1017]) (wrap64 (x4 + 1))) else (none))) else (if x3.length < 8796093022208 then (gemotlaw1_made_p.l0 k x0 (x3 ++ [bt1015.1]) (wrap64 (x4 + 1))) else (none))) else ((gemotlaw1_name.f x942002).bind fun t1024 => (if x3.length < 8796093022208 then (gemotlaw1_made_p.l0 k x0 (x3 ++ [t1024]) (wrap64 (x4 + 1))) else (none))))) else (if x10 = 0 then (if (x9.size : Int) > 600 then ((gemotlaw1_name.f x942002).bind fun t1028 => (if x3.length < 8796093022208 then (gemotlaw1_made_p.l0 k x0 (x3 ++ [t1028]) (wrap64 (x4 + 1))) else (none))) else (if x3.length < 8796093022208 then (gemotlaw1_made_p.l0 k x0 (x3 ++ [x9]) (wrap64 (x4 + 1))) else (none))) else ((gemotlaw1_name.f x942002).bind fun t1035 => (if x3.length < 8796093022208 then (gemotlaw1_made_p.l0 k x0 (x3 ++ [t1035]) (wrap64 (x4 + 1))) else (none)))))))
end
def gemotlaw1_made_p.f (k : Nat) (l0 : List (S169)) : Option (List ByteArray) := (term_Gen.f).bind fun t935 => ((gemotlaw1_name.f 1).bind fun t936 => (gemotlaw1_made_p.l0 k l0 (([t935, t936] : List ByteArray)) 0))
theorem gemotlaw1_made_p.mono_l : ∀ k, (∀ y0 y1 y2, LeO (gemotlaw1_made_p.l0 k y0 y1 y2) (gemotlaw1_made_p.l0 (k + 1) y0 y1 y2)) ∧ (∀ y0 y1 y2 y3, LeO (gemotlaw1_made_p.j1 k y0 y1 y2 y3) (gemotlaw1_made_p.j1 (k + 1) y0 y1 y2 y3)) ∧ (∀ y0 y1 y2 y3 y4 y5 y6 y7 y8 y9 y10 y11 y12 y13, LeO (gemotlaw1_made_p.j2 k y0 y1 y2 y3 y4 y5 y6 y7 y8 y9 y10 y11 y12 y13) (gemotlaw1_made_p.j2 (k + 1) y0 y1 y2 y3 y4 y5 y6 y7 y8 y9 y10 y11 y12 y13)) ∧ (∀ y0 y1 y2 y3 y4 y5 y6 y7 y8 y9 y10 y11 y12 y13, LeO (gemotlaw1_made_p.j3 k y0 y1 y2 y3 y4 y5 y6 y7 y8 y9 y10 y11 y12 y13) (gemotlaw1_made_p.j3 (k + 1) y0 y1 y2 y3 y4 y5 y6 y7 y8 y9 y10 y11 y12 y13))
  | 0 => ⟨fun _ _ _ r h => by simp [gemotlaw1_made_p.l0] at h, fun _ _ _ _ r h => by simp [gemotlaw1_made_p.j1] at h, fun _ _ _ _ _ _ _ _ _ _ _ _ _ _ r h => by simp [gemotlaw1_made_p.j2] at h, fun _ _ _ _ _ _ _ _ _ _ _ _ _ _ r h => by simp [gemotlaw1_made_p.j3] at h⟩
  | k + 1 => by
    obtain ⟨ih0, ih1, ih2, ih3⟩ := gemotlaw1_made_p.mono_l k
    refine ⟨?_, ?_, ?_, ?_⟩
    · intro y0 y1 y2
      unfold gemotlaw1_made_p.l0
      repeat' first
      | (with_reducible exact ih0 _ _ _)
      | (with_reducible exact ih1 _ _ _ _)
      | (with_reducible exact ih2 _ _ _ _ _ _ _ _ _ _ _ _ _ _)
      | (with_reducible exact ih3 _ _ _ _ _ _ _ _ _ _ _ _ _ _)
      | (with_reducible exact LeO.refl _)
      | (with_reducible exact LeO.none _)
      | (with_reducible refine LeO.ite ?_ ?_)
      | (with_reducible refine LeO.bind ?_ (fun _ => ?_))
      | exact ih0 _ _ _
      | exact ih1 _ _ _ _
      | exact ih2 _ _ _ _ _ _ _ _ _ _ _ _ _ _
      | exact ih3 _ _ _ _ _ _ _ _ _ _ _ _ _ _
      | exact LeO.none _
      | refine LeO.ite ?_ ?_
      | refine LeO.bind ?_ (fun _ => ?_)
    · intro y0 y1 y2 y3
      unfold gemotlaw1_made_p.j1
      repeat' first
      | (with_reducible exact ih0 _ _ _)
      | (with_reducible exact ih1 _ _ _ _)
      | (with_reducible exact ih2 _ _ _ _ _ _ _ _ _ _ _ _ _ _)
      | (with_reducible exact ih3 _ _ _ _ _ _ _ _ _ _ _ _ _ _)
      | (with_reducible exact LeO.refl _)
      | (with_reducible exact LeO.none _)
      | (with_reducible refine LeO.ite ?_ ?_)
      | (with_reducible refine LeO.bind ?_ (fun _ => ?_))
      | exact ih0 _ _ _
      | exact ih1 _ _ _ _
      | exact ih2 _ _ _ _ _ _ _ _ _ _ _ _ _ _
      | exact ih3 _ _ _ _ _ _ _ _ _ _ _ _ _ _
      | exact LeO.none _
      | refine LeO.ite ?_ ?_
      | refine LeO.bind ?_ (fun _ => ?_)
    · intro y0 y1 y2 y3 y4 y5 y6 y7 y8 y9 y10 y11 y12 y13
      unfold gemotlaw1_made_p.j2
      repeat' first
      | (with_reducible exact ih0 _ _ _)
      | (with_reducible exact ih1 _ _ _ _)
      | (with_reducible exact ih2 _ _ _ _ _ _ _ _ _ _ _ _ _ _)
      | (with_reducible exact ih3 _ _ _ _ _ _ _ _ _ _ _ _ _ _)
      | (with_reducible exact LeO.refl _)
      | (with_reducible exact LeO.none _)
      | (with_reducible refine LeO.ite ?_ ?_)
      | (with_reducible refine LeO.bind ?_ (fun _ => ?_))
      | exact ih0 _ _ _
      | exact ih1 _ _ _ _
      | exact ih2 _ _ _ _ _ _ _ _ _ _ _ _ _ _
      | exact ih3 _ _ _ _ _ _ _ _ _ _ _ _ _ _
      | exact LeO.none _
      | refine LeO.ite ?_ ?_
      | refine LeO.bind ?_ (fun _ => ?_)
    · intro y0 y1 y2 y3 y4 y5 y6 y7 y8 y9 y10 y11 y12 y13
      unfold gemotlaw1_made_p.j3
      repeat' first
      | (with_reducible exact ih0 _ _ _)
      | (with_reducible exact ih1 _ _ _ _)
      | (with_reducible exact ih2 _ _ _ _ _ _ _ _ _ _ _ _ _ _)
      | (with_reducible exact ih3 _ _ _ _ _ _ _ _ _ _ _ _ _ _)
      | (with_reducible exact LeO.refl _)
      | (with_reducible exact LeO.none _)
      | (with_reducible refine LeO.ite ?_ ?_)
      | (with_reducible refine LeO.bind ?_ (fun _ => ?_))
      | exact ih0 _ _ _
      | exact ih1 _ _ _ _
      | exact ih2 _ _ _ _ _ _ _ _ _ _ _ _ _ _
      | exact ih3 _ _ _ _ _ _ _ _ _ _ _ _ _ _
      | exact LeO.none _
      | refine LeO.ite ?_ ?_
      | refine LeO.bind ?_ (fun _ => ?_)
theorem gemotlaw1_made_p.mono : ∀ a0 k, LeO (gemotlaw1_made_p.f k a0) (gemotlaw1_made_p.f (k + 1) a0) := by
  intro a0 k
  obtain ⟨ih0, ih1, ih2, ih3⟩ := gemotlaw1_made_p.mono_l k
  unfold gemotlaw1_made_p.f
  repeat' first
      | (with_reducible exact ih0 _ _ _)
      | (with_reducible exact ih1 _ _ _ _)
      | (with_reducible exact ih2 _ _ _ _ _ _ _ _ _ _ _ _ _ _)
      | (with_reducible exact ih3 _ _ _ _ _ _ _ _ _ _ _ _ _ _)
      | (with_reducible exact LeO.refl _)
      | (with_reducible exact LeO.none _)
      | (with_reducible refine LeO.ite ?_ ?_)
      | (with_reducible refine LeO.bind ?_ (fun _ => ?_))
      | exact ih0 _ _ _
      | exact ih1 _ _ _ _
      | exact ih2 _ _ _ _ _ _ _ _ _ _ _ _ _ _
      | exact ih3 _ _ _ _ _ _ _ _ _ _ _ _ _ _
      | exact LeO.none _
      | refine LeO.ite ?_ ?_
      | refine LeO.bind ?_ (fun _ => ?_)
set_option maxHeartbeats 8000000 in
set_option maxRecDepth 100000 in
theorem gemotlaw1_made_p.calls (k : Nat) (A0 : Option Addr) (c0 : Nat) (l0 : List (S169)) (r : List ByteArray) (w : World) (hr0 : Kd.C k169 w A0 l0.length l0) (hc0 : l0.length ≤ c0) (h : gemotlaw1_made_p.f k l0 = some r) :
    Calls Try.prog 97 #[.slice A0 l0.length c0] w fun e w' => ∃ v0_ : Value, e = .returned (v0_) ∧ Kd.R Kd.string 23 w' w.heap.size (fun _ => True) v0_ r ∧ Below w.heap.size w w' := by
  have hu169 := Try.underlying169
  have HR0 := Aside0.mk hr0
  have HC0 := Aside0.mk hc0
  clear hr0 hc0
  have HB := Aside0.mk (Below.refl w.heap.size w)
  have H : ((term_Gen.f).bind fun t935 => ((gemotlaw1_name.f 1).bind fun t936 => (gemotlaw1_made_p.l0 k l0 (([t935, t936] : List ByteArray)) 0))) = some r := h
  clear h
  replace H := Option.bind_eq_some_iff.mp H
  obtain ⟨t935, A20, H⟩ := H
  replace H : ((gemotlaw1_name.f 1).bind fun t936 => (gemotlaw1_made_p.l0 k l0 (([t935, t936] : List ByteArray)) 0)) = some r := H
  have A2 := Aside0.mk A20
  clear A20
  replace H := Option.bind_eq_some_iff.mp H
  obtain ⟨t936, A30, H⟩ := H
  replace H : (gemotlaw1_made_p.l0 k l0 (([t935, t936] : List ByteArray)) 0) = some r := H
  have A3 := Aside0.mk A30
  clear A30
  obtain ⟨y937, hy937⟩ : ∃ y_ : List ByteArray, y_ = (([t935, t936] : List ByteArray)) := ⟨_, rfl⟩
  replace H : (gemotlaw1_made_p.l0 k l0 y937 0) = some r := by first | (rw [hy937]; with_reducible exact H) | (have H2_ := (Option.bind_some _ _).symm.trans H; rw [hy937]; with_reducible exact H2_) | (have H2_ := (Option.bind_some _ _).symm.trans H; with_reducible exact H2_) | with_reducible exact H | (rw [hy937]; exact H) | exact H
  have Ny937 := Aside0.mk hy937
  clear hy937
  have H' := Aside0.mk H
  clear H
  go_enter Try.func97, Try.ntmps97
  go_wp2_with (first | ((with_reducible refine gate_callee (f := 86) rfl ?_); refine goesL_ (some 11) rfl rfl Try.func86 (by kernel_rfl) rfl #[] rfl (by (try simp only [List.map_toArray, List.map_cons, List.map_nil]); first | done | rfl | (simp only [List.length_drop, List.length_take]; rfl)) ?_; (with_reducible refine (term_Gen.calls  t935 _ A2.out).mono ?_); rintro e w' ⟨rfl, ⟨nd, rfl⟩⟩; refine ⟨_, rfl, ?_⟩) | ((with_reducible refine gate_callee (f := 142) rfl ?_); refine goesL_ (some 12) rfl rfl Try.func142 (by kernel_rfl) rfl #[.int .i64 1] rfl (by (try simp only [List.map_toArray, List.map_cons, List.map_nil]); first | done | rfl | (simp only [List.length_drop, List.length_take]; rfl)) ?_; (with_reducible refine (gemotlaw1_name.calls 1 t936 _ A3.out).mono ?_); rintro e w4 ⟨rfl, hb⟩; refine ⟨_, rfl, ?_⟩; have n0_ := Aside0.mk (below_step (by repeat (first | (with_reducible first | exact HB.out | apply below_alloc | apply pw_below_drewN | apply below_drew1) | exact HB.out)) hb); clear HB; have HB := n0_; clear n0_; (try clear hb); (try clear hb2); (try clear hk); (try clear hi)) | ((with_reducible refine gate_dst (N := 13) rfl ?_); (try (refine gate_guard (by rfl) ?_; dsimp only)); refine Kd.R_lit Kd.string _ 23 ?hg (N := 13) ?hd (xs := ([t935, t936] : List ByteArray)) (inner := [.string t935, .string t936]) (ok := fun _ => True) (okp := fun _ => True) ?hr ?hp (fun _ hk => hk) trivial (Below.refl _ _) (Nat.le_refl _) (by simp) ?_; (case hd => rfl); (case hg => rfl); (case hr => first | (go_simp; done) | (go_simp; rfl)); (case hp => exact (Reps.one (show Kd.M Kd.string _ _ _ t935 [.string t935] from rfl) (Reps.one (show Kd.M Kd.string _ _ _ t936 [.string t936] from rfl) (Reps.none _ _)))); intro v938 w5 ho6 hb hg_ hnew_; clear hg_ hnew_; (first | rw [← Ny937.out] at ho6 | (simp only [Int.reduceToNat] at ho6; rw [← Ny937.out] at ho6)); have n0_ := Aside0.mk (Kd.R_lower ho6 (below_size (by repeat (first | (with_reducible first | exact HB.out | apply below_alloc | apply pw_below_drewN | apply below_drew1) | exact HB.out)))); have n1_ := Aside0.mk (below_step (by repeat (first | (with_reducible first | exact HB.out | apply below_alloc | apply pw_below_drewN | apply below_drew1) | exact HB.out)) hb); clear HB; have HO939 := n0_; have HB := n1_; clear n0_ n1_; clear hb ho6))
  go_loopg [3, 4] k (fun kq v3 v4 w' => ∃ (x3_1 : List ByteArray) (x4_1 : Int), v4 = .int .i64 x4_1 ∧ Aside0 (gemotlaw1_made_p.l0 kq l0 x3_1 x4_1 = some r) ∧ Aside0 (kq ≤ k) ∧ Aside0 (Kd.R Kd.string 23 w' w.heap.size (fun _ => True) v3 x3_1) ∧ Aside0 (Below w.heap.size w w'))
  case atStart => exact ⟨(y937), (0), (by first | rfl | (simp; done) | (simp [*]; done)), H', ⟨Nat.le_refl _⟩, ⟨by (with_reducible repeat (first | apply Kd.R_alloc | apply Kd.R_drewN | apply Kd.R_drew)); exact HO939.out⟩, ⟨by repeat (first | (with_reducible first | exact HB.out | apply below_alloc | apply pw_below_drewN | apply below_drew1) | exact HB.out)⟩⟩
  case round =>
    clear H'
    try clear c1
    try clear p2
    obtain ⟨x3_1, x4_1, rfl, HA, HK1, HO_3, HB⟩ := hrel
    cases gk with
    | zero => exact absurd HA.out (by simp [gemotlaw1_made_p.l0])
    | succ k1 =>
      have H := HA.out
      clear HA
      simp only [gemotlaw1_made_p.l0] at H
      have HC7 := Aside0.mk H
      clear H
      go_upto_region 3 with (fail)
      go_cut [21] (fun v21 wc => ∃ (kq : Nat) (x21_6 : Bool), v21 = .bool x21_6 ∧ Aside0 (gemotlaw1_made_p.j1 kq l0 x3_1 x4_1 x21_6 = some r) ∧ Aside0 (kq ≤ k1) ∧ Aside0 (Kd.R Kd.string 23 wc w.heap.size (fun _ => True) u3 x3_1) ∧ Aside0 (Below w.heap.size w wc))
      case first =>
        have H := HC7.out
        clear HC7
        by_cases c8 : x4_1 < (l0.length : Int)
        · rw [if_pos c8] at H
          have c8b0 : decide (x4_1 < (l0.length : Int)) = true := decide_eq_true c8
          clear c8
          (first | rw [c8b0] | (simp only [i64_w, i32_w]; rw [c8b0]) | skip)
          have H' := Aside0.mk H
          clear H
          go_wp2
          go_meet
          case rel => exact ⟨_, (decide (x4_1 < 40)), (by first | rfl | (simp; done) | (simp [*]; done)), H', ⟨by have := HK1.out; first | omega | exact Nat.le_refl _⟩, ⟨by (with_reducible repeat (first | apply Kd.R_alloc | apply Kd.R_drewN | apply Kd.R_drew)); exact HO_3.out⟩, ⟨by repeat (first | (with_reducible first | exact HB.out | apply below_alloc | apply pw_below_drewN | apply below_drew1) | exact HB.out)⟩⟩
        · rw [if_neg c8] at H
          have c8b0 : decide (x4_1 < (l0.length : Int)) = false := decide_eq_false c8
          clear c8
          (first | rw [c8b0] | (simp only [i64_w, i32_w]; rw [c8b0]) | skip)
          have H' := Aside0.mk H
          clear H
          go_wp2
          go_meet
          case rel => exact ⟨_, (false), (by first | rfl | (simp; done) | (simp [*]; done)), H', ⟨by have := HK1.out; first | omega | exact Nat.le_refl _⟩, ⟨by (with_reducible repeat (first | apply Kd.R_alloc | apply Kd.R_drewN | apply Kd.R_drew)); exact HO_3.out⟩, ⟨by repeat (first | (with_reducible first | exact HB.out | apply below_alloc | apply pw_below_drewN | apply below_drew1) | exact HB.out)⟩⟩
      case rest =>
        clear HC7
        try clear c1
        try clear p2
        try clear c8
        try clear c8b0
        try clear p2
        obtain ⟨kq, x21_6, rfl, HA, HJ6, HO_3, HB⟩ := hcut
        cases kq with
        | zero => exact absurd HA.out (by simp [gemotlaw1_made_p.j1])
        | succ kj6 =>
          have H := HA.out
          clear HA
          simp only [gemotlaw1_made_p.j1] at H
          by_cases c9 : x21_6 = true
          · subst c9
            have H1 : (if 0 ≤ x4_1 then (if x4_1 < (l0.length : Int) then ((gemotlaw1_pick.f ((rd_T169 l0 x4_1).f1) (x3_1.length : Int)).bind fun t942 => (if 0 ≤ t942 then (if t942 < (x3_1.length : Int) then ((gemotlaw1_pick.f ((rd_T169 l0 x4_1).f2) (x3_1.length : Int)).bind fun t944 => (if 0 ≤ t944 then (if t944 < (x3_1.length : Int) then ((gemotlaw1_pick.f ((rd_T169 l0 x4_1).f3) (x3_1.length : Int)).bind fun t946 => (if 0 ≤ t946 then (if t946 < (x3_1.length : Int) then ((gemotlaw1_name.f ((rd_T169 l0 x4_1).f1)).bind fun t948 => ((gemotlaw1_pick.f ((rd_T169 l0 x4_1).f0) 10).bind fun t949 => (if t949 = 1 then (gemotlaw1_made_p.j2 kj6 l0 x3_1 x4_1 (rdOf ByteArray.empty x3_1 t942) (rdOf ByteArray.empty x3_1 t944) (rdOf ByteArray.empty x3_1 t946) t948 0 t949 (t949 == 1) ((rd_T169 l0 x4_1).f0) ((rd_T169 l0 x4_1).f1) ((rd_T169 l0 x4_1).f2) ((rd_T169 l0 x4_1).f3)) else (if t949 = 2 then (gemotlaw1_made_p.j2 kj6 l0 x3_1 x4_1 (rdOf ByteArray.empty x3_1 t942) (rdOf ByteArray.empty x3_1 t944) (rdOf ByteArray.empty x3_1 t946) t948 0 t949 (t949 == 2) ((rd_T169 l0 x4_1).f0) ((rd_T169 l0 x4_1).f1) ((rd_T169 l0 x4_1).f2) ((rd_T169 l0 x4_1).f3)) else (gemotlaw1_made_p.j2 kj6 l0 x3_1 x4_1 (rdOf ByteArray.empty x3_1 t942) (rdOf ByteArray.empty x3_1 t944) (rdOf ByteArray.empty x3_1 t946) t948 0 t949 (t949 == 3) ((rd_T169 l0 x4_1).f0) ((rd_T169 l0 x4_1).f1) ((rd_T169 l0 x4_1).f2) ((rd_T169 l0 x4_1).f3)))))) else (none)) else (none))) else (none)) else (none))) else (none)) else (none))) else (none)) else (none)) = some r := by rw [if_pos rfl] at H; exact H
            clear H
            have H := H1
            clear H1
            by_cases c10 : 0 ≤ x4_1
            · rw [if_pos c10] at H
              have c10b0 : decide (0 ≤ x4_1) = true := decide_eq_true c10
              clear c10
              by_cases c11 : x4_1 < (l0.length : Int)
              · rw [if_pos c11] at H
                have c11b0 : decide (x4_1 < (l0.length : Int)) = true := decide_eq_true c11
                clear c11
                replace H := Option.bind_eq_some_iff.mp H
                obtain ⟨t942, A120, H⟩ := H
                replace H : (if 0 ≤ t942 then (if t942 < (x3_1.length : Int) then ((gemotlaw1_pick.f ((rd_T169 l0 x4_1).f2) (x3_1.length : Int)).bind fun t944 => (if 0 ≤ t944 then (if t944 < (x3_1.length : Int) then ((gemotlaw1_pick.f ((rd_T169 l0 x4_1).f3) (x3_1.length : Int)).bind fun t946 => (if 0 ≤ t946 then (if t946 < (x3_1.length : Int) then ((gemotlaw1_name.f ((rd_T169 l0 x4_1).f1)).bind fun t948 => ((gemotlaw1_pick.f ((rd_T169 l0 x4_1).f0) 10).bind fun t949 => (if t949 = 1 then (gemotlaw1_made_p.j2 kj6 l0 x3_1 x4_1 (rdOf ByteArray.empty x3_1 t942) (rdOf ByteArray.empty x3_1 t944) (rdOf ByteArray.empty x3_1 t946) t948 0 t949 (t949 == 1) ((rd_T169 l0 x4_1).f0) ((rd_T169 l0 x4_1).f1) ((rd_T169 l0 x4_1).f2) ((rd_T169 l0 x4_1).f3)) else (if t949 = 2 then (gemotlaw1_made_p.j2 kj6 l0 x3_1 x4_1 (rdOf ByteArray.empty x3_1 t942) (rdOf ByteArray.empty x3_1 t944) (rdOf ByteArray.empty x3_1 t946) t948 0 t949 (t949 == 2) ((rd_T169 l0 x4_1).f0) ((rd_T169 l0 x4_1).f1) ((rd_T169 l0 x4_1).f2) ((rd_T169 l0 x4_1).f3)) else (gemotlaw1_made_p.j2 kj6 l0 x3_1 x4_1 (rdOf ByteArray.empty x3_1 t942) (rdOf ByteArray.empty x3_1 t944) (rdOf ByteArray.empty x3_1 t946) t948 0 t949 (t949 == 3) ((rd_T169 l0 x4_1).f0) ((rd_T169 l0 x4_1).f1) ((rd_T169 l0 x4_1).f2) ((rd_T169 l0 x4_1).f3)))))) else (none)) else (none))) else (none)) else (none))) else (none)) else (none)) = some r := H
                have A12 := Aside0.mk A120
                clear A120
                by_cases c13 : 0 ≤ t942
                · rw [if_pos c13] at H
                  have c13b0 : decide (0 ≤ t942) = true := decide_eq_true c13
                  clear c13
                  by_cases c14 : t942 < (x3_1.length : Int)
                  · rw [if_pos c14] at H
                    have c14b0 : decide (t942 < (x3_1.length : Int)) = true := decide_eq_true c14
                    clear c14
                    replace H := Option.bind_eq_some_iff.mp H
                    obtain ⟨t944, A150, H⟩ := H
                    replace H : (if 0 ≤ t944 then (if t944 < (x3_1.length : Int) then ((gemotlaw1_pick.f ((rd_T169 l0 x4_1).f3) (x3_1.length : Int)).bind fun t946 => (if 0 ≤ t946 then (if t946 < (x3_1.length : Int) then ((gemotlaw1_name.f ((rd_T169 l0 x4_1).f1)).bind fun t948 => ((gemotlaw1_pick.f ((rd_T169 l0 x4_1).f0) 10).bind fun t949 => (if t949 = 1 then (gemotlaw1_made_p.j2 kj6 l0 x3_1 x4_1 (rdOf ByteArray.empty x3_1 t942) (rdOf ByteArray.empty x3_1 t944) (rdOf ByteArray.empty x3_1 t946) t948 0 t949 (t949 == 1) ((rd_T169 l0 x4_1).f0) ((rd_T169 l0 x4_1).f1) ((rd_T169 l0 x4_1).f2) ((rd_T169 l0 x4_1).f3)) else (if t949 = 2 then (gemotlaw1_made_p.j2 kj6 l0 x3_1 x4_1 (rdOf ByteArray.empty x3_1 t942) (rdOf ByteArray.empty x3_1 t944) (rdOf ByteArray.empty x3_1 t946) t948 0 t949 (t949 == 2) ((rd_T169 l0 x4_1).f0) ((rd_T169 l0 x4_1).f1) ((rd_T169 l0 x4_1).f2) ((rd_T169 l0 x4_1).f3)) else (gemotlaw1_made_p.j2 kj6 l0 x3_1 x4_1 (rdOf ByteArray.empty x3_1 t942) (rdOf ByteArray.empty x3_1 t944) (rdOf ByteArray.empty x3_1 t946) t948 0 t949 (t949 == 3) ((rd_T169 l0 x4_1).f0) ((rd_T169 l0 x4_1).f1) ((rd_T169 l0 x4_1).f2) ((rd_T169 l0 x4_1).f3)))))) else (none)) else (none))) else (none)) else (none)) = some r := H
                    have A15 := Aside0.mk A150
                    clear A150
                    by_cases c16 : 0 ≤ t944
                    · rw [if_pos c16] at H
                      have c16b0 : decide (0 ≤ t944) = true := decide_eq_true c16
                      clear c16
                      by_cases c17 : t944 < (x3_1.length : Int)
                      · rw [if_pos c17] at H
                        have c17b0 : decide (t944 < (x3_1.length : Int)) = true := decide_eq_true c17
                        clear c17
                        replace H := Option.bind_eq_some_iff.mp H
                        obtain ⟨t946, A180, H⟩ := H
                        replace H : (if 0 ≤ t946 then (if t946 < (x3_1.length : Int) then ((gemotlaw1_name.f ((rd_T169 l0 x4_1).f1)).bind fun t948 => ((gemotlaw1_pick.f ((rd_T169 l0 x4_1).f0) 10).bind fun t949 => (if t949 = 1 then (gemotlaw1_made_p.j2 kj6 l0 x3_1 x4_1 (rdOf ByteArray.empty x3_1 t942) (rdOf ByteArray.empty x3_1 t944) (rdOf ByteArray.empty x3_1 t946) t948 0 t949 (t949 == 1) ((rd_T169 l0 x4_1).f0) ((rd_T169 l0 x4_1).f1) ((rd_T169 l0 x4_1).f2) ((rd_T169 l0 x4_1).f3)) else (if t949 = 2 then (gemotlaw1_made_p.j2 kj6 l0 x3_1 x4_1 (rdOf ByteArray.empty x3_1 t942) (rdOf ByteArray.empty x3_1 t944) (rdOf ByteArray.empty x3_1 t946) t948 0 t949 (t949 == 2) ((rd_T169 l0 x4_1).f0) ((rd_T169 l0 x4_1).f1) ((rd_T169 l0 x4_1).f2) ((rd_T169 l0 x4_1).f3)) else (gemotlaw1_made_p.j2 kj6 l0 x3_1 x4_1 (rdOf ByteArray.empty x3_1 t942) (rdOf ByteArray.empty x3_1 t944) (rdOf ByteArray.empty x3_1 t946) t948 0 t949 (t949 == 3) ((rd_T169 l0 x4_1).f0) ((rd_T169 l0 x4_1).f1) ((rd_T169 l0 x4_1).f2) ((rd_T169 l0 x4_1).f3)))))) else (none)) else (none)) = some r := H
                        have A18 := Aside0.mk A180
                        clear A180
                        by_cases c19 : 0 ≤ t946
                        · rw [if_pos c19] at H
                          have c19b0 : decide (0 ≤ t946) = true := decide_eq_true c19
                          clear c19
                          by_cases c20 : t946 < (x3_1.length : Int)
                          · rw [if_pos c20] at H
                            have c20b0 : decide (t946 < (x3_1.length : Int)) = true := decide_eq_true c20
                            clear c20
                            replace H := Option.bind_eq_some_iff.mp H
                            obtain ⟨t948, A210, H⟩ := H
                            replace H : ((gemotlaw1_pick.f ((rd_T169 l0 x4_1).f0) 10).bind fun t949 => (if t949 = 1 then (gemotlaw1_made_p.j2 kj6 l0 x3_1 x4_1 (rdOf ByteArray.empty x3_1 t942) (rdOf ByteArray.empty x3_1 t944) (rdOf ByteArray.empty x3_1 t946) t948 0 t949 (t949 == 1) ((rd_T169 l0 x4_1).f0) ((rd_T169 l0 x4_1).f1) ((rd_T169 l0 x4_1).f2) ((rd_T169 l0 x4_1).f3)) else (if t949 = 2 then (gemotlaw1_made_p.j2 kj6 l0 x3_1 x4_1 (rdOf ByteArray.empty x3_1 t942) (rdOf ByteArray.empty x3_1 t944) (rdOf ByteArray.empty x3_1 t946) t948 0 t949 (t949 == 2) ((rd_T169 l0 x4_1).f0) ((rd_T169 l0 x4_1).f1) ((rd_T169 l0 x4_1).f2) ((rd_T169 l0 x4_1).f3)) else (gemotlaw1_made_p.j2 kj6 l0 x3_1 x4_1 (rdOf ByteArray.empty x3_1 t942) (rdOf ByteArray.empty x3_1 t944) (rdOf ByteArray.empty x3_1 t946) t948 0 t949 (t949 == 3) ((rd_T169 l0 x4_1).f0) ((rd_T169 l0 x4_1).f1) ((rd_T169 l0 x4_1).f2) ((rd_T169 l0 x4_1).f3))))) = some r := H
                            have A21 := Aside0.mk A210
                            clear A210
                            replace H := Option.bind_eq_some_iff.mp H
                            obtain ⟨t949, A220, H⟩ := H
                            replace H : (if t949 = 1 then (gemotlaw1_made_p.j2 kj6 l0 x3_1 x4_1 (rdOf ByteArray.empty x3_1 t942) (rdOf ByteArray.empty x3_1 t944) (rdOf ByteArray.empty x3_1 t946) t948 0 t949 (t949 == 1) ((rd_T169 l0 x4_1).f0) ((rd_T169 l0 x4_1).f1) ((rd_T169 l0 x4_1).f2) ((rd_T169 l0 x4_1).f3)) else (if t949 = 2 then (gemotlaw1_made_p.j2 kj6 l0 x3_1 x4_1 (rdOf ByteArray.empty x3_1 t942) (rdOf ByteArray.empty x3_1 t944) (rdOf ByteArray.empty x3_1 t946) t948 0 t949 (t949 == 2) ((rd_T169 l0 x4_1).f0) ((rd_T169 l0 x4_1).f1) ((rd_T169 l0 x4_1).f2) ((rd_T169 l0 x4_1).f3)) else (gemotlaw1_made_p.j2 kj6 l0 x3_1 x4_1 (rdOf ByteArray.empty x3_1 t942) (rdOf ByteArray.empty x3_1 t944) (rdOf ByteArray.empty x3_1 t946) t948 0 t949 (t949 == 3) ((rd_T169 l0 x4_1).f0) ((rd_T169 l0 x4_1).f1) ((rd_T169 l0 x4_1).f2) ((rd_T169 l0 x4_1).f3)))) = some r := H
                            have A22 := Aside0.mk A220
                            clear A220
                            have HC23 := Aside0.mk H
                            clear H
                            have p940 : 0 ≤ (x4_1 : Int) := of_decide_eq_true (by first | (with_reducible assumption) | assumption)
                            have q940 : x4_1 < (l0.length : Int) := of_decide_eq_true (by first | (with_reducible assumption) | assumption)
                            obtain ⟨ad940, e940, hx940_0, hx940_1, hx940_2, hx940_3⟩ := at_T169 HR0.out x4_1 p940 q940
                            cases e940
                            replace hx940_0 := (HB.out.cell (World.block_lt_of_cell? w _ hx940_0)).trans hx940_0
                            replace hx940_1 := (HB.out.cell (World.block_lt_of_cell? w _ hx940_1)).trans hx940_1
                            replace hx940_2 := (HB.out.cell (World.block_lt_of_cell? w _ hx940_2)).trans hx940_2
                            replace hx940_3 := (HB.out.cell (World.block_lt_of_cell? w _ hx940_3)).trans hx940_3
                            replace p940 := eq_true p940
                            replace q940 := eq_true q940
                            go_upto_if 58 with (first | ((with_reducible refine gate_dst (N := 5) rfl ?_); (try (refine gate_guard (by rfl) ?_; dsimp only)); refine box_event ?hg (N := 5) ?hd (cs := #[.int .i64 0, .int .i64 0, .int .i64 0, .int .i64 0]) (t := 169) ?hr ?_; (case hd => rfl); (case hg => rfl); (case hr => first | (go_simp; done) | (go_simp; rfl)); intro gb941 hg w24 hbox hb; have n0_ := Aside0.mk (Kd.R_below (by (with_reducible repeat (first | apply Kd.R_alloc | apply Kd.R_drewN | apply Kd.R_drew)); exact HO_3.out) hb); have n1_ := Aside0.mk (below_step (by repeat (first | (with_reducible first | exact HB.out | apply below_alloc | apply pw_below_drewN | apply below_drew1) | exact HB.out)) hb); have n2_ := Aside0.mk (hbox); have n3_ := Aside0.mk ((by rw [hg]; exact (below_size (by repeat (first | (with_reducible first | exact HB.out | apply below_alloc | apply pw_below_drewN | apply below_drew1) | exact HB.out))) : w.heap.size ≤ gb941)); have n4_ := Aside0.mk ((by rw [hg]; exact (below_size (by repeat (first | (with_reducible first | exact HB.out | apply below_alloc | apply pw_below_drewN | apply below_drew1) | exact HB.out))) : w.heap.size ≤ gb941)); clear HO_3; clear HB; have HO_3 := n0_; have HB := n1_; have BK941 := n2_; have GW941 := n3_; have GE941 := n4_; clear n0_ n1_ n2_ n3_ n4_; clear hb hbox hg; have hcz25_0 : w24.cell? ⟨gb941, 0, none⟩ = some (.int .i64 0) := (blk_cell BK941.out 0).trans rfl; have hcz25_1 : w24.cell? ⟨gb941, 1, none⟩ = some (.int .i64 0) := (blk_cell BK941.out 1).trans rfl; have hcz25_2 : w24.cell? ⟨gb941, 2, none⟩ = some (.int .i64 0) := (blk_cell BK941.out 2).trans rfl; have hcz25_3 : w24.cell? ⟨gb941, 3, none⟩ = some (.int .i64 0) := (blk_cell BK941.out 3).trans rfl; have hfz25_0 := blk_frozen BK941.out 0; have hfz25_1 := blk_frozen BK941.out 1; have hfz25_2 := blk_frozen BK941.out 2; have hfz25_3 := blk_frozen BK941.out 3; obtain ⟨Ao26, co26, eo26⟩ := Kd.R_slice HO_3.out; subst eo26) | ((with_reducible refine gate_callee (f := 98) rfl ?_); refine goesL_ (some 33) rfl rfl Try.func98 (by kernel_rfl) rfl #[.int .i64 ((rd_T169 l0 x4_1).f1), .int .i64 (x3_1.length : Int)] rfl (by (try simp only [List.map_toArray, List.map_cons, List.map_nil]); first | done | rfl | (simp only [List.length_drop, List.length_take]; rfl)) ?_; (with_reducible refine (gemotlaw1_pick.calls ((rd_T169 l0 x4_1).f1) (x3_1.length : Int) t942 _ A12.out).mono ?_); rintro e w' ⟨rfl, ⟨nd, rfl⟩⟩; refine ⟨_, rfl, ?_⟩; have p943 : 0 ≤ (t942 : Int) := of_decide_eq_true (by first | (with_reducible assumption) | assumption); have q943 : t942 < (x3_1.length : Int) := of_decide_eq_true (by first | (with_reducible assumption) | assumption); obtain ⟨ad943, e943, hx943_0⟩ := Kd.at_string (Kd.R_reads' HO_3.out).2.2 t942 p943 q943; cases e943; have hn943_0 : ad943.block ≠ gb941 := Kd.own_blk (Kd.R_ne HO_3.out BK941.out (by decide)); have hn943_1 : ad943.block ≠ gb941 := Kd.own_blk (Kd.R_ne HO_3.out BK941.out (by decide)); have hn943_2 : ad943.block ≠ gb941 := Kd.own_blk (Kd.R_ne HO_3.out BK941.out (by decide)); have hn943_3 : ad943.block ≠ gb941 := Kd.own_blk (Kd.R_ne HO_3.out BK941.out (by decide)); replace hx943_0 := (cell_far (p := ⟨gb941, 0, none⟩) (by first | (rw [add_block]; exact hn943_0) | (show (Addr.add _ _).block ≠ _; rw [add_block]; exact hn943_0) | exact hn943_0) (.int .i64 ((rd_T169 l0 x4_1).f0))).trans hx943_0; replace hx943_0 := (cell_far (p := ⟨gb941, 1, none⟩) (by first | (rw [add_block]; exact hn943_1) | (show (Addr.add _ _).block ≠ _; rw [add_block]; exact hn943_1) | exact hn943_1) (.int .i64 ((rd_T169 l0 x4_1).f1))).trans hx943_0; replace hx943_0 := (cell_far (p := ⟨gb941, 2, none⟩) (by first | (rw [add_block]; exact hn943_2) | (show (Addr.add _ _).block ≠ _; rw [add_block]; exact hn943_2) | exact hn943_2) (.int .i64 ((rd_T169 l0 x4_1).f2))).trans hx943_0; replace hx943_0 := (cell_far (p := ⟨gb941, 3, none⟩) (by first | (rw [add_block]; exact hn943_3) | (show (Addr.add _ _).block ≠ _; rw [add_block]; exact hn943_3) | exact hn943_3) (.int .i64 ((rd_T169 l0 x4_1).f3))).trans hx943_0; clear hn943_0; clear hn943_1; clear hn943_2; clear hn943_3; replace p943 := eq_true p943; replace q943 := eq_true q943) | ((with_reducible refine gate_callee (f := 98) rfl ?_); refine goesL_ (some 41) rfl rfl Try.func98 (by kernel_rfl) rfl #[.int .i64 ((rd_T169 l0 x4_1).f2), .int .i64 (x3_1.length : Int)] rfl (by (try simp only [List.map_toArray, List.map_cons, List.map_nil]); first | done | rfl | (simp only [List.length_drop, List.length_take]; rfl)) ?_; (with_reducible refine (gemotlaw1_pick.calls ((rd_T169 l0 x4_1).f2) (x3_1.length : Int) t944 _ A15.out).mono ?_); rintro e w' ⟨rfl, ⟨nd, rfl⟩⟩; refine ⟨_, rfl, ?_⟩; have p945 : 0 ≤ (t944 : Int) := of_decide_eq_true (by first | (with_reducible assumption) | assumption); have q945 : t944 < (x3_1.length : Int) := of_decide_eq_true (by first | (with_reducible assumption) | assumption); obtain ⟨ad945, e945, hx945_0⟩ := Kd.at_string (Kd.R_reads' HO_3.out).2.2 t944 p945 q945; obtain rfl : ad943 = ad945 := (by injection e945); have hn945_0 : ad943.block ≠ gb941 := Kd.own_blk (Kd.R_ne HO_3.out BK941.out (by decide)); have hn945_1 : ad943.block ≠ gb941 := Kd.own_blk (Kd.R_ne HO_3.out BK941.out (by decide)); have hn945_2 : ad943.block ≠ gb941 := Kd.own_blk (Kd.R_ne HO_3.out BK941.out (by decide)); have hn945_3 : ad943.block ≠ gb941 := Kd.own_blk (Kd.R_ne HO_3.out BK941.out (by decide)); replace hx945_0 := (cell_far (p := ⟨gb941, 0, none⟩) (by first | (rw [add_block]; exact hn945_0) | (show (Addr.add _ _).block ≠ _; rw [add_block]; exact hn945_0) | exact hn945_0) (.int .i64 ((rd_T169 l0 x4_1).f0))).trans hx945_0; replace hx945_0 := (cell_far (p := ⟨gb941, 1, none⟩) (by first | (rw [add_block]; exact hn945_1) | (show (Addr.add _ _).block ≠ _; rw [add_block]; exact hn945_1) | exact hn945_1) (.int .i64 ((rd_T169 l0 x4_1).f1))).trans hx945_0; replace hx945_0 := (cell_far (p := ⟨gb941, 2, none⟩) (by first | (rw [add_block]; exact hn945_2) | (show (Addr.add _ _).block ≠ _; rw [add_block]; exact hn945_2) | exact hn945_2) (.int .i64 ((rd_T169 l0 x4_1).f2))).trans hx945_0; replace hx945_0 := (cell_far (p := ⟨gb941, 3, none⟩) (by first | (rw [add_block]; exact hn945_3) | (show (Addr.add _ _).block ≠ _; rw [add_block]; exact hn945_3) | exact hn945_3) (.int .i64 ((rd_T169 l0 x4_1).f3))).trans hx945_0; clear hn945_0; clear hn945_1; clear hn945_2; clear hn945_3; replace p945 := eq_true p945; replace q945 := eq_true q945) | ((with_reducible refine gate_callee (f := 98) rfl ?_); refine goesL_ (some 49) rfl rfl Try.func98 (by kernel_rfl) rfl #[.int .i64 ((rd_T169 l0 x4_1).f3), .int .i64 (x3_1.length : Int)] rfl (by (try simp only [List.map_toArray, List.map_cons, List.map_nil]); first | done | rfl | (simp only [List.length_drop, List.length_take]; rfl)) ?_; (with_reducible refine (gemotlaw1_pick.calls ((rd_T169 l0 x4_1).f3) (x3_1.length : Int) t946 _ A18.out).mono ?_); rintro e w' ⟨rfl, ⟨nd, rfl⟩⟩; refine ⟨_, rfl, ?_⟩; have p947 : 0 ≤ (t946 : Int) := of_decide_eq_true (by first | (with_reducible assumption) | assumption); have q947 : t946 < (x3_1.length : Int) := of_decide_eq_true (by first | (with_reducible assumption) | assumption); obtain ⟨ad947, e947, hx947_0⟩ := Kd.at_string (Kd.R_reads' HO_3.out).2.2 t946 p947 q947; obtain rfl : ad943 = ad947 := (by injection e947); have hn947_0 : ad943.block ≠ gb941 := Kd.own_blk (Kd.R_ne HO_3.out BK941.out (by decide)); have hn947_1 : ad943.block ≠ gb941 := Kd.own_blk (Kd.R_ne HO_3.out BK941.out (by decide)); have hn947_2 : ad943.block ≠ gb941 := Kd.own_blk (Kd.R_ne HO_3.out BK941.out (by decide)); have hn947_3 : ad943.block ≠ gb941 := Kd.own_blk (Kd.R_ne HO_3.out BK941.out (by decide)); replace hx947_0 := (cell_far (p := ⟨gb941, 0, none⟩) (by first | (rw [add_block]; exact hn947_0) | (show (Addr.add _ _).block ≠ _; rw [add_block]; exact hn947_0) | exact hn947_0) (.int .i64 ((rd_T169 l0 x4_1).f0))).trans hx947_0; replace hx947_0 := (cell_far (p := ⟨gb941, 1, none⟩) (by first | (rw [add_block]; exact hn947_1) | (show (Addr.add _ _).block ≠ _; rw [add_block]; exact hn947_1) | exact hn947_1) (.int .i64 ((rd_T169 l0 x4_1).f1))).trans hx947_0; replace hx947_0 := (cell_far (p := ⟨gb941, 2, none⟩) (by first | (rw [add_block]; exact hn947_2) | (show (Addr.add _ _).block ≠ _; rw [add_block]; exact hn947_2) | exact hn947_2) (.int .i64 ((rd_T169 l0 x4_1).f2))).trans hx947_0; replace hx947_0 := (cell_far (p := ⟨gb941, 3, none⟩) (by first | (rw [add_block]; exact hn947_3) | (show (Addr.add _ _).block ≠ _; rw [add_block]; exact hn947_3) | exact hn947_3) (.int .i64 ((rd_T169 l0 x4_1).f3))).trans hx947_0; clear hn947_0; clear hn947_1; clear hn947_2; clear hn947_3; replace p947 := eq_true p947; replace q947 := eq_true q947) | ((with_reducible refine gate_callee (f := 142) rfl ?_); refine goesL_ (some 54) rfl rfl Try.func142 (by kernel_rfl) rfl #[.int .i64 ((rd_T169 l0 x4_1).f1)] rfl (by (try simp only [List.map_toArray, List.map_cons, List.map_nil]); first | done | rfl | (simp only [List.length_drop, List.length_take]; rfl)) ?_; (with_reducible refine (gemotlaw1_name.calls ((rd_T169 l0 x4_1).f1) t948 _ A21.out).mono ?_); rintro e w27 ⟨rfl, hb⟩; refine ⟨_, rfl, ?_⟩; have n0_ := Aside0.mk (Kd.R_below (by (with_reducible repeat (first | apply Kd.R_alloc | apply Kd.R_drewN | apply Kd.R_drew)); exact (Kd.R_mono (Kd.R_far (p := ⟨gb941, 3, none⟩) (Kd.R_far (p := ⟨gb941, 2, none⟩) (Kd.R_far (p := ⟨gb941, 1, none⟩) (Kd.R_far (p := ⟨gb941, 0, none⟩) (Kd.R_types HO_3.out BK941.out (by decide)) (fun _ hk => hk.2) (.int .i64 ((rd_T169 l0 x4_1).f0))) (fun _ hk => hk.2) (.int .i64 ((rd_T169 l0 x4_1).f1))) (fun _ hk => hk.2) (.int .i64 ((rd_T169 l0 x4_1).f2))) (fun _ hk => hk.2) (.int .i64 ((rd_T169 l0 x4_1).f3))) (fun _ h_ => h_.1))) hb); have n1_ := Aside0.mk (blk_below (g := gb941) (o := .cells #[.int .i64 ((rd_T169 l0 x4_1).f0), .int .i64 ((rd_T169 l0 x4_1).f1), .int .i64 ((rd_T169 l0 x4_1).f2), .int .i64 ((rd_T169 l0 x4_1).f3)] 169 (0, 0)) (by (with_reducible repeat (first | refine blk_drewN ?_ _ | refine blk_drew ?_ | refine blk_alloc ?_ _)); refine blk_put (cs := #[.int .i64 ((rd_T169 l0 x4_1).f0), .int .i64 ((rd_T169 l0 x4_1).f1), .int .i64 ((rd_T169 l0 x4_1).f2), .int .i64 0]) ?_ 3 _ rfl; (with_reducible repeat (first | refine blk_drewN ?_ _ | refine blk_drew ?_ | refine blk_alloc ?_ _)); refine blk_put (cs := #[.int .i64 ((rd_T169 l0 x4_1).f0), .int .i64 ((rd_T169 l0 x4_1).f1), .int .i64 0, .int .i64 0]) ?_ 2 _ rfl; (with_reducible repeat (first | refine blk_drewN ?_ _ | refine blk_drew ?_ | refine blk_alloc ?_ _)); refine blk_put (cs := #[.int .i64 ((rd_T169 l0 x4_1).f0), .int .i64 0, .int .i64 0, .int .i64 0]) ?_ 1 _ rfl; (with_reducible repeat (first | refine blk_drewN ?_ _ | refine blk_drew ?_ | refine blk_alloc ?_ _)); refine blk_put (cs := #[.int .i64 0, .int .i64 0, .int .i64 0, .int .i64 0]) ?_ 0 _ rfl; (with_reducible repeat (first | refine blk_drewN ?_ _ | refine blk_drew ?_ | refine blk_alloc ?_ _)); exact BK941.out) hb); have n2_ := Aside0.mk (below_step (by repeat (first | (with_reducible first | exact HB.out | apply below_alloc | apply pw_below_drewN | apply below_drew1 | refine below_set ?_ GE941.out) | exact HB.out)) hb); clear HO_3; clear BK941; clear HB; have HO_3 := n0_; have BK941 := n1_; have HB := n2_; clear n0_ n1_ n2_; (try clear hb); (try clear hb2); (try clear hk); (try clear hi); have hcz28_0 : w27.cell? ⟨gb941, 0, none⟩ = some (.int .i64 ((rd_T169 l0 x4_1).f0)) := (blk_cell BK941.out 0).trans rfl; have hcz28_1 : w27.cell? ⟨gb941, 1, none⟩ = some (.int .i64 ((rd_T169 l0 x4_1).f1)) := (blk_cell BK941.out 1).trans rfl; have hcz28_2 : w27.cell? ⟨gb941, 2, none⟩ = some (.int .i64 ((rd_T169 l0 x4_1).f2)) := (blk_cell BK941.out 2).trans rfl; have hcz28_3 : w27.cell? ⟨gb941, 3, none⟩ = some (.int .i64 ((rd_T169 l0 x4_1).f3)) := (blk_cell BK941.out 3).trans rfl; have hfz28_0 := blk_frozen BK941.out 0; have hfz28_1 := blk_frozen BK941.out 1; have hfz28_2 := blk_frozen BK941.out 2; have hfz28_3 := blk_frozen BK941.out 3) | ((with_reducible refine gate_callee (f := 98) rfl ?_); refine goesL_ (some 57) rfl rfl Try.func98 (by kernel_rfl) rfl #[.int .i64 ((rd_T169 l0 x4_1).f0), .int .i64 10] rfl (by (try simp only [List.map_toArray, List.map_cons, List.map_nil]); first | done | rfl | (simp only [List.length_drop, List.length_take]; rfl)) ?_; (with_reducible refine (gemotlaw1_pick.calls ((rd_T169 l0 x4_1).f0) 10 t949 _ A22.out).mono ?_); rintro e w' ⟨rfl, ⟨nd, rfl⟩⟩; refine ⟨_, rfl, ?_⟩))
                            (try simp only [Act.put, List.setIfInBounds_toArray, List.set_cons_zero, List.set_cons_succ])
                            go_cut [58] (fun v58 wc => ∃ (kq : Nat) (x58_22 : Bool), v58 = .bool x58_22 ∧ Aside0 (gemotlaw1_made_p.j2 kq l0 x3_1 x4_1 (rdOf ByteArray.empty x3_1 t942) (rdOf ByteArray.empty x3_1 t944) (rdOf ByteArray.empty x3_1 t946) t948 0 t949 x58_22 ((rd_T169 l0 x4_1).f0) ((rd_T169 l0 x4_1).f1) ((rd_T169 l0 x4_1).f2) ((rd_T169 l0 x4_1).f3) = some r) ∧ Aside0 (kq ≤ kj6) ∧ Aside0 (Kd.R Kd.string 23 wc w.heap.size (fun _ => True) (.slice (some ad943) x3_1.length co26) x3_1) ∧ Aside0 (wc.heap[gb941]? = some (.cells #[.int .i64 ((rd_T169 l0 x4_1).f0), .int .i64 ((rd_T169 l0 x4_1).f1), .int .i64 ((rd_T169 l0 x4_1).f2), .int .i64 ((rd_T169 l0 x4_1).f3)] 169 (0, 0))) ∧ Aside0 (Below w.heap.size w wc))
                            case first =>
                              have H := HC23.out
                              clear HC23
                              by_cases c29 : t949 = 1
                              · rw [if_pos c29] at H
                                have c29b0 : (t949 == 1) = true := beq_iff_eq.mpr c29
                                have c29b1 : (t949 != 1) = false := bne_eq_false_iff_eq.mpr c29
                                clear c29
                                (first | rw [c29b0] | (simp only [i64_w, i32_w]; rw [c29b0]) | skip)
                                have H' := Aside0.mk H
                                clear H
                                go_wp2
                                go_meet
                                case rel => exact ⟨_, ((t949 == 1)), (by first | rfl | (simp; done) | (simp [*]; done)), H', ⟨by have := HK1.out; have := HJ6.out; first | omega | exact Nat.le_refl _⟩, ⟨by (with_reducible repeat (first | apply Kd.R_alloc | apply Kd.R_drewN | apply Kd.R_drew)); exact HO_3.out⟩, ⟨by (with_reducible repeat (first | refine blk_drewN ?_ _ | refine blk_drew ?_ | refine blk_alloc ?_ _)); exact BK941.out⟩, ⟨by repeat (first | (with_reducible first | exact HB.out | apply below_alloc | apply pw_below_drewN | apply below_drew1 | refine below_set ?_ GE941.out) | exact HB.out)⟩⟩
                              · rw [if_neg c29] at H
                                have c29b0 : (t949 == 1) = false := beq_eq_false_iff_ne.mpr c29
                                have c29b1 : (t949 != 1) = true := bne_iff_ne.mpr c29
                                (first | rw [c29b0] | (simp only [i64_w, i32_w]; rw [c29b0]) | skip)
                                by_cases c30 : t949 = 2
                                · rw [if_pos c30] at H
                                  have c30b0 : (t949 == 2) = true := beq_iff_eq.mpr c30
                                  have c30b1 : (t949 != 2) = false := bne_eq_false_iff_eq.mpr c30
                                  clear c30
                                  have H' := Aside0.mk H
                                  clear H
                                  go_wp2
                                  go_meet
                                  case rel => exact ⟨_, ((t949 == 2)), (by first | rfl | (simp; done) | (simp [*]; done)), H', ⟨by have := HK1.out; have := HJ6.out; first | omega | exact Nat.le_refl _⟩, ⟨by (with_reducible repeat (first | apply Kd.R_alloc | apply Kd.R_drewN | apply Kd.R_drew)); exact HO_3.out⟩, ⟨by (with_reducible repeat (first | refine blk_drewN ?_ _ | refine blk_drew ?_ | refine blk_alloc ?_ _)); exact BK941.out⟩, ⟨by repeat (first | (with_reducible first | exact HB.out | apply below_alloc | apply pw_below_drewN | apply below_drew1 | refine below_set ?_ GE941.out) | exact HB.out)⟩⟩
                                · rw [if_neg c30] at H
                                  have c30b0 : (t949 == 2) = false := beq_eq_false_iff_ne.mpr c30
                                  have c30b1 : (t949 != 2) = true := bne_iff_ne.mpr c30
                                  have H' := Aside0.mk H
                                  clear H
                                  go_wp2
                                  go_meet
                                  case rel => exact ⟨_, ((t949 == 3)), (by first | rfl | (simp; done) | (simp [*]; done)), H', ⟨by have := HK1.out; have := HJ6.out; first | omega | exact Nat.le_refl _⟩, ⟨by (with_reducible repeat (first | apply Kd.R_alloc | apply Kd.R_drewN | apply Kd.R_drew)); exact HO_3.out⟩, ⟨by (with_reducible repeat (first | refine blk_drewN ?_ _ | refine blk_drew ?_ | refine blk_alloc ?_ _)); exact BK941.out⟩, ⟨by repeat (first | (with_reducible first | exact HB.out | apply below_alloc | apply pw_below_drewN | apply below_drew1 | refine below_set ?_ GE941.out) | exact HB.out)⟩⟩
                            case rest =>
                              clear HC23
                              try clear c1
                              try clear c2
                              try clear p2
                              try clear c3
                              try clear c8
                              try clear c8b0
                              try clear c9
                              try clear p9
                              try clear q9
                              try clear hx9
                              try clear c10
                              try clear c10b0
                              try clear c11
                              try clear c11b0
                              try clear c13
                              try clear c13b0
                              try clear c14
                              try clear c14b0
                              try clear c16
                              try clear c16b0
                              try clear c17
                              try clear c17b0
                              try clear c19
                              try clear c19b0
                              try clear c20
                              try clear c20b0
                              try clear c29
                              try clear c29b0
                              try clear c29b1
                              try clear c30
                              try clear c30b0
                              try clear c30b1
                              try clear hcz25_0
                              try clear hcz25_1
                              try clear hcz25_2
                              try clear hcz25_3
                              try clear hcz28_0
                              try clear hcz28_1
                              try clear hcz28_2
                              try clear hcz28_3
                              try clear hfz25_0
                              try clear hfz25_1
                              try clear hfz25_2
                              try clear hfz25_3
                              try clear hfz28_0
                              try clear hfz28_1
                              try clear hfz28_2
                              try clear hfz28_3
                              try clear hx940_0
                              try clear hx940_1
                              try clear hx940_2
                              try clear hx940_3
                              try clear hx943_0
                              try clear hx945_0
                              try clear hx947_0
                              try clear p2
                              try clear p940
                              try clear p943
                              try clear p945
                              try clear p947
                              try clear q940
                              try clear q943
                              try clear q945
                              try clear q947
                              obtain ⟨kq, x58_22, rfl, HA, HJ22, HO_3, BK941, HB⟩ := hcut
                              cases kq with
                              | zero => exact absurd HA.out (by simp [gemotlaw1_made_p.j2])
                              | succ kj22 =>
                                have H := HA.out
                                clear HA
                                simp only [gemotlaw1_made_p.j2] at H
                                by_cases c31 : x58_22 = true
                                · subst c31
                                  have H1 : ((term_Power.f (rdOf ByteArray.empty x3_1 t942) (rdOf ByteArray.empty x3_1 t944)).bind fun bt950 => (if bt950.2 = 0 then (if (bt950.1.size : Int) > 600 then ((gemotlaw1_name.f ((rd_T169 l0 x4_1).f2)).bind fun t952 => (if x3_1.length < 8796093022208 then (gemotlaw1_made_p.l0 kj22 l0 (x3_1 ++ [t952]) (wrap64 (x4_1 + 1))) else (none))) else (if x3_1.length < 8796093022208 then (gemotlaw1_made_p.l0 kj22 l0 (x3_1 ++ [bt950.1]) (wrap64 (x4_1 + 1))) else (none))) else ((gemotlaw1_name.f ((rd_T169 l0 x4_1).f2)).bind fun t959 => (if x3_1.length < 8796093022208 then (gemotlaw1_made_p.l0 kj22 l0 (x3_1 ++ [t959]) (wrap64 (x4_1 + 1))) else (none))))) = some r := by rw [if_pos rfl] at H; exact H
                                  clear H
                                  have H := H1
                                  clear H1
                                  replace H := Option.bind_eq_some_iff.mp H
                                  obtain ⟨⟨t950, t951⟩, A320, H⟩ := H
                                  replace H : (if t951 = 0 then (if (t950.size : Int) > 600 then ((gemotlaw1_name.f ((rd_T169 l0 x4_1).f2)).bind fun t952 => (if x3_1.length < 8796093022208 then (gemotlaw1_made_p.l0 kj22 l0 (x3_1 ++ [t952]) (wrap64 (x4_1 + 1))) else (none))) else (if x3_1.length < 8796093022208 then (gemotlaw1_made_p.l0 kj22 l0 (x3_1 ++ [t950]) (wrap64 (x4_1 + 1))) else (none))) else ((gemotlaw1_name.f ((rd_T169 l0 x4_1).f2)).bind fun t959 => (if x3_1.length < 8796093022208 then (gemotlaw1_made_p.l0 kj22 l0 (x3_1 ++ [t959]) (wrap64 (x4_1 + 1))) else (none)))) = some r := H
                                  have A32 := Aside0.mk A320
                                  clear A320
                                  by_cases c33 : t951 = 0
                                  · rw [if_pos c33] at H
                                    have c33b0 : (t951 == 0) = true := beq_iff_eq.mpr c33
                                    have c33b1 : (t951 != 0) = false := bne_eq_false_iff_eq.mpr c33
                                    clear c33
                                    by_cases c34 : (t950.size : Int) > 600
                                    · rw [if_pos c34] at H
                                      have c34b0 : decide (600 < (t950.size : Int)) = true := decide_eq_true c34
                                      have c34b1 : decide (600 < t950.size) = true := decide_eq_true (by omega)
                                      clear c34
                                      replace H := Option.bind_eq_some_iff.mp H
                                      obtain ⟨t952, A350, H⟩ := H
                                      replace H : (if x3_1.length < 8796093022208 then (gemotlaw1_made_p.l0 kj22 l0 (x3_1 ++ [t952]) (wrap64 (x4_1 + 1))) else (none)) = some r := H
                                      have A35 := Aside0.mk A350
                                      clear A350
                                      by_cases c36 : x3_1.length < 8796093022208
                                      · rw [if_pos c36] at H
                                        have LMc36 := Aside0.mk c36
                                        clear c36
                                        obtain ⟨y953, hy953⟩ : ∃ y_ : List ByteArray, y_ = (x3_1 ++ [t952]) := ⟨_, rfl⟩
                                        replace H : (gemotlaw1_made_p.l0 kj22 l0 y953 (wrap64 (x4_1 + 1))) = some r := by first | (rw [hy953]; with_reducible exact H) | (have H2_ := (Option.bind_some _ _).symm.trans H; rw [hy953]; with_reducible exact H2_) | (have H2_ := (Option.bind_some _ _).symm.trans H; with_reducible exact H2_) | with_reducible exact H | (rw [hy953]; exact H) | exact H
                                        have Ny953 := Aside0.mk hy953
                                        clear hy953
                                        have H' := Aside0.mk H
                                        clear H
                                        go_wp2_with (first | ((with_reducible refine gate_callee (f := 88) rfl ?_); refine goesL_ (some 65) rfl rfl Try.func88 (by kernel_rfl) rfl #[.string (rdOf ByteArray.empty x3_1 t942), .string (rdOf ByteArray.empty x3_1 t944)] rfl (by (try simp only [List.map_toArray, List.map_cons, List.map_nil]); first | done | rfl | (simp only [List.length_drop, List.length_take]; rfl)) ?_; (with_reducible refine (term_Power.calls (rdOf ByteArray.empty x3_1 t942) (rdOf ByteArray.empty x3_1 t944) t950 t951 _ A32.out).mono ?_); rintro e w37 ⟨rfl, hb⟩; refine ⟨_, rfl, ?_⟩; have n0_ := Aside0.mk (Kd.R_below (by (with_reducible repeat (first | apply Kd.R_alloc | apply Kd.R_drewN | apply Kd.R_drew)); exact HO_3.out) hb); have n1_ := Aside0.mk (blk_below (g := gb941) (o := .cells #[.int .i64 ((rd_T169 l0 x4_1).f0), .int .i64 ((rd_T169 l0 x4_1).f1), .int .i64 ((rd_T169 l0 x4_1).f2), .int .i64 ((rd_T169 l0 x4_1).f3)] 169 (0, 0)) (by (with_reducible repeat (first | refine blk_drewN ?_ _ | refine blk_drew ?_ | refine blk_alloc ?_ _)); exact BK941.out) hb); have n2_ := Aside0.mk (below_step (by repeat (first | (with_reducible first | exact HB.out | apply below_alloc | apply pw_below_drewN | apply below_drew1 | refine below_set ?_ GE941.out) | exact HB.out)) hb); clear HO_3; clear BK941; clear HB; have HO_3 := n0_; have BK941 := n1_; have HB := n2_; clear n0_ n1_ n2_; (try clear hb); (try clear hb2); (try clear hk); (try clear hi); have hcz38_0 : w37.cell? ⟨gb941, 0, none⟩ = some (.int .i64 ((rd_T169 l0 x4_1).f0)) := (blk_cell BK941.out 0).trans rfl; have hcz38_1 : w37.cell? ⟨gb941, 1, none⟩ = some (.int .i64 ((rd_T169 l0 x4_1).f1)) := (blk_cell BK941.out 1).trans rfl; have hcz38_2 : w37.cell? ⟨gb941, 2, none⟩ = some (.int .i64 ((rd_T169 l0 x4_1).f2)) := (blk_cell BK941.out 2).trans rfl; have hcz38_3 : w37.cell? ⟨gb941, 3, none⟩ = some (.int .i64 ((rd_T169 l0 x4_1).f3)) := (blk_cell BK941.out 3).trans rfl; have hfz38_0 := blk_frozen BK941.out 0; have hfz38_1 := blk_frozen BK941.out 1; have hfz38_2 := blk_frozen BK941.out 2; have hfz38_3 := blk_frozen BK941.out 3) | ((with_reducible refine gate_callee (f := 142) rfl ?_); refine goesL_ (some 117) rfl rfl Try.func142 (by kernel_rfl) rfl #[.int .i64 ((rd_T169 l0 x4_1).f2)] rfl (by (try simp only [List.map_toArray, List.map_cons, List.map_nil]); first | done | rfl | (simp only [List.length_drop, List.length_take]; rfl)) ?_; (with_reducible refine (gemotlaw1_name.calls ((rd_T169 l0 x4_1).f2) t952 _ A35.out).mono ?_); rintro e w39 ⟨rfl, hb⟩; refine ⟨_, rfl, ?_⟩; have n0_ := Aside0.mk (Kd.R_below (by (with_reducible repeat (first | apply Kd.R_alloc | apply Kd.R_drewN | apply Kd.R_drew)); exact HO_3.out) hb); have n1_ := Aside0.mk (blk_below (g := gb941) (o := .cells #[.int .i64 ((rd_T169 l0 x4_1).f0), .int .i64 ((rd_T169 l0 x4_1).f1), .int .i64 ((rd_T169 l0 x4_1).f2), .int .i64 ((rd_T169 l0 x4_1).f3)] 169 (0, 0)) (by (with_reducible repeat (first | refine blk_drewN ?_ _ | refine blk_drew ?_ | refine blk_alloc ?_ _)); exact BK941.out) hb); have n2_ := Aside0.mk (below_step (by repeat (first | (with_reducible first | exact HB.out | apply below_alloc | apply pw_below_drewN | apply below_drew1 | refine below_set ?_ GE941.out) | exact HB.out)) hb); clear HO_3; clear BK941; clear HB; have HO_3 := n0_; have BK941 := n1_; have HB := n2_; clear n0_ n1_ n2_; (try clear hb); (try clear hb2); (try clear hk); (try clear hi)) | ((with_reducible refine gate_builtin (b := .append) (xs := #[.tmp 118, .tmp 120]) rfl ?_); (try (refine gate_guard (by rfl) ?_; dsimp only)); at_builtin; refine Kd.R_append Kd.string (w0 := w) w.heap.size rfl (.tmp 118) (.tmp 120) 37 23 (.string ⟨#[]⟩) 16 rfl Try.underlying37 info23 rfl (by decide) (by omega) (.slice (some ad943) x3_1.length co26) x3_1 t952 [.string t952] (fun _ => True) (fun _ => False) rfl rfl ?aP (fun _ hk => hk.elim) ?aF ?aO ?aB ?aS ?aL ?_; (case aP => exact rfl); (case aB => exact (by repeat (first | (with_reducible first | exact HB.out | apply below_alloc | apply pw_below_drewN | apply below_drew1 | refine below_set ?_ GE941.out) | exact HB.out))); (case aF => exact (fun _ _ => trivial)); (case aO => exact (by (with_reducible repeat (first | apply Kd.R_alloc | apply Kd.R_drewN | apply Kd.R_drew)); exact HO_3.out)); (case aS => exact (below_size (by repeat (first | (with_reducible first | exact HB.out | apply below_alloc | apply pw_below_drewN | apply below_drew1 | refine below_set ?_ GE941.out) | exact HB.out)))); (case aL => have := LMc36.out; omega); intro v954 w40 ho hb hg hat; rw [← Ny953.out] at ho; have n0_ := Aside0.mk (blk_grown (g := gb941) (o := .cells #[.int .i64 ((rd_T169 l0 x4_1).f0), .int .i64 ((rd_T169 l0 x4_1).f1), .int .i64 ((rd_T169 l0 x4_1).f2), .int .i64 ((rd_T169 l0 x4_1).f3)] 169 (0, 0)) (by (with_reducible repeat (first | refine blk_drewN ?_ _ | refine blk_drew ?_ | refine blk_alloc ?_ _)); exact BK941.out) hg (Kd.R_ne HO_3.out BK941.out (by decide))); have n1_ := Aside0.mk (hb); have n2_ := Aside0.mk (ho); clear BK941; clear HB; clear HO_3; have BK941 := n0_; have HB := n1_; have HO955 := n2_; clear n0_ n1_ n2_; clear ho hb hg hat))
                                        go_roundg kj22
                                        case measure => have := HK1.out; have := HJ6.out; have := HJ22.out; omega
                                        case rel => exact ⟨(y953), (wrap64 (x4_1 + 1)), (by first | rfl | (simp; done) | (simp [*]; done)), H', ⟨by have := HK1.out; have := HJ6.out; have := HJ22.out; omega⟩, ⟨by (with_reducible repeat (first | apply Kd.R_alloc | apply Kd.R_drewN | apply Kd.R_drew)); exact HO955.out⟩, ⟨by repeat (first | (with_reducible first | exact HB.out | apply below_alloc | apply pw_below_drewN | apply below_drew1 | refine below_set ?_ GE941.out) | exact HB.out)⟩⟩
                                      · rw [if_neg c36] at H
                                        exact absurd H (by simp)
                                    · rw [if_neg c34] at H
                                      have c34b0 : decide (600 < (t950.size : Int)) = false := decide_eq_false c34
                                      have c34b1 : decide (600 < t950.size) = false := decide_eq_false (by omega)
                                      clear c34
                                      by_cases c41 : x3_1.length < 8796093022208
                                      · rw [if_pos c41] at H
                                        have LMc41 := Aside0.mk c41
                                        clear c41
                                        obtain ⟨y956, hy956⟩ : ∃ y_ : List ByteArray, y_ = (x3_1 ++ [t950]) := ⟨_, rfl⟩
                                        replace H : (gemotlaw1_made_p.l0 kj22 l0 y956 (wrap64 (x4_1 + 1))) = some r := by first | (rw [hy956]; with_reducible exact H) | (have H2_ := (Option.bind_some _ _).symm.trans H; rw [hy956]; with_reducible exact H2_) | (have H2_ := (Option.bind_some _ _).symm.trans H; with_reducible exact H2_) | with_reducible exact H | (rw [hy956]; exact H) | exact H
                                        have Ny956 := Aside0.mk hy956
                                        clear hy956
                                        have H' := Aside0.mk H
                                        clear H
                                        go_wp2_with (first | ((with_reducible refine gate_callee (f := 88) rfl ?_); refine goesL_ (some 65) rfl rfl Try.func88 (by kernel_rfl) rfl #[.string (rdOf ByteArray.empty x3_1 t942), .string (rdOf ByteArray.empty x3_1 t944)] rfl (by (try simp only [List.map_toArray, List.map_cons, List.map_nil]); first | done | rfl | (simp only [List.length_drop, List.length_take]; rfl)) ?_; (with_reducible refine (term_Power.calls (rdOf ByteArray.empty x3_1 t942) (rdOf ByteArray.empty x3_1 t944) t950 t951 _ A32.out).mono ?_); rintro e w42 ⟨rfl, hb⟩; refine ⟨_, rfl, ?_⟩; have n0_ := Aside0.mk (Kd.R_below (by (with_reducible repeat (first | apply Kd.R_alloc | apply Kd.R_drewN | apply Kd.R_drew)); exact HO_3.out) hb); have n1_ := Aside0.mk (blk_below (g := gb941) (o := .cells #[.int .i64 ((rd_T169 l0 x4_1).f0), .int .i64 ((rd_T169 l0 x4_1).f1), .int .i64 ((rd_T169 l0 x4_1).f2), .int .i64 ((rd_T169 l0 x4_1).f3)] 169 (0, 0)) (by (with_reducible repeat (first | refine blk_drewN ?_ _ | refine blk_drew ?_ | refine blk_alloc ?_ _)); exact BK941.out) hb); have n2_ := Aside0.mk (below_step (by repeat (first | (with_reducible first | exact HB.out | apply below_alloc | apply pw_below_drewN | apply below_drew1 | refine below_set ?_ GE941.out) | exact HB.out)) hb); clear HO_3; clear BK941; clear HB; have HO_3 := n0_; have BK941 := n1_; have HB := n2_; clear n0_ n1_ n2_; (try clear hb); (try clear hb2); (try clear hk); (try clear hi)) | ((with_reducible refine gate_builtin (b := .append) (xs := #[.tmp 118, .tmp 120]) rfl ?_); (try (refine gate_guard (by rfl) ?_; dsimp only)); at_builtin; refine Kd.R_append Kd.string (w0 := w) w.heap.size rfl (.tmp 118) (.tmp 120) 37 23 (.string ⟨#[]⟩) 16 rfl Try.underlying37 info23 rfl (by decide) (by omega) (.slice (some ad943) x3_1.length co26) x3_1 t950 [.string t950] (fun _ => True) (fun _ => False) rfl rfl ?aP (fun _ hk => hk.elim) ?aF ?aO ?aB ?aS ?aL ?_; (case aP => exact rfl); (case aB => exact (by repeat (first | (with_reducible first | exact HB.out | apply below_alloc | apply pw_below_drewN | apply below_drew1 | refine below_set ?_ GE941.out) | exact HB.out))); (case aF => exact (fun _ _ => trivial)); (case aO => exact (by (with_reducible repeat (first | apply Kd.R_alloc | apply Kd.R_drewN | apply Kd.R_drew)); exact HO_3.out)); (case aS => exact (below_size (by repeat (first | (with_reducible first | exact HB.out | apply below_alloc | apply pw_below_drewN | apply below_drew1 | refine below_set ?_ GE941.out) | exact HB.out)))); (case aL => have := LMc41.out; omega); intro v957 w43 ho hb hg hat; rw [← Ny956.out] at ho; have n0_ := Aside0.mk (blk_grown (g := gb941) (o := .cells #[.int .i64 ((rd_T169 l0 x4_1).f0), .int .i64 ((rd_T169 l0 x4_1).f1), .int .i64 ((rd_T169 l0 x4_1).f2), .int .i64 ((rd_T169 l0 x4_1).f3)] 169 (0, 0)) (by (with_reducible repeat (first | refine blk_drewN ?_ _ | refine blk_drew ?_ | refine blk_alloc ?_ _)); exact BK941.out) hg (Kd.R_ne HO_3.out BK941.out (by decide))); have n1_ := Aside0.mk (hb); have n2_ := Aside0.mk (ho); clear BK941; clear HB; clear HO_3; have BK941 := n0_; have HB := n1_; have HO958 := n2_; clear n0_ n1_ n2_; clear ho hb hg hat))
                                        go_roundg kj22
                                        case measure => have := HK1.out; have := HJ6.out; have := HJ22.out; omega
                                        case rel => exact ⟨(y956), (wrap64 (x4_1 + 1)), (by first | rfl | (simp; done) | (simp [*]; done)), H', ⟨by have := HK1.out; have := HJ6.out; have := HJ22.out; omega⟩, ⟨by (with_reducible repeat (first | apply Kd.R_alloc | apply Kd.R_drewN | apply Kd.R_drew)); exact HO958.out⟩, ⟨by repeat (first | (with_reducible first | exact HB.out | apply below_alloc | apply pw_below_drewN | apply below_drew1 | refine below_set ?_ GE941.out) | exact HB.out)⟩⟩
                                      · rw [if_neg c41] at H
                                        exact absurd H (by simp)
                                  · rw [if_neg c33] at H
                                    have c33b0 : (t951 == 0) = false := beq_eq_false_iff_ne.mpr c33
                                    have c33b1 : (t951 != 0) = true := bne_iff_ne.mpr c33
                                    replace H := Option.bind_eq_some_iff.mp H
                                    obtain ⟨t959, A440, H⟩ := H
                                    replace H : (if x3_1.length < 8796093022208 then (gemotlaw1_made_p.l0 kj22 l0 (x3_1 ++ [t959]) (wrap64 (x4_1 + 1))) else (none)) = some r := H
                                    have A44 := Aside0.mk A440
                                    clear A440
                                    by_cases c45 : x3_1.length < 8796093022208
                                    · rw [if_pos c45] at H
                                      have LMc45 := Aside0.mk c45
                                      clear c45
                                      obtain ⟨y960, hy960⟩ : ∃ y_ : List ByteArray, y_ = (x3_1 ++ [t959]) := ⟨_, rfl⟩
                                      replace H : (gemotlaw1_made_p.l0 kj22 l0 y960 (wrap64 (x4_1 + 1))) = some r := by first | (rw [hy960]; with_reducible exact H) | (have H2_ := (Option.bind_some _ _).symm.trans H; rw [hy960]; with_reducible exact H2_) | (have H2_ := (Option.bind_some _ _).symm.trans H; with_reducible exact H2_) | with_reducible exact H | (rw [hy960]; exact H) | exact H
                                      have Ny960 := Aside0.mk hy960
                                      clear hy960
                                      have H' := Aside0.mk H
                                      clear H
                                      go_wp2_with (first | ((with_reducible refine gate_callee (f := 88) rfl ?_); refine goesL_ (some 65) rfl rfl Try.func88 (by kernel_rfl) rfl #[.string (rdOf ByteArray.empty x3_1 t942), .string (rdOf ByteArray.empty x3_1 t944)] rfl (by (try simp only [List.map_toArray, List.map_cons, List.map_nil]); first | done | rfl | (simp only [List.length_drop, List.length_take]; rfl)) ?_; (with_reducible refine (term_Power.calls (rdOf ByteArray.empty x3_1 t942) (rdOf ByteArray.empty x3_1 t944) t950 t951 _ A32.out).mono ?_); rintro e w46 ⟨rfl, hb⟩; refine ⟨_, rfl, ?_⟩; have n0_ := Aside0.mk (Kd.R_below (by (with_reducible repeat (first | apply Kd.R_alloc | apply Kd.R_drewN | apply Kd.R_drew)); exact HO_3.out) hb); have n1_ := Aside0.mk (blk_below (g := gb941) (o := .cells #[.int .i64 ((rd_T169 l0 x4_1).f0), .int .i64 ((rd_T169 l0 x4_1).f1), .int .i64 ((rd_T169 l0 x4_1).f2), .int .i64 ((rd_T169 l0 x4_1).f3)] 169 (0, 0)) (by (with_reducible repeat (first | refine blk_drewN ?_ _ | refine blk_drew ?_ | refine blk_alloc ?_ _)); exact BK941.out) hb); have n2_ := Aside0.mk (below_step (by repeat (first | (with_reducible first | exact HB.out | apply below_alloc | apply pw_below_drewN | apply below_drew1 | refine below_set ?_ GE941.out) | exact HB.out)) hb); clear HO_3; clear BK941; clear HB; have HO_3 := n0_; have BK941 := n1_; have HB := n2_; clear n0_ n1_ n2_; (try clear hb); (try clear hb2); (try clear hk); (try clear hi); have hcz47_0 : w46.cell? ⟨gb941, 0, none⟩ = some (.int .i64 ((rd_T169 l0 x4_1).f0)) := (blk_cell BK941.out 0).trans rfl; have hcz47_1 : w46.cell? ⟨gb941, 1, none⟩ = some (.int .i64 ((rd_T169 l0 x4_1).f1)) := (blk_cell BK941.out 1).trans rfl; have hcz47_2 : w46.cell? ⟨gb941, 2, none⟩ = some (.int .i64 ((rd_T169 l0 x4_1).f2)) := (blk_cell BK941.out 2).trans rfl; have hcz47_3 : w46.cell? ⟨gb941, 3, none⟩ = some (.int .i64 ((rd_T169 l0 x4_1).f3)) := (blk_cell BK941.out 3).trans rfl; have hfz47_0 := blk_frozen BK941.out 0; have hfz47_1 := blk_frozen BK941.out 1; have hfz47_2 := blk_frozen BK941.out 2; have hfz47_3 := blk_frozen BK941.out 3) | ((with_reducible refine gate_callee (f := 142) rfl ?_); refine goesL_ (some 117) rfl rfl Try.func142 (by kernel_rfl) rfl #[.int .i64 ((rd_T169 l0 x4_1).f2)] rfl (by (try simp only [List.map_toArray, List.map_cons, List.map_nil]); first | done | rfl | (simp only [List.length_drop, List.length_take]; rfl)) ?_; (with_reducible refine (gemotlaw1_name.calls ((rd_T169 l0 x4_1).f2) t959 _ A44.out).mono ?_); rintro e w48 ⟨rfl, hb⟩; refine ⟨_, rfl, ?_⟩; have n0_ := Aside0.mk (Kd.R_below (by (with_reducible repeat (first | apply Kd.R_alloc | apply Kd.R_drewN | apply Kd.R_drew)); exact HO_3.out) hb); have n1_ := Aside0.mk (blk_below (g := gb941) (o := .cells #[.int .i64 ((rd_T169 l0 x4_1).f0), .int .i64 ((rd_T169 l0 x4_1).f1), .int .i64 ((rd_T169 l0 x4_1).f2), .int .i64 ((rd_T169 l0 x4_1).f3)] 169 (0, 0)) (by (with_reducible repeat (first | refine blk_drewN ?_ _ | refine blk_drew ?_ | refine blk_alloc ?_ _)); exact BK941.out) hb); have n2_ := Aside0.mk (below_step (by repeat (first | (with_reducible first | exact HB.out | apply below_alloc | apply pw_below_drewN | apply below_drew1 | refine below_set ?_ GE941.out) | exact HB.out)) hb); clear HO_3; clear BK941; clear HB; have HO_3 := n0_; have BK941 := n1_; have HB := n2_; clear n0_ n1_ n2_; (try clear hb); (try clear hb2); (try clear hk); (try clear hi)) | ((with_reducible refine gate_builtin (b := .append) (xs := #[.tmp 118, .tmp 120]) rfl ?_); (try (refine gate_guard (by rfl) ?_; dsimp only)); at_builtin; refine Kd.R_append Kd.string (w0 := w) w.heap.size rfl (.tmp 118) (.tmp 120) 37 23 (.string ⟨#[]⟩) 16 rfl Try.underlying37 info23 rfl (by decide) (by omega) (.slice (some ad943) x3_1.length co26) x3_1 t959 [.string t959] (fun _ => True) (fun _ => False) rfl rfl ?aP (fun _ hk => hk.elim) ?aF ?aO ?aB ?aS ?aL ?_; (case aP => exact rfl); (case aB => exact (by repeat (first | (with_reducible first | exact HB.out | apply below_alloc | apply pw_below_drewN | apply below_drew1 | refine below_set ?_ GE941.out) | exact HB.out))); (case aF => exact (fun _ _ => trivial)); (case aO => exact (by (with_reducible repeat (first | apply Kd.R_alloc | apply Kd.R_drewN | apply Kd.R_drew)); exact HO_3.out)); (case aS => exact (below_size (by repeat (first | (with_reducible first | exact HB.out | apply below_alloc | apply pw_below_drewN | apply below_drew1 | refine below_set ?_ GE941.out) | exact HB.out)))); (case aL => have := LMc45.out; omega); intro v961 w49 ho hb hg hat; rw [← Ny960.out] at ho; have n0_ := Aside0.mk (blk_grown (g := gb941) (o := .cells #[.int .i64 ((rd_T169 l0 x4_1).f0), .int .i64 ((rd_T169 l0 x4_1).f1), .int .i64 ((rd_T169 l0 x4_1).f2), .int .i64 ((rd_T169 l0 x4_1).f3)] 169 (0, 0)) (by (with_reducible repeat (first | refine blk_drewN ?_ _ | refine blk_drew ?_ | refine blk_alloc ?_ _)); exact BK941.out) hg (Kd.R_ne HO_3.out BK941.out (by decide))); have n1_ := Aside0.mk (hb); have n2_ := Aside0.mk (ho); clear BK941; clear HB; clear HO_3; have BK941 := n0_; have HB := n1_; have HO962 := n2_; clear n0_ n1_ n2_; clear ho hb hg hat))
                                      go_roundg kj22
                                      case measure => have := HK1.out; have := HJ6.out; have := HJ22.out; omega
                                      case rel => exact ⟨(y960), (wrap64 (x4_1 + 1)), (by first | rfl | (simp; done) | (simp [*]; done)), H', ⟨by have := HK1.out; have := HJ6.out; have := HJ22.out; omega⟩, ⟨by (with_reducible repeat (first | apply Kd.R_alloc | apply Kd.R_drewN | apply Kd.R_drew)); exact HO962.out⟩, ⟨by repeat (first | (with_reducible first | exact HB.out | apply below_alloc | apply pw_below_drewN | apply below_drew1 | refine below_set ?_ GE941.out) | exact HB.out)⟩⟩
                                    · rw [if_neg c45] at H
                                      exact absurd H (by simp)
                                · replace c31 := Bool.eq_false_iff.mpr c31
                                  subst c31
                                  have H1 : (if t949 = 4 then ((term_Key.f (rdOf ByteArray.empty x3_1 t942)).bind fun bt963 => (if bt963.2 = 0 then (if (bt963.1.size : Int) > 600 then ((gemotlaw1_name.f ((rd_T169 l0 x4_1).f2)).bind fun t965 => (if x3_1.length < 8796093022208 then (gemotlaw1_made_p.l0 kj22 l0 (x3_1 ++ [t965]) (wrap64 (x4_1 + 1))) else (none))) else (if x3_1.length < 8796093022208 then (gemotlaw1_made_p.l0 kj22 l0 (x3_1 ++ [bt963.1]) (wrap64 (x4_1 + 1))) else (none))) else ((gemotlaw1_name.f ((rd_T169 l0 x4_1).f2)).bind fun t972 => (if x3_1.length < 8796093022208 then (gemotlaw1_made_p.l0 kj22 l0 (x3_1 ++ [t972]) (wrap64 (x4_1 + 1))) else (none))))) else (if t949 = 5 then (gemotlaw1_made_p.j3 kj22 l0 x3_1 x4_1 (rdOf ByteArray.empty x3_1 t942) (rdOf ByteArray.empty x3_1 t944) (rdOf ByteArray.empty x3_1 t946) t948 0 t949 (t949 == 5) ((rd_T169 l0 x4_1).f0) ((rd_T169 l0 x4_1).f1) ((rd_T169 l0 x4_1).f2) ((rd_T169 l0 x4_1).f3)) else (gemotlaw1_made_p.j3 kj22 l0 x3_1 x4_1 (rdOf ByteArray.empty x3_1 t942) (rdOf ByteArray.empty x3_1 t944) (rdOf ByteArray.empty x3_1 t946) t948 0 t949 (t949 == 6) ((rd_T169 l0 x4_1).f0) ((rd_T169 l0 x4_1).f1) ((rd_T169 l0 x4_1).f2) ((rd_T169 l0 x4_1).f3)))) = some r := by rw [if_neg (show ¬ (false = true) by decide)] at H; exact H
                                  clear H
                                  have H := H1
                                  clear H1
                                  by_cases c50 : t949 = 4
                                  · rw [if_pos c50] at H
                                    have c50b0 : (t949 == 4) = true := beq_iff_eq.mpr c50
                                    have c50b1 : (t949 != 4) = false := bne_eq_false_iff_eq.mpr c50
                                    clear c50
                                    replace H := Option.bind_eq_some_iff.mp H
                                    obtain ⟨⟨t963, t964⟩, A510, H⟩ := H
                                    replace H : (if t964 = 0 then (if (t963.size : Int) > 600 then ((gemotlaw1_name.f ((rd_T169 l0 x4_1).f2)).bind fun t965 => (if x3_1.length < 8796093022208 then (gemotlaw1_made_p.l0 kj22 l0 (x3_1 ++ [t965]) (wrap64 (x4_1 + 1))) else (none))) else (if x3_1.length < 8796093022208 then (gemotlaw1_made_p.l0 kj22 l0 (x3_1 ++ [t963]) (wrap64 (x4_1 + 1))) else (none))) else ((gemotlaw1_name.f ((rd_T169 l0 x4_1).f2)).bind fun t972 => (if x3_1.length < 8796093022208 then (gemotlaw1_made_p.l0 kj22 l0 (x3_1 ++ [t972]) (wrap64 (x4_1 + 1))) else (none)))) = some r := H
                                    have A51 := Aside0.mk A510
                                    clear A510
                                    by_cases c52 : t964 = 0
                                    · rw [if_pos c52] at H
                                      have c52b0 : (t964 == 0) = true := beq_iff_eq.mpr c52
                                      have c52b1 : (t964 != 0) = false := bne_eq_false_iff_eq.mpr c52
                                      clear c52
                                      by_cases c53 : (t963.size : Int) > 600
                                      · rw [if_pos c53] at H
                                        have c53b0 : decide (600 < (t963.size : Int)) = true := decide_eq_true c53
                                        have c53b1 : decide (600 < t963.size) = true := decide_eq_true (by omega)
                                        clear c53
                                        replace H := Option.bind_eq_some_iff.mp H
                                        obtain ⟨t965, A540, H⟩ := H
                                        replace H : (if x3_1.length < 8796093022208 then (gemotlaw1_made_p.l0 kj22 l0 (x3_1 ++ [t965]) (wrap64 (x4_1 + 1))) else (none)) = some r := H
                                        have A54 := Aside0.mk A540
                                        clear A540
                                        by_cases c55 : x3_1.length < 8796093022208
                                        · rw [if_pos c55] at H
                                          have LMc55 := Aside0.mk c55
                                          clear c55
                                          obtain ⟨y966, hy966⟩ : ∃ y_ : List ByteArray, y_ = (x3_1 ++ [t965]) := ⟨_, rfl⟩
                                          replace H : (gemotlaw1_made_p.l0 kj22 l0 y966 (wrap64 (x4_1 + 1))) = some r := by first | (rw [hy966]; with_reducible exact H) | (have H2_ := (Option.bind_some _ _).symm.trans H; rw [hy966]; with_reducible exact H2_) | (have H2_ := (Option.bind_some _ _).symm.trans H; with_reducible exact H2_) | with_reducible exact H | (rw [hy966]; exact H) | exact H
                                          have Ny966 := Aside0.mk hy966
                                          clear hy966
                                          have H' := Aside0.mk H
                                          clear H
                                          go_wp2_with (first | ((with_reducible refine gate_callee (f := 90) rfl ?_); refine goesL_ (some 72) rfl rfl Try.func90 (by kernel_rfl) rfl #[.string (rdOf ByteArray.empty x3_1 t942)] rfl (by (try simp only [List.map_toArray, List.map_cons, List.map_nil]); first | done | rfl | (simp only [List.length_drop, List.length_take]; rfl)) ?_; (with_reducible refine (term_Key.calls (rdOf ByteArray.empty x3_1 t942) t963 t964 _ A51.out).mono ?_); rintro e w56 ⟨rfl, hb⟩; refine ⟨_, rfl, ?_⟩; have n0_ := Aside0.mk (Kd.R_below (by (with_reducible repeat (first | apply Kd.R_alloc | apply Kd.R_drewN | apply Kd.R_drew)); exact HO_3.out) hb); have n1_ := Aside0.mk (blk_below (g := gb941) (o := .cells #[.int .i64 ((rd_T169 l0 x4_1).f0), .int .i64 ((rd_T169 l0 x4_1).f1), .int .i64 ((rd_T169 l0 x4_1).f2), .int .i64 ((rd_T169 l0 x4_1).f3)] 169 (0, 0)) (by (with_reducible repeat (first | refine blk_drewN ?_ _ | refine blk_drew ?_ | refine blk_alloc ?_ _)); exact BK941.out) hb); have n2_ := Aside0.mk (below_step (by repeat (first | (with_reducible first | exact HB.out | apply below_alloc | apply pw_below_drewN | apply below_drew1 | refine below_set ?_ GE941.out) | exact HB.out)) hb); clear HO_3; clear BK941; clear HB; have HO_3 := n0_; have BK941 := n1_; have HB := n2_; clear n0_ n1_ n2_; (try clear hb); (try clear hb2); (try clear hk); (try clear hi); have hcz57_0 : w56.cell? ⟨gb941, 0, none⟩ = some (.int .i64 ((rd_T169 l0 x4_1).f0)) := (blk_cell BK941.out 0).trans rfl; have hcz57_1 : w56.cell? ⟨gb941, 1, none⟩ = some (.int .i64 ((rd_T169 l0 x4_1).f1)) := (blk_cell BK941.out 1).trans rfl; have hcz57_2 : w56.cell? ⟨gb941, 2, none⟩ = some (.int .i64 ((rd_T169 l0 x4_1).f2)) := (blk_cell BK941.out 2).trans rfl; have hcz57_3 : w56.cell? ⟨gb941, 3, none⟩ = some (.int .i64 ((rd_T169 l0 x4_1).f3)) := (blk_cell BK941.out 3).trans rfl; have hfz57_0 := blk_frozen BK941.out 0; have hfz57_1 := blk_frozen BK941.out 1; have hfz57_2 := blk_frozen BK941.out 2; have hfz57_3 := blk_frozen BK941.out 3) | ((with_reducible refine gate_callee (f := 142) rfl ?_); refine goesL_ (some 117) rfl rfl Try.func142 (by kernel_rfl) rfl #[.int .i64 ((rd_T169 l0 x4_1).f2)] rfl (by (try simp only [List.map_toArray, List.map_cons, List.map_nil]); first | done | rfl | (simp only [List.length_drop, List.length_take]; rfl)) ?_; (with_reducible refine (gemotlaw1_name.calls ((rd_T169 l0 x4_1).f2) t965 _ A54.out).mono ?_); rintro e w58 ⟨rfl, hb⟩; refine ⟨_, rfl, ?_⟩; have n0_ := Aside0.mk (Kd.R_below (by (with_reducible repeat (first | apply Kd.R_alloc | apply Kd.R_drewN | apply Kd.R_drew)); exact HO_3.out) hb); have n1_ := Aside0.mk (blk_below (g := gb941) (o := .cells #[.int .i64 ((rd_T169 l0 x4_1).f0), .int .i64 ((rd_T169 l0 x4_1).f1), .int .i64 ((rd_T169 l0 x4_1).f2), .int .i64 ((rd_T169 l0 x4_1).f3)] 169 (0, 0)) (by (with_reducible repeat (first | refine blk_drewN ?_ _ | refine blk_drew ?_ | refine blk_alloc ?_ _)); exact BK941.out) hb); have n2_ := Aside0.mk (below_step (by repeat (first | (with_reducible first | exact HB.out | apply below_alloc | apply pw_below_drewN | apply below_drew1 | refine below_set ?_ GE941.out) | exact HB.out)) hb); clear HO_3; clear BK941; clear HB; have HO_3 := n0_; have BK941 := n1_; have HB := n2_; clear n0_ n1_ n2_; (try clear hb); (try clear hb2); (try clear hk); (try clear hi)) | ((with_reducible refine gate_builtin (b := .append) (xs := #[.tmp 118, .tmp 120]) rfl ?_); (try (refine gate_guard (by rfl) ?_; dsimp only)); at_builtin; refine Kd.R_append Kd.string (w0 := w) w.heap.size rfl (.tmp 118) (.tmp 120) 37 23 (.string ⟨#[]⟩) 16 rfl Try.underlying37 info23 rfl (by decide) (by omega) (.slice (some ad943) x3_1.length co26) x3_1 t965 [.string t965] (fun _ => True) (fun _ => False) rfl rfl ?aP (fun _ hk => hk.elim) ?aF ?aO ?aB ?aS ?aL ?_; (case aP => exact rfl); (case aB => exact (by repeat (first | (with_reducible first | exact HB.out | apply below_alloc | apply pw_below_drewN | apply below_drew1 | refine below_set ?_ GE941.out) | exact HB.out))); (case aF => exact (fun _ _ => trivial)); (case aO => exact (by (with_reducible repeat (first | apply Kd.R_alloc | apply Kd.R_drewN | apply Kd.R_drew)); exact HO_3.out)); (case aS => exact (below_size (by repeat (first | (with_reducible first | exact HB.out | apply below_alloc | apply pw_below_drewN | apply below_drew1 | refine below_set ?_ GE941.out) | exact HB.out)))); (case aL => have := LMc55.out; omega); intro v967 w59 ho hb hg hat; rw [← Ny966.out] at ho; have n0_ := Aside0.mk (blk_grown (g := gb941) (o := .cells #[.int .i64 ((rd_T169 l0 x4_1).f0), .int .i64 ((rd_T169 l0 x4_1).f1), .int .i64 ((rd_T169 l0 x4_1).f2), .int .i64 ((rd_T169 l0 x4_1).f3)] 169 (0, 0)) (by (with_reducible repeat (first | refine blk_drewN ?_ _ | refine blk_drew ?_ | refine blk_alloc ?_ _)); exact BK941.out) hg (Kd.R_ne HO_3.out BK941.out (by decide))); have n1_ := Aside0.mk (hb); have n2_ := Aside0.mk (ho); clear BK941; clear HB; clear HO_3; have BK941 := n0_; have HB := n1_; have HO968 := n2_; clear n0_ n1_ n2_; clear ho hb hg hat))
                                          go_roundg kj22
                                          case measure => have := HK1.out; have := HJ6.out; have := HJ22.out; omega
                                          case rel => exact ⟨(y966), (wrap64 (x4_1 + 1)), (by first | rfl | (simp; done) | (simp [*]; done)), H', ⟨by have := HK1.out; have := HJ6.out; have := HJ22.out; omega⟩, ⟨by (with_reducible repeat (first | apply Kd.R_alloc | apply Kd.R_drewN | apply Kd.R_drew)); exact HO968.out⟩, ⟨by repeat (first | (with_reducible first | exact HB.out | apply below_alloc | apply pw_below_drewN | apply below_drew1 | refine below_set ?_ GE941.out) | exact HB.out)⟩⟩
                                        · rw [if_neg c55] at H
                                          exact absurd H (by simp)
                                      · rw [if_neg c53] at H
                                        have c53b0 : decide (600 < (t963.size : Int)) = false := decide_eq_false c53
                                        have c53b1 : decide (600 < t963.size) = false := decide_eq_false (by omega)
                                        clear c53
                                        by_cases c60 : x3_1.length < 8796093022208
                                        · rw [if_pos c60] at H
                                          have LMc60 := Aside0.mk c60
                                          clear c60
                                          obtain ⟨y969, hy969⟩ : ∃ y_ : List ByteArray, y_ = (x3_1 ++ [t963]) := ⟨_, rfl⟩
                                          replace H : (gemotlaw1_made_p.l0 kj22 l0 y969 (wrap64 (x4_1 + 1))) = some r := by first | (rw [hy969]; with_reducible exact H) | (have H2_ := (Option.bind_some _ _).symm.trans H; rw [hy969]; with_reducible exact H2_) | (have H2_ := (Option.bind_some _ _).symm.trans H; with_reducible exact H2_) | with_reducible exact H | (rw [hy969]; exact H) | exact H
                                          have Ny969 := Aside0.mk hy969
                                          clear hy969
                                          have H' := Aside0.mk H
                                          clear H
                                          go_wp2_with (first | ((with_reducible refine gate_callee (f := 90) rfl ?_); refine goesL_ (some 72) rfl rfl Try.func90 (by kernel_rfl) rfl #[.string (rdOf ByteArray.empty x3_1 t942)] rfl (by (try simp only [List.map_toArray, List.map_cons, List.map_nil]); first | done | rfl | (simp only [List.length_drop, List.length_take]; rfl)) ?_; (with_reducible refine (term_Key.calls (rdOf ByteArray.empty x3_1 t942) t963 t964 _ A51.out).mono ?_); rintro e w61 ⟨rfl, hb⟩; refine ⟨_, rfl, ?_⟩; have n0_ := Aside0.mk (Kd.R_below (by (with_reducible repeat (first | apply Kd.R_alloc | apply Kd.R_drewN | apply Kd.R_drew)); exact HO_3.out) hb); have n1_ := Aside0.mk (blk_below (g := gb941) (o := .cells #[.int .i64 ((rd_T169 l0 x4_1).f0), .int .i64 ((rd_T169 l0 x4_1).f1), .int .i64 ((rd_T169 l0 x4_1).f2), .int .i64 ((rd_T169 l0 x4_1).f3)] 169 (0, 0)) (by (with_reducible repeat (first | refine blk_drewN ?_ _ | refine blk_drew ?_ | refine blk_alloc ?_ _)); exact BK941.out) hb); have n2_ := Aside0.mk (below_step (by repeat (first | (with_reducible first | exact HB.out | apply below_alloc | apply pw_below_drewN | apply below_drew1 | refine below_set ?_ GE941.out) | exact HB.out)) hb); clear HO_3; clear BK941; clear HB; have HO_3 := n0_; have BK941 := n1_; have HB := n2_; clear n0_ n1_ n2_; (try clear hb); (try clear hb2); (try clear hk); (try clear hi)) | ((with_reducible refine gate_builtin (b := .append) (xs := #[.tmp 118, .tmp 120]) rfl ?_); (try (refine gate_guard (by rfl) ?_; dsimp only)); at_builtin; refine Kd.R_append Kd.string (w0 := w) w.heap.size rfl (.tmp 118) (.tmp 120) 37 23 (.string ⟨#[]⟩) 16 rfl Try.underlying37 info23 rfl (by decide) (by omega) (.slice (some ad943) x3_1.length co26) x3_1 t963 [.string t963] (fun _ => True) (fun _ => False) rfl rfl ?aP (fun _ hk => hk.elim) ?aF ?aO ?aB ?aS ?aL ?_; (case aP => exact rfl); (case aB => exact (by repeat (first | (with_reducible first | exact HB.out | apply below_alloc | apply pw_below_drewN | apply below_drew1 | refine below_set ?_ GE941.out) | exact HB.out))); (case aF => exact (fun _ _ => trivial)); (case aO => exact (by (with_reducible repeat (first | apply Kd.R_alloc | apply Kd.R_drewN | apply Kd.R_drew)); exact HO_3.out)); (case aS => exact (below_size (by repeat (first | (with_reducible first | exact HB.out | apply below_alloc | apply pw_below_drewN | apply below_drew1 | refine below_set ?_ GE941.out) | exact HB.out)))); (case aL => have := LMc60.out; omega); intro v970 w62 ho hb hg hat; rw [← Ny969.out] at ho; have n0_ := Aside0.mk (blk_grown (g := gb941) (o := .cells #[.int .i64 ((rd_T169 l0 x4_1).f0), .int .i64 ((rd_T169 l0 x4_1).f1), .int .i64 ((rd_T169 l0 x4_1).f2), .int .i64 ((rd_T169 l0 x4_1).f3)] 169 (0, 0)) (by (with_reducible repeat (first | refine blk_drewN ?_ _ | refine blk_drew ?_ | refine blk_alloc ?_ _)); exact BK941.out) hg (Kd.R_ne HO_3.out BK941.out (by decide))); have n1_ := Aside0.mk (hb); have n2_ := Aside0.mk (ho); clear BK941; clear HB; clear HO_3; have BK941 := n0_; have HB := n1_; have HO971 := n2_; clear n0_ n1_ n2_; clear ho hb hg hat))
                                          go_roundg kj22
                                          case measure => have := HK1.out; have := HJ6.out; have := HJ22.out; omega
                                          case rel => exact ⟨(y969), (wrap64 (x4_1 + 1)), (by first | rfl | (simp; done) | (simp [*]; done)), H', ⟨by have := HK1.out; have := HJ6.out; have := HJ22.out; omega⟩, ⟨by (with_reducible repeat (first | apply Kd.R_alloc | apply Kd.R_drewN | apply Kd.R_drew)); exact HO971.out⟩, ⟨by repeat (first | (with_reducible first | exact HB.out | apply below_alloc | apply pw_below_drewN | apply below_drew1 | refine below_set ?_ GE941.out) | exact HB.out)⟩⟩
                                        · rw [if_neg c60] at H
                                          exact absurd H (by simp)
                                    · rw [if_neg c52] at H
                                      have c52b0 : (t964 == 0) = false := beq_eq_false_iff_ne.mpr c52
                                      have c52b1 : (t964 != 0) = true := bne_iff_ne.mpr c52
                                      replace H := Option.bind_eq_some_iff.mp H
                                      obtain ⟨t972, A630, H⟩ := H
                                      replace H : (if x3_1.length < 8796093022208 then (gemotlaw1_made_p.l0 kj22 l0 (x3_1 ++ [t972]) (wrap64 (x4_1 + 1))) else (none)) = some r := H
                                      have A63 := Aside0.mk A630
                                      clear A630
                                      by_cases c64 : x3_1.length < 8796093022208
                                      · rw [if_pos c64] at H
                                        have LMc64 := Aside0.mk c64
                                        clear c64
                                        obtain ⟨y973, hy973⟩ : ∃ y_ : List ByteArray, y_ = (x3_1 ++ [t972]) := ⟨_, rfl⟩
                                        replace H : (gemotlaw1_made_p.l0 kj22 l0 y973 (wrap64 (x4_1 + 1))) = some r := by first | (rw [hy973]; with_reducible exact H) | (have H2_ := (Option.bind_some _ _).symm.trans H; rw [hy973]; with_reducible exact H2_) | (have H2_ := (Option.bind_some _ _).symm.trans H; with_reducible exact H2_) | with_reducible exact H | (rw [hy973]; exact H) | exact H
                                        have Ny973 := Aside0.mk hy973
                                        clear hy973
                                        have H' := Aside0.mk H
                                        clear H
                                        go_wp2_with (first | ((with_reducible refine gate_callee (f := 90) rfl ?_); refine goesL_ (some 72) rfl rfl Try.func90 (by kernel_rfl) rfl #[.string (rdOf ByteArray.empty x3_1 t942)] rfl (by (try simp only [List.map_toArray, List.map_cons, List.map_nil]); first | done | rfl | (simp only [List.length_drop, List.length_take]; rfl)) ?_; (with_reducible refine (term_Key.calls (rdOf ByteArray.empty x3_1 t942) t963 t964 _ A51.out).mono ?_); rintro e w65 ⟨rfl, hb⟩; refine ⟨_, rfl, ?_⟩; have n0_ := Aside0.mk (Kd.R_below (by (with_reducible repeat (first | apply Kd.R_alloc | apply Kd.R_drewN | apply Kd.R_drew)); exact HO_3.out) hb); have n1_ := Aside0.mk (blk_below (g := gb941) (o := .cells #[.int .i64 ((rd_T169 l0 x4_1).f0), .int .i64 ((rd_T169 l0 x4_1).f1), .int .i64 ((rd_T169 l0 x4_1).f2), .int .i64 ((rd_T169 l0 x4_1).f3)] 169 (0, 0)) (by (with_reducible repeat (first | refine blk_drewN ?_ _ | refine blk_drew ?_ | refine blk_alloc ?_ _)); exact BK941.out) hb); have n2_ := Aside0.mk (below_step (by repeat (first | (with_reducible first | exact HB.out | apply below_alloc | apply pw_below_drewN | apply below_drew1 | refine below_set ?_ GE941.out) | exact HB.out)) hb); clear HO_3; clear BK941; clear HB; have HO_3 := n0_; have BK941 := n1_; have HB := n2_; clear n0_ n1_ n2_; (try clear hb); (try clear hb2); (try clear hk); (try clear hi); have hcz66_0 : w65.cell? ⟨gb941, 0, none⟩ = some (.int .i64 ((rd_T169 l0 x4_1).f0)) := (blk_cell BK941.out 0).trans rfl; have hcz66_1 : w65.cell? ⟨gb941, 1, none⟩ = some (.int .i64 ((rd_T169 l0 x4_1).f1)) := (blk_cell BK941.out 1).trans rfl; have hcz66_2 : w65.cell? ⟨gb941, 2, none⟩ = some (.int .i64 ((rd_T169 l0 x4_1).f2)) := (blk_cell BK941.out 2).trans rfl; have hcz66_3 : w65.cell? ⟨gb941, 3, none⟩ = some (.int .i64 ((rd_T169 l0 x4_1).f3)) := (blk_cell BK941.out 3).trans rfl; have hfz66_0 := blk_frozen BK941.out 0; have hfz66_1 := blk_frozen BK941.out 1; have hfz66_2 := blk_frozen BK941.out 2; have hfz66_3 := blk_frozen BK941.out 3) | ((with_reducible refine gate_callee (f := 142) rfl ?_); refine goesL_ (some 117) rfl rfl Try.func142 (by kernel_rfl) rfl #[.int .i64 ((rd_T169 l0 x4_1).f2)] rfl (by (try simp only [List.map_toArray, List.map_cons, List.map_nil]); first | done | rfl | (simp only [List.length_drop, List.length_take]; rfl)) ?_; (with_reducible refine (gemotlaw1_name.calls ((rd_T169 l0 x4_1).f2) t972 _ A63.out).mono ?_); rintro e w67 ⟨rfl, hb⟩; refine ⟨_, rfl, ?_⟩; have n0_ := Aside0.mk (Kd.R_below (by (with_reducible repeat (first | apply Kd.R_alloc | apply Kd.R_drewN | apply Kd.R_drew)); exact HO_3.out) hb); have n1_ := Aside0.mk (blk_below (g := gb941) (o := .cells #[.int .i64 ((rd_T169 l0 x4_1).f0), .int .i64 ((rd_T169 l0 x4_1).f1), .int .i64 ((rd_T169 l0 x4_1).f2), .int .i64 ((rd_T169 l0 x4_1).f3)] 169 (0, 0)) (by (with_reducible repeat (first | refine blk_drewN ?_ _ | refine blk_drew ?_ | refine blk_alloc ?_ _)); exact BK941.out) hb); have n2_ := Aside0.mk (below_step (by repeat (first | (with_reducible first | exact HB.out | apply below_alloc | apply pw_below_drewN | apply below_drew1 | refine below_set ?_ GE941.out) | exact HB.out)) hb); clear HO_3; clear BK941; clear HB; have HO_3 := n0_; have BK941 := n1_; have HB := n2_; clear n0_ n1_ n2_; (try clear hb); (try clear hb2); (try clear hk); (try clear hi)) | ((with_reducible refine gate_builtin (b := .append) (xs := #[.tmp 118, .tmp 120]) rfl ?_); (try (refine gate_guard (by rfl) ?_; dsimp only)); at_builtin; refine Kd.R_append Kd.string (w0 := w) w.heap.size rfl (.tmp 118) (.tmp 120) 37 23 (.string ⟨#[]⟩) 16 rfl Try.underlying37 info23 rfl (by decide) (by omega) (.slice (some ad943) x3_1.length co26) x3_1 t972 [.string t972] (fun _ => True) (fun _ => False) rfl rfl ?aP (fun _ hk => hk.elim) ?aF ?aO ?aB ?aS ?aL ?_; (case aP => exact rfl); (case aB => exact (by repeat (first | (with_reducible first | exact HB.out | apply below_alloc | apply pw_below_drewN | apply below_drew1 | refine below_set ?_ GE941.out) | exact HB.out))); (case aF => exact (fun _ _ => trivial)); (case aO => exact (by (with_reducible repeat (first | apply Kd.R_alloc | apply Kd.R_drewN | apply Kd.R_drew)); exact HO_3.out)); (case aS => exact (below_size (by repeat (first | (with_reducible first | exact HB.out | apply below_alloc | apply pw_below_drewN | apply below_drew1 | refine below_set ?_ GE941.out) | exact HB.out)))); (case aL => have := LMc64.out; omega); intro v974 w68 ho hb hg hat; rw [← Ny973.out] at ho; have n0_ := Aside0.mk (blk_grown (g := gb941) (o := .cells #[.int .i64 ((rd_T169 l0 x4_1).f0), .int .i64 ((rd_T169 l0 x4_1).f1), .int .i64 ((rd_T169 l0 x4_1).f2), .int .i64 ((rd_T169 l0 x4_1).f3)] 169 (0, 0)) (by (with_reducible repeat (first | refine blk_drewN ?_ _ | refine blk_drew ?_ | refine blk_alloc ?_ _)); exact BK941.out) hg (Kd.R_ne HO_3.out BK941.out (by decide))); have n1_ := Aside0.mk (hb); have n2_ := Aside0.mk (ho); clear BK941; clear HB; clear HO_3; have BK941 := n0_; have HB := n1_; have HO975 := n2_; clear n0_ n1_ n2_; clear ho hb hg hat))
                                        go_roundg kj22
                                        case measure => have := HK1.out; have := HJ6.out; have := HJ22.out; omega
                                        case rel => exact ⟨(y973), (wrap64 (x4_1 + 1)), (by first | rfl | (simp; done) | (simp [*]; done)), H', ⟨by have := HK1.out; have := HJ6.out; have := HJ22.out; omega⟩, ⟨by (with_reducible repeat (first | apply Kd.R_alloc | apply Kd.R_drewN | apply Kd.R_drew)); exact HO975.out⟩, ⟨by repeat (first | (with_reducible first | exact HB.out | apply below_alloc | apply pw_below_drewN | apply below_drew1 | refine below_set ?_ GE941.out) | exact HB.out)⟩⟩
                                      · rw [if_neg c64] at H
                                        exact absurd H (by simp)
                                  · rw [if_neg c50] at H
                                    have c50b0 : (t949 == 4) = false := beq_eq_false_iff_ne.mpr c50
                                    have c50b1 : (t949 != 4) = true := bne_iff_ne.mpr c50
                                    have HC69 := Aside0.mk H
                                    clear H
                                    go_upto_if 75 with (fail)
                                    go_cut [75] (fun v75 wc => ∃ (kq : Nat) (x75_68 : Bool), v75 = .bool x75_68 ∧ Aside0 (gemotlaw1_made_p.j3 kq l0 x3_1 x4_1 (rdOf ByteArray.empty x3_1 t942) (rdOf ByteArray.empty x3_1 t944) (rdOf ByteArray.empty x3_1 t946) t948 0 t949 x75_68 ((rd_T169 l0 x4_1).f0) ((rd_T169 l0 x4_1).f1) ((rd_T169 l0 x4_1).f2) ((rd_T169 l0 x4_1).f3) = some r) ∧ Aside0 (kq ≤ kj22) ∧ Aside0 (Kd.R Kd.string 23 wc w.heap.size (fun _ => True) (.slice (some ad943) x3_1.length co26) x3_1) ∧ Aside0 (wc.heap[gb941]? = some (.cells #[.int .i64 ((rd_T169 l0 x4_1).f0), .int .i64 ((rd_T169 l0 x4_1).f1), .int .i64 ((rd_T169 l0 x4_1).f2), .int .i64 ((rd_T169 l0 x4_1).f3)] 169 (0, 0))) ∧ Aside0 (Below w.heap.size w wc))
                                    case first =>
                                      have H := HC69.out
                                      clear HC69
                                      by_cases c70 : t949 = 5
                                      · rw [if_pos c70] at H
                                        have c70b0 : (t949 == 5) = true := beq_iff_eq.mpr c70
                                        have c70b1 : (t949 != 5) = false := bne_eq_false_iff_eq.mpr c70
                                        clear c70
                                        (first | rw [c70b0] | (simp only [i64_w, i32_w]; rw [c70b0]) | skip)
                                        have H' := Aside0.mk H
                                        clear H
                                        go_wp2
                                        go_meet
                                        case rel => exact ⟨_, ((t949 == 5)), (by first | rfl | (simp; done) | (simp [*]; done)), H', ⟨by have := HK1.out; have := HJ6.out; have := HJ22.out; first | omega | exact Nat.le_refl _⟩, ⟨by (with_reducible repeat (first | apply Kd.R_alloc | apply Kd.R_drewN | apply Kd.R_drew)); exact HO_3.out⟩, ⟨by (with_reducible repeat (first | refine blk_drewN ?_ _ | refine blk_drew ?_ | refine blk_alloc ?_ _)); exact BK941.out⟩, ⟨by repeat (first | (with_reducible first | exact HB.out | apply below_alloc | apply pw_below_drewN | apply below_drew1 | refine below_set ?_ GE941.out) | exact HB.out)⟩⟩
                                      · rw [if_neg c70] at H
                                        have c70b0 : (t949 == 5) = false := beq_eq_false_iff_ne.mpr c70
                                        have c70b1 : (t949 != 5) = true := bne_iff_ne.mpr c70
                                        (first | rw [c70b0] | (simp only [i64_w, i32_w]; rw [c70b0]) | skip)
                                        have H' := Aside0.mk H
                                        clear H
                                        go_wp2
                                        go_meet
                                        case rel => exact ⟨_, ((t949 == 6)), (by first | rfl | (simp; done) | (simp [*]; done)), H', ⟨by have := HK1.out; have := HJ6.out; have := HJ22.out; first | omega | exact Nat.le_refl _⟩, ⟨by (with_reducible repeat (first | apply Kd.R_alloc | apply Kd.R_drewN | apply Kd.R_drew)); exact HO_3.out⟩, ⟨by (with_reducible repeat (first | refine blk_drewN ?_ _ | refine blk_drew ?_ | refine blk_alloc ?_ _)); exact BK941.out⟩, ⟨by repeat (first | (with_reducible first | exact HB.out | apply below_alloc | apply pw_below_drewN | apply below_drew1 | refine below_set ?_ GE941.out) | exact HB.out)⟩⟩
                                    case rest =>
                                      clear HC69
                                      try clear c1
                                      try clear c2
                                      try clear p2
                                      try clear c3
                                      try clear c4
                                      try clear c5
                                      try clear c6
                                      try clear p6
                                      try clear c7
                                      try clear c8
                                      try clear c8b0
                                      try clear c9
                                      try clear p9
                                      try clear q9
                                      try clear hx9
                                      try clear c10
                                      try clear c10b0
                                      try clear c11
                                      try clear c11b0
                                      try clear c13
                                      try clear c13b0
                                      try clear c14
                                      try clear c14b0
                                      try clear c16
                                      try clear c16b0
                                      try clear c17
                                      try clear c17b0
                                      try clear c19
                                      try clear c19b0
                                      try clear c20
                                      try clear c20b0
                                      try clear c29
                                      try clear c29b0
                                      try clear c29b1
                                      try clear c30
                                      try clear c30b0
                                      try clear c30b1
                                      try clear c31
                                      try clear c33
                                      try clear c33b0
                                      try clear c33b1
                                      try clear c34
                                      try clear c34b0
                                      try clear c34b1
                                      try clear c36
                                      try clear c41
                                      try clear c45
                                      try clear c50
                                      try clear c50b0
                                      try clear c50b1
                                      try clear c52
                                      try clear c52b0
                                      try clear c52b1
                                      try clear c53
                                      try clear c53b0
                                      try clear c53b1
                                      try clear c55
                                      try clear c60
                                      try clear c64
                                      try clear p64
                                      try clear c70
                                      try clear c70b0
                                      try clear c70b1
                                      try clear hcz25_0
                                      try clear hcz25_1
                                      try clear hcz25_2
                                      try clear hcz25_3
                                      try clear hcz28_0
                                      try clear hcz28_1
                                      try clear hcz28_2
                                      try clear hcz28_3
                                      try clear hcz38_0
                                      try clear hcz38_1
                                      try clear hcz38_2
                                      try clear hcz38_3
                                      try clear hcz47_0
                                      try clear hcz47_1
                                      try clear hcz47_2
                                      try clear hcz47_3
                                      try clear hcz57_0
                                      try clear hcz57_1
                                      try clear hcz57_2
                                      try clear hcz57_3
                                      try clear hcz66_0
                                      try clear hcz66_1
                                      try clear hcz66_2
                                      try clear hcz66_3
                                      try clear hfz25_0
                                      try clear hfz25_1
                                      try clear hfz25_2
                                      try clear hfz25_3
                                      try clear hfz28_0
                                      try clear hfz28_1
                                      try clear hfz28_2
                                      try clear hfz28_3
                                      try clear hfz38_0
                                      try clear hfz38_1
                                      try clear hfz38_2
                                      try clear hfz38_3
                                      try clear hfz47_0
                                      try clear hfz47_1
                                      try clear hfz47_2
                                      try clear hfz47_3
                                      try clear hfz57_0
                                      try clear hfz57_1
                                      try clear hfz57_2
                                      try clear hfz57_3
                                      try clear hfz66_0
                                      try clear hfz66_1
                                      try clear hfz66_2
                                      try clear hfz66_3
                                      try clear hx940_0
                                      try clear hx940_1
                                      try clear hx940_2
                                      try clear hx940_3
                                      try clear hx943_0
                                      try clear hx945_0
                                      try clear hx947_0
                                      try clear p2
                                      try clear p9
                                      try clear p940
                                      try clear p943
                                      try clear p945
                                      try clear p947
                                      try clear q9
                                      try clear q940
                                      try clear q943
                                      try clear q945
                                      try clear q947
                                      obtain ⟨kq, x75_68, rfl, HA, HJ68, HO_3, BK941, HB⟩ := hcut
                                      cases kq with
                                      | zero => exact absurd HA.out (by simp [gemotlaw1_made_p.j3])
                                      | succ kj68 =>
                                        have H := HA.out
                                        clear HA
                                        simp only [gemotlaw1_made_p.j3] at H
                                        by_cases c71 : x75_68 = true
                                        · subst c71
                                          have H1 : ((term_Pair.f (rdOf ByteArray.empty x3_1 t942) (rdOf ByteArray.empty x3_1 t944)).bind fun bt976 => (if bt976.2 = 0 then (if (bt976.1.size : Int) > 600 then ((gemotlaw1_name.f ((rd_T169 l0 x4_1).f2)).bind fun t978 => (if x3_1.length < 8796093022208 then (gemotlaw1_made_p.l0 kj68 l0 (x3_1 ++ [t978]) (wrap64 (x4_1 + 1))) else (none))) else (if x3_1.length < 8796093022208 then (gemotlaw1_made_p.l0 kj68 l0 (x3_1 ++ [bt976.1]) (wrap64 (x4_1 + 1))) else (none))) else ((gemotlaw1_name.f ((rd_T169 l0 x4_1).f2)).bind fun t985 => (if x3_1.length < 8796093022208 then (gemotlaw1_made_p.l0 kj68 l0 (x3_1 ++ [t985]) (wrap64 (x4_1 + 1))) else (none))))) = some r := by rw [if_pos rfl] at H; exact H
                                          clear H
                                          have H := H1
                                          clear H1
                                          replace H := Option.bind_eq_some_iff.mp H
                                          obtain ⟨⟨t976, t977⟩, A720, H⟩ := H
                                          replace H : (if t977 = 0 then (if (t976.size : Int) > 600 then ((gemotlaw1_name.f ((rd_T169 l0 x4_1).f2)).bind fun t978 => (if x3_1.length < 8796093022208 then (gemotlaw1_made_p.l0 kj68 l0 (x3_1 ++ [t978]) (wrap64 (x4_1 + 1))) else (none))) else (if x3_1.length < 8796093022208 then (gemotlaw1_made_p.l0 kj68 l0 (x3_1 ++ [t976]) (wrap64 (x4_1 + 1))) else (none))) else ((gemotlaw1_name.f ((rd_T169 l0 x4_1).f2)).bind fun t985 => (if x3_1.length < 8796093022208 then (gemotlaw1_made_p.l0 kj68 l0 (x3_1 ++ [t985]) (wrap64 (x4_1 + 1))) else (none)))) = some r := H
                                          have A72 := Aside0.mk A720
                                          clear A720
                                          by_cases c73 : t977 = 0
                                          · rw [if_pos c73] at H
                                            have c73b0 : (t977 == 0) = true := beq_iff_eq.mpr c73
                                            have c73b1 : (t977 != 0) = false := bne_eq_false_iff_eq.mpr c73
                                            clear c73
                                            by_cases c74 : (t976.size : Int) > 600
                                            · rw [if_pos c74] at H
                                              have c74b0 : decide (600 < (t976.size : Int)) = true := decide_eq_true c74
                                              have c74b1 : decide (600 < t976.size) = true := decide_eq_true (by omega)
                                              clear c74
                                              replace H := Option.bind_eq_some_iff.mp H
                                              obtain ⟨t978, A750, H⟩ := H
                                              replace H : (if x3_1.length < 8796093022208 then (gemotlaw1_made_p.l0 kj68 l0 (x3_1 ++ [t978]) (wrap64 (x4_1 + 1))) else (none)) = some r := H
                                              have A75 := Aside0.mk A750
                                              clear A750
                                              by_cases c76 : x3_1.length < 8796093022208
                                              · rw [if_pos c76] at H
                                                have LMc76 := Aside0.mk c76
                                                clear c76
                                                obtain ⟨y979, hy979⟩ : ∃ y_ : List ByteArray, y_ = (x3_1 ++ [t978]) := ⟨_, rfl⟩
                                                replace H : (gemotlaw1_made_p.l0 kj68 l0 y979 (wrap64 (x4_1 + 1))) = some r := by first | (rw [hy979]; with_reducible exact H) | (have H2_ := (Option.bind_some _ _).symm.trans H; rw [hy979]; with_reducible exact H2_) | (have H2_ := (Option.bind_some _ _).symm.trans H; with_reducible exact H2_) | with_reducible exact H | (rw [hy979]; exact H) | exact H
                                                have Ny979 := Aside0.mk hy979
                                                clear hy979
                                                have H' := Aside0.mk H
                                                clear H
                                                go_wp2_with (first | ((with_reducible refine gate_callee (f := 92) rfl ?_); refine goesL_ (some 81) rfl rfl Try.func92 (by kernel_rfl) rfl #[.string (rdOf ByteArray.empty x3_1 t942), .string (rdOf ByteArray.empty x3_1 t944)] rfl (by (try simp only [List.map_toArray, List.map_cons, List.map_nil]); first | done | rfl | (simp only [List.length_drop, List.length_take]; rfl)) ?_; (with_reducible refine (term_Pair.calls (rdOf ByteArray.empty x3_1 t942) (rdOf ByteArray.empty x3_1 t944) t976 t977 _ A72.out).mono ?_); rintro e w77 ⟨rfl, hb⟩; refine ⟨_, rfl, ?_⟩; have n0_ := Aside0.mk (Kd.R_below (by (with_reducible repeat (first | apply Kd.R_alloc | apply Kd.R_drewN | apply Kd.R_drew)); exact HO_3.out) hb); have n1_ := Aside0.mk (blk_below (g := gb941) (o := .cells #[.int .i64 ((rd_T169 l0 x4_1).f0), .int .i64 ((rd_T169 l0 x4_1).f1), .int .i64 ((rd_T169 l0 x4_1).f2), .int .i64 ((rd_T169 l0 x4_1).f3)] 169 (0, 0)) (by (with_reducible repeat (first | refine blk_drewN ?_ _ | refine blk_drew ?_ | refine blk_alloc ?_ _)); exact BK941.out) hb); have n2_ := Aside0.mk (below_step (by repeat (first | (with_reducible first | exact HB.out | apply below_alloc | apply pw_below_drewN | apply below_drew1 | refine below_set ?_ GE941.out) | exact HB.out)) hb); clear HO_3; clear BK941; clear HB; have HO_3 := n0_; have BK941 := n1_; have HB := n2_; clear n0_ n1_ n2_; (try clear hb); (try clear hb2); (try clear hk); (try clear hi); have hcz78_0 : w77.cell? ⟨gb941, 0, none⟩ = some (.int .i64 ((rd_T169 l0 x4_1).f0)) := (blk_cell BK941.out 0).trans rfl; have hcz78_1 : w77.cell? ⟨gb941, 1, none⟩ = some (.int .i64 ((rd_T169 l0 x4_1).f1)) := (blk_cell BK941.out 1).trans rfl; have hcz78_2 : w77.cell? ⟨gb941, 2, none⟩ = some (.int .i64 ((rd_T169 l0 x4_1).f2)) := (blk_cell BK941.out 2).trans rfl; have hcz78_3 : w77.cell? ⟨gb941, 3, none⟩ = some (.int .i64 ((rd_T169 l0 x4_1).f3)) := (blk_cell BK941.out 3).trans rfl; have hfz78_0 := blk_frozen BK941.out 0; have hfz78_1 := blk_frozen BK941.out 1; have hfz78_2 := blk_frozen BK941.out 2; have hfz78_3 := blk_frozen BK941.out 3) | ((with_reducible refine gate_callee (f := 142) rfl ?_); refine goesL_ (some 117) rfl rfl Try.func142 (by kernel_rfl) rfl #[.int .i64 ((rd_T169 l0 x4_1).f2)] rfl (by (try simp only [List.map_toArray, List.map_cons, List.map_nil]); first | done | rfl | (simp only [List.length_drop, List.length_take]; rfl)) ?_; (with_reducible refine (gemotlaw1_name.calls ((rd_T169 l0 x4_1).f2) t978 _ A75.out).mono ?_); rintro e w79 ⟨rfl, hb⟩; refine ⟨_, rfl, ?_⟩; have n0_ := Aside0.mk (Kd.R_below (by (with_reducible repeat (first | apply Kd.R_alloc | apply Kd.R_drewN | apply Kd.R_drew)); exact HO_3.out) hb); have n1_ := Aside0.mk (blk_below (g := gb941) (o := .cells #[.int .i64 ((rd_T169 l0 x4_1).f0), .int .i64 ((rd_T169 l0 x4_1).f1), .int .i64 ((rd_T169 l0 x4_1).f2), .int .i64 ((rd_T169 l0 x4_1).f3)] 169 (0, 0)) (by (with_reducible repeat (first | refine blk_drewN ?_ _ | refine blk_drew ?_ | refine blk_alloc ?_ _)); exact BK941.out) hb); have n2_ := Aside0.mk (below_step (by repeat (first | (with_reducible first | exact HB.out | apply below_alloc | apply pw_below_drewN | apply below_drew1 | refine below_set ?_ GE941.out) | exact HB.out)) hb); clear HO_3; clear BK941; clear HB; have HO_3 := n0_; have BK941 := n1_; have HB := n2_; clear n0_ n1_ n2_; (try clear hb); (try clear hb2); (try clear hk); (try clear hi)) | ((with_reducible refine gate_builtin (b := .append) (xs := #[.tmp 118, .tmp 120]) rfl ?_); (try (refine gate_guard (by rfl) ?_; dsimp only)); at_builtin; refine Kd.R_append Kd.string (w0 := w) w.heap.size rfl (.tmp 118) (.tmp 120) 37 23 (.string ⟨#[]⟩) 16 rfl Try.underlying37 info23 rfl (by decide) (by omega) (.slice (some ad943) x3_1.length co26) x3_1 t978 [.string t978] (fun _ => True) (fun _ => False) rfl rfl ?aP (fun _ hk => hk.elim) ?aF ?aO ?aB ?aS ?aL ?_; (case aP => exact rfl); (case aB => exact (by repeat (first | (with_reducible first | exact HB.out | apply below_alloc | apply pw_below_drewN | apply below_drew1 | refine below_set ?_ GE941.out) | exact HB.out))); (case aF => exact (fun _ _ => trivial)); (case aO => exact (by (with_reducible repeat (first | apply Kd.R_alloc | apply Kd.R_drewN | apply Kd.R_drew)); exact HO_3.out)); (case aS => exact (below_size (by repeat (first | (with_reducible first | exact HB.out | apply below_alloc | apply pw_below_drewN | apply below_drew1 | refine below_set ?_ GE941.out) | exact HB.out)))); (case aL => have := LMc76.out; omega); intro v980 w80 ho hb hg hat; rw [← Ny979.out] at ho; have n0_ := Aside0.mk (blk_grown (g := gb941) (o := .cells #[.int .i64 ((rd_T169 l0 x4_1).f0), .int .i64 ((rd_T169 l0 x4_1).f1), .int .i64 ((rd_T169 l0 x4_1).f2), .int .i64 ((rd_T169 l0 x4_1).f3)] 169 (0, 0)) (by (with_reducible repeat (first | refine blk_drewN ?_ _ | refine blk_drew ?_ | refine blk_alloc ?_ _)); exact BK941.out) hg (Kd.R_ne HO_3.out BK941.out (by decide))); have n1_ := Aside0.mk (hb); have n2_ := Aside0.mk (ho); clear BK941; clear HB; clear HO_3; have BK941 := n0_; have HB := n1_; have HO981 := n2_; clear n0_ n1_ n2_; clear ho hb hg hat))
                                                go_roundg kj68
                                                case measure => have := HK1.out; have := HJ6.out; have := HJ22.out; have := HJ68.out; omega
                                                case rel => exact ⟨(y979), (wrap64 (x4_1 + 1)), (by first | rfl | (simp; done) | (simp [*]; done)), H', ⟨by have := HK1.out; have := HJ6.out; have := HJ22.out; have := HJ68.out; omega⟩, ⟨by (with_reducible repeat (first | apply Kd.R_alloc | apply Kd.R_drewN | apply Kd.R_drew)); exact HO981.out⟩, ⟨by repeat (first | (with_reducible first | exact HB.out | apply below_alloc | apply pw_below_drewN | apply below_drew1 | refine below_set ?_ GE941.out) | exact HB.out)⟩⟩
                                              · rw [if_neg c76] at H
                                                exact absurd H (by simp)
                                            · rw [if_neg c74] at H
                                              have c74b0 : decide (600 < (t976.size : Int)) = false := decide_eq_false c74
                                              have c74b1 : decide (600 < t976.size) = false := decide_eq_false (by omega)
                                              clear c74
                                              by_cases c81 : x3_1.length < 8796093022208
                                              · rw [if_pos c81] at H
                                                have LMc81 := Aside0.mk c81
                                                clear c81
                                                obtain ⟨y982, hy982⟩ : ∃ y_ : List ByteArray, y_ = (x3_1 ++ [t976]) := ⟨_, rfl⟩
                                                replace H : (gemotlaw1_made_p.l0 kj68 l0 y982 (wrap64 (x4_1 + 1))) = some r := by first | (rw [hy982]; with_reducible exact H) | (have H2_ := (Option.bind_some _ _).symm.trans H; rw [hy982]; with_reducible exact H2_) | (have H2_ := (Option.bind_some _ _).symm.trans H; with_reducible exact H2_) | with_reducible exact H | (rw [hy982]; exact H) | exact H
                                                have Ny982 := Aside0.mk hy982
                                                clear hy982
                                                have H' := Aside0.mk H
                                                clear H
                                                go_wp2_with (first | ((with_reducible refine gate_callee (f := 92) rfl ?_); refine goesL_ (some 81) rfl rfl Try.func92 (by kernel_rfl) rfl #[.string (rdOf ByteArray.empty x3_1 t942), .string (rdOf ByteArray.empty x3_1 t944)] rfl (by (try simp only [List.map_toArray, List.map_cons, List.map_nil]); first | done | rfl | (simp only [List.length_drop, List.length_take]; rfl)) ?_; (with_reducible refine (term_Pair.calls (rdOf ByteArray.empty x3_1 t942) (rdOf ByteArray.empty x3_1 t944) t976 t977 _ A72.out).mono ?_); rintro e w82 ⟨rfl, hb⟩; refine ⟨_, rfl, ?_⟩; have n0_ := Aside0.mk (Kd.R_below (by (with_reducible repeat (first | apply Kd.R_alloc | apply Kd.R_drewN | apply Kd.R_drew)); exact HO_3.out) hb); have n1_ := Aside0.mk (blk_below (g := gb941) (o := .cells #[.int .i64 ((rd_T169 l0 x4_1).f0), .int .i64 ((rd_T169 l0 x4_1).f1), .int .i64 ((rd_T169 l0 x4_1).f2), .int .i64 ((rd_T169 l0 x4_1).f3)] 169 (0, 0)) (by (with_reducible repeat (first | refine blk_drewN ?_ _ | refine blk_drew ?_ | refine blk_alloc ?_ _)); exact BK941.out) hb); have n2_ := Aside0.mk (below_step (by repeat (first | (with_reducible first | exact HB.out | apply below_alloc | apply pw_below_drewN | apply below_drew1 | refine below_set ?_ GE941.out) | exact HB.out)) hb); clear HO_3; clear BK941; clear HB; have HO_3 := n0_; have BK941 := n1_; have HB := n2_; clear n0_ n1_ n2_; (try clear hb); (try clear hb2); (try clear hk); (try clear hi)) | ((with_reducible refine gate_builtin (b := .append) (xs := #[.tmp 118, .tmp 120]) rfl ?_); (try (refine gate_guard (by rfl) ?_; dsimp only)); at_builtin; refine Kd.R_append Kd.string (w0 := w) w.heap.size rfl (.tmp 118) (.tmp 120) 37 23 (.string ⟨#[]⟩) 16 rfl Try.underlying37 info23 rfl (by decide) (by omega) (.slice (some ad943) x3_1.length co26) x3_1 t976 [.string t976] (fun _ => True) (fun _ => False) rfl rfl ?aP (fun _ hk => hk.elim) ?aF ?aO ?aB ?aS ?aL ?_; (case aP => exact rfl); (case aB => exact (by repeat (first | (with_reducible first | exact HB.out | apply below_alloc | apply pw_below_drewN | apply below_drew1 | refine below_set ?_ GE941.out) | exact HB.out))); (case aF => exact (fun _ _ => trivial)); (case aO => exact (by (with_reducible repeat (first | apply Kd.R_alloc | apply Kd.R_drewN | apply Kd.R_drew)); exact HO_3.out)); (case aS => exact (below_size (by repeat (first | (with_reducible first | exact HB.out | apply below_alloc | apply pw_below_drewN | apply below_drew1 | refine below_set ?_ GE941.out) | exact HB.out)))); (case aL => have := LMc81.out; omega); intro v983 w83 ho hb hg hat; rw [← Ny982.out] at ho; have n0_ := Aside0.mk (blk_grown (g := gb941) (o := .cells #[.int .i64 ((rd_T169 l0 x4_1).f0), .int .i64 ((rd_T169 l0 x4_1).f1), .int .i64 ((rd_T169 l0 x4_1).f2), .int .i64 ((rd_T169 l0 x4_1).f3)] 169 (0, 0)) (by (with_reducible repeat (first | refine blk_drewN ?_ _ | refine blk_drew ?_ | refine blk_alloc ?_ _)); exact BK941.out) hg (Kd.R_ne HO_3.out BK941.out (by decide))); have n1_ := Aside0.mk (hb); have n2_ := Aside0.mk (ho); clear BK941; clear HB; clear HO_3; have BK941 := n0_; have HB := n1_; have HO984 := n2_; clear n0_ n1_ n2_; clear ho hb hg hat))
                                                go_roundg kj68
                                                case measure => have := HK1.out; have := HJ6.out; have := HJ22.out; have := HJ68.out; omega
                                                case rel => exact ⟨(y982), (wrap64 (x4_1 + 1)), (by first | rfl | (simp; done) | (simp [*]; done)), H', ⟨by have := HK1.out; have := HJ6.out; have := HJ22.out; have := HJ68.out; omega⟩, ⟨by (with_reducible repeat (first | apply Kd.R_alloc | apply Kd.R_drewN | apply Kd.R_drew)); exact HO984.out⟩, ⟨by repeat (first | (with_reducible first | exact HB.out | apply below_alloc | apply pw_below_drewN | apply below_drew1 | refine below_set ?_ GE941.out) | exact HB.out)⟩⟩
                                              · rw [if_neg c81] at H
                                                exact absurd H (by simp)
                                          · rw [if_neg c73] at H
                                            have c73b0 : (t977 == 0) = false := beq_eq_false_iff_ne.mpr c73
                                            have c73b1 : (t977 != 0) = true := bne_iff_ne.mpr c73
                                            replace H := Option.bind_eq_some_iff.mp H
                                            obtain ⟨t985, A840, H⟩ := H
                                            replace H : (if x3_1.length < 8796093022208 then (gemotlaw1_made_p.l0 kj68 l0 (x3_1 ++ [t985]) (wrap64 (x4_1 + 1))) else (none)) = some r := H
                                            have A84 := Aside0.mk A840
                                            clear A840
                                            by_cases c85 : x3_1.length < 8796093022208
                                            · rw [if_pos c85] at H
                                              have LMc85 := Aside0.mk c85
                                              clear c85
                                              obtain ⟨y986, hy986⟩ : ∃ y_ : List ByteArray, y_ = (x3_1 ++ [t985]) := ⟨_, rfl⟩
                                              replace H : (gemotlaw1_made_p.l0 kj68 l0 y986 (wrap64 (x4_1 + 1))) = some r := by first | (rw [hy986]; with_reducible exact H) | (have H2_ := (Option.bind_some _ _).symm.trans H; rw [hy986]; with_reducible exact H2_) | (have H2_ := (Option.bind_some _ _).symm.trans H; with_reducible exact H2_) | with_reducible exact H | (rw [hy986]; exact H) | exact H
                                              have Ny986 := Aside0.mk hy986
                                              clear hy986
                                              have H' := Aside0.mk H
                                              clear H
                                              go_wp2_with (first | ((with_reducible refine gate_callee (f := 92) rfl ?_); refine goesL_ (some 81) rfl rfl Try.func92 (by kernel_rfl) rfl #[.string (rdOf ByteArray.empty x3_1 t942), .string (rdOf ByteArray.empty x3_1 t944)] rfl (by (try simp only [List.map_toArray, List.map_cons, List.map_nil]); first | done | rfl | (simp only [List.length_drop, List.length_take]; rfl)) ?_; (with_reducible refine (term_Pair.calls (rdOf ByteArray.empty x3_1 t942) (rdOf ByteArray.empty x3_1 t944) t976 t977 _ A72.out).mono ?_); rintro e w86 ⟨rfl, hb⟩; refine ⟨_, rfl, ?_⟩; have n0_ := Aside0.mk (Kd.R_below (by (with_reducible repeat (first | apply Kd.R_alloc | apply Kd.R_drewN | apply Kd.R_drew)); exact HO_3.out) hb); have n1_ := Aside0.mk (blk_below (g := gb941) (o := .cells #[.int .i64 ((rd_T169 l0 x4_1).f0), .int .i64 ((rd_T169 l0 x4_1).f1), .int .i64 ((rd_T169 l0 x4_1).f2), .int .i64 ((rd_T169 l0 x4_1).f3)] 169 (0, 0)) (by (with_reducible repeat (first | refine blk_drewN ?_ _ | refine blk_drew ?_ | refine blk_alloc ?_ _)); exact BK941.out) hb); have n2_ := Aside0.mk (below_step (by repeat (first | (with_reducible first | exact HB.out | apply below_alloc | apply pw_below_drewN | apply below_drew1 | refine below_set ?_ GE941.out) | exact HB.out)) hb); clear HO_3; clear BK941; clear HB; have HO_3 := n0_; have BK941 := n1_; have HB := n2_; clear n0_ n1_ n2_; (try clear hb); (try clear hb2); (try clear hk); (try clear hi); have hcz87_0 : w86.cell? ⟨gb941, 0, none⟩ = some (.int .i64 ((rd_T169 l0 x4_1).f0)) := (blk_cell BK941.out 0).trans rfl; have hcz87_1 : w86.cell? ⟨gb941, 1, none⟩ = some (.int .i64 ((rd_T169 l0 x4_1).f1)) := (blk_cell BK941.out 1).trans rfl; have hcz87_2 : w86.cell? ⟨gb941, 2, none⟩ = some (.int .i64 ((rd_T169 l0 x4_1).f2)) := (blk_cell BK941.out 2).trans rfl; have hcz87_3 : w86.cell? ⟨gb941, 3, none⟩ = some (.int .i64 ((rd_T169 l0 x4_1).f3)) := (blk_cell BK941.out 3).trans rfl; have hfz87_0 := blk_frozen BK941.out 0; have hfz87_1 := blk_frozen BK941.out 1; have hfz87_2 := blk_frozen BK941.out 2; have hfz87_3 := blk_frozen BK941.out 3) | ((with_reducible refine gate_callee (f := 142) rfl ?_); refine goesL_ (some 117) rfl rfl Try.func142 (by kernel_rfl) rfl #[.int .i64 ((rd_T169 l0 x4_1).f2)] rfl (by (try simp only [List.map_toArray, List.map_cons, List.map_nil]); first | done | rfl | (simp only [List.length_drop, List.length_take]; rfl)) ?_; (with_reducible refine (gemotlaw1_name.calls ((rd_T169 l0 x4_1).f2) t985 _ A84.out).mono ?_); rintro e w88 ⟨rfl, hb⟩; refine ⟨_, rfl, ?_⟩; have n0_ := Aside0.mk (Kd.R_below (by (with_reducible repeat (first | apply Kd.R_alloc | apply Kd.R_drewN | apply Kd.R_drew)); exact HO_3.out) hb); have n1_ := Aside0.mk (blk_below (g := gb941) (o := .cells #[.int .i64 ((rd_T169 l0 x4_1).f0), .int .i64 ((rd_T169 l0 x4_1).f1), .int .i64 ((rd_T169 l0 x4_1).f2), .int .i64 ((rd_T169 l0 x4_1).f3)] 169 (0, 0)) (by (with_reducible repeat (first | refine blk_drewN ?_ _ | refine blk_drew ?_ | refine blk_alloc ?_ _)); exact BK941.out) hb); have n2_ := Aside0.mk (below_step (by repeat (first | (with_reducible first | exact HB.out | apply below_alloc | apply pw_below_drewN | apply below_drew1 | refine below_set ?_ GE941.out) | exact HB.out)) hb); clear HO_3; clear BK941; clear HB; have HO_3 := n0_; have BK941 := n1_; have HB := n2_; clear n0_ n1_ n2_; (try clear hb); (try clear hb2); (try clear hk); (try clear hi)) | ((with_reducible refine gate_builtin (b := .append) (xs := #[.tmp 118, .tmp 120]) rfl ?_); (try (refine gate_guard (by rfl) ?_; dsimp only)); at_builtin; refine Kd.R_append Kd.string (w0 := w) w.heap.size rfl (.tmp 118) (.tmp 120) 37 23 (.string ⟨#[]⟩) 16 rfl Try.underlying37 info23 rfl (by decide) (by omega) (.slice (some ad943) x3_1.length co26) x3_1 t985 [.string t985] (fun _ => True) (fun _ => False) rfl rfl ?aP (fun _ hk => hk.elim) ?aF ?aO ?aB ?aS ?aL ?_; (case aP => exact rfl); (case aB => exact (by repeat (first | (with_reducible first | exact HB.out | apply below_alloc | apply pw_below_drewN | apply below_drew1 | refine below_set ?_ GE941.out) | exact HB.out))); (case aF => exact (fun _ _ => trivial)); (case aO => exact (by (with_reducible repeat (first | apply Kd.R_alloc | apply Kd.R_drewN | apply Kd.R_drew)); exact HO_3.out)); (case aS => exact (below_size (by repeat (first | (with_reducible first | exact HB.out | apply below_alloc | apply pw_below_drewN | apply below_drew1 | refine below_set ?_ GE941.out) | exact HB.out)))); (case aL => have := LMc85.out; omega); intro v987 w89 ho hb hg hat; rw [← Ny986.out] at ho; have n0_ := Aside0.mk (blk_grown (g := gb941) (o := .cells #[.int .i64 ((rd_T169 l0 x4_1).f0), .int .i64 ((rd_T169 l0 x4_1).f1), .int .i64 ((rd_T169 l0 x4_1).f2), .int .i64 ((rd_T169 l0 x4_1).f3)] 169 (0, 0)) (by (with_reducible repeat (first | refine blk_drewN ?_ _ | refine blk_drew ?_ | refine blk_alloc ?_ _)); exact BK941.out) hg (Kd.R_ne HO_3.out BK941.out (by decide))); have n1_ := Aside0.mk (hb); have n2_ := Aside0.mk (ho); clear BK941; clear HB; clear HO_3; have BK941 := n0_; have HB := n1_; have HO988 := n2_; clear n0_ n1_ n2_; clear ho hb hg hat))
                                              go_roundg kj68
                                              case measure => have := HK1.out; have := HJ6.out; have := HJ22.out; have := HJ68.out; omega
                                              case rel => exact ⟨(y986), (wrap64 (x4_1 + 1)), (by first | rfl | (simp; done) | (simp [*]; done)), H', ⟨by have := HK1.out; have := HJ6.out; have := HJ22.out; have := HJ68.out; omega⟩, ⟨by (with_reducible repeat (first | apply Kd.R_alloc | apply Kd.R_drewN | apply Kd.R_drew)); exact HO988.out⟩, ⟨by repeat (first | (with_reducible first | exact HB.out | apply below_alloc | apply pw_below_drewN | apply below_drew1 | refine below_set ?_ GE941.out) | exact HB.out)⟩⟩
                                            · rw [if_neg c85] at H
                                              exact absurd H (by simp)
                                        · replace c71 := Bool.eq_false_iff.mpr c71
                                          subst c71
                                          have H1 : (if t949 = 7 then ((term_Hash.f (rdOf ByteArray.empty x3_1 t942)).bind fun bt989 => (if bt989.2 = 0 then (if (bt989.1.size : Int) > 600 then ((gemotlaw1_name.f ((rd_T169 l0 x4_1).f2)).bind fun t991 => (if x3_1.length < 8796093022208 then (gemotlaw1_made_p.l0 kj68 l0 (x3_1 ++ [t991]) (wrap64 (x4_1 + 1))) else (none))) else (if x3_1.length < 8796093022208 then (gemotlaw1_made_p.l0 kj68 l0 (x3_1 ++ [bt989.1]) (wrap64 (x4_1 + 1))) else (none))) else ((gemotlaw1_name.f ((rd_T169 l0 x4_1).f2)).bind fun t998 => (if x3_1.length < 8796093022208 then (gemotlaw1_made_p.l0 kj68 l0 (x3_1 ++ [t998]) (wrap64 (x4_1 + 1))) else (none))))) else (if t949 = 8 then ((term_Seal.f (rdOf ByteArray.empty x3_1 t942) (rdOf ByteArray.empty x3_1 t944) (rdOf ByteArray.empty x3_1 t946)).bind fun bt1002 => (if bt1002.2 = 0 then (if (bt1002.1.size : Int) > 600 then ((gemotlaw1_name.f ((rd_T169 l0 x4_1).f2)).bind fun t1004 => (if x3_1.length < 8796093022208 then (gemotlaw1_made_p.l0 kj68 l0 (x3_1 ++ [t1004]) (wrap64 (x4_1 + 1))) else (none))) else (if x3_1.length < 8796093022208 then (gemotlaw1_made_p.l0 kj68 l0 (x3_1 ++ [bt1002.1]) (wrap64 (x4_1 + 1))) else (none))) else ((gemotlaw1_name.f ((rd_T169 l0 x4_1).f2)).bind fun t1011 => (if x3_1.length < 8796093022208 then (gemotlaw1_made_p.l0 kj68 l0 (x3_1 ++ [t1011]) (wrap64 (x4_1 + 1))) else (none))))) else (if t949 = 9 then ((term_Sign.f (rdOf ByteArray.empty x3_1 t942) (rdOf ByteArray.empty x3_1 t944)).bind fun bt1015 => (if bt1015.2 = 0 then (if (bt1015.1.size : Int) > 600 then ((gemotlaw1_name.f ((rd_T169 l0 x4_1).f2)).bind fun t1017 => (if x3_1.length < 8796093022208 then (gemotlaw1_made_p.l0 kj68 l0 (x3_1 ++ [t1017]) (wrap64 (x4_1 + 1))) else (none))) else (if x3_1.length < 8796093022208 then (gemotlaw1_made_p.l0 kj68 l0 (x3_1 ++ [bt1015.1]) (wrap64 (x4_1 + 1))) else (none))) else ((gemotlaw1_name.f ((rd_T169 l0 x4_1).f2)).bind fun t1024 => (if x3_1.length < 8796093022208 then (gemotlaw1_made_p.l0 kj68 l0 (x3_1 ++ [t1024]) (wrap64 (x4_1 + 1))) else (none))))) else (if 0 = 0 then (if (t948.size : Int) > 600 then ((gemotlaw1_name.f ((rd_T169 l0 x4_1).f2)).bind fun t1028 => (if x3_1.length < 8796093022208 then (gemotlaw1_made_p.l0 kj68 l0 (x3_1 ++ [t1028]) (wrap64 (x4_1 + 1))) else (none))) else (if x3_1.length < 8796093022208 then (gemotlaw1_made_p.l0 kj68 l0 (x3_1 ++ [t948]) (wrap64 (x4_1 + 1))) else (none))) else ((gemotlaw1_name.f ((rd_T169 l0 x4_1).f2)).bind fun t1035 => (if x3_1.length < 8796093022208 then (gemotlaw1_made_p.l0 kj68 l0 (x3_1 ++ [t1035]) (wrap64 (x4_1 + 1))) else (none))))))) = some r := by rw [if_neg (show ¬ (false = true) by decide)] at H; exact H
                                          clear H
                                          have H := H1
                                          clear H1
                                          by_cases c90 : t949 = 7
                                          · rw [if_pos c90] at H
                                            have c90b0 : (t949 == 7) = true := beq_iff_eq.mpr c90
                                            have c90b1 : (t949 != 7) = false := bne_eq_false_iff_eq.mpr c90
                                            clear c90
                                            replace H := Option.bind_eq_some_iff.mp H
                                            obtain ⟨⟨t989, t990⟩, A910, H⟩ := H
                                            replace H : (if t990 = 0 then (if (t989.size : Int) > 600 then ((gemotlaw1_name.f ((rd_T169 l0 x4_1).f2)).bind fun t991 => (if x3_1.length < 8796093022208 then (gemotlaw1_made_p.l0 kj68 l0 (x3_1 ++ [t991]) (wrap64 (x4_1 + 1))) else (none))) else (if x3_1.length < 8796093022208 then (gemotlaw1_made_p.l0 kj68 l0 (x3_1 ++ [t989]) (wrap64 (x4_1 + 1))) else (none))) else ((gemotlaw1_name.f ((rd_T169 l0 x4_1).f2)).bind fun t998 => (if x3_1.length < 8796093022208 then (gemotlaw1_made_p.l0 kj68 l0 (x3_1 ++ [t998]) (wrap64 (x4_1 + 1))) else (none)))) = some r := H
                                            have A91 := Aside0.mk A910
                                            clear A910
                                            by_cases c92 : t990 = 0
                                            · rw [if_pos c92] at H
                                              have c92b0 : (t990 == 0) = true := beq_iff_eq.mpr c92
                                              have c92b1 : (t990 != 0) = false := bne_eq_false_iff_eq.mpr c92
                                              clear c92
                                              by_cases c93 : (t989.size : Int) > 600
                                              · rw [if_pos c93] at H
                                                have c93b0 : decide (600 < (t989.size : Int)) = true := decide_eq_true c93
                                                have c93b1 : decide (600 < t989.size) = true := decide_eq_true (by omega)
                                                clear c93
                                                replace H := Option.bind_eq_some_iff.mp H
                                                obtain ⟨t991, A940, H⟩ := H
                                                replace H : (if x3_1.length < 8796093022208 then (gemotlaw1_made_p.l0 kj68 l0 (x3_1 ++ [t991]) (wrap64 (x4_1 + 1))) else (none)) = some r := H
                                                have A94 := Aside0.mk A940
                                                clear A940
                                                by_cases c95 : x3_1.length < 8796093022208
                                                · rw [if_pos c95] at H
                                                  have LMc95 := Aside0.mk c95
                                                  clear c95
                                                  obtain ⟨y992, hy992⟩ : ∃ y_ : List ByteArray, y_ = (x3_1 ++ [t991]) := ⟨_, rfl⟩
                                                  replace H : (gemotlaw1_made_p.l0 kj68 l0 y992 (wrap64 (x4_1 + 1))) = some r := by first | (rw [hy992]; with_reducible exact H) | (have H2_ := (Option.bind_some _ _).symm.trans H; rw [hy992]; with_reducible exact H2_) | (have H2_ := (Option.bind_some _ _).symm.trans H; with_reducible exact H2_) | with_reducible exact H | (rw [hy992]; exact H) | exact H
                                                  have Ny992 := Aside0.mk hy992
                                                  clear hy992
                                                  have H' := Aside0.mk H
                                                  clear H
                                                  go_wp2_with (first | ((with_reducible refine gate_callee (f := 94) rfl ?_); refine goesL_ (some 88) rfl rfl Try.func94 (by kernel_rfl) rfl #[.string (rdOf ByteArray.empty x3_1 t942)] rfl (by (try simp only [List.map_toArray, List.map_cons, List.map_nil]); first | done | rfl | (simp only [List.length_drop, List.length_take]; rfl)) ?_; (with_reducible refine (term_Hash.calls (rdOf ByteArray.empty x3_1 t942) t989 t990 _ A91.out).mono ?_); rintro e w96 ⟨rfl, hb⟩; refine ⟨_, rfl, ?_⟩; have n0_ := Aside0.mk (Kd.R_below (by (with_reducible repeat (first | apply Kd.R_alloc | apply Kd.R_drewN | apply Kd.R_drew)); exact HO_3.out) hb); have n1_ := Aside0.mk (blk_below (g := gb941) (o := .cells #[.int .i64 ((rd_T169 l0 x4_1).f0), .int .i64 ((rd_T169 l0 x4_1).f1), .int .i64 ((rd_T169 l0 x4_1).f2), .int .i64 ((rd_T169 l0 x4_1).f3)] 169 (0, 0)) (by (with_reducible repeat (first | refine blk_drewN ?_ _ | refine blk_drew ?_ | refine blk_alloc ?_ _)); exact BK941.out) hb); have n2_ := Aside0.mk (below_step (by repeat (first | (with_reducible first | exact HB.out | apply below_alloc | apply pw_below_drewN | apply below_drew1 | refine below_set ?_ GE941.out) | exact HB.out)) hb); clear HO_3; clear BK941; clear HB; have HO_3 := n0_; have BK941 := n1_; have HB := n2_; clear n0_ n1_ n2_; (try clear hb); (try clear hb2); (try clear hk); (try clear hi); have hcz97_0 : w96.cell? ⟨gb941, 0, none⟩ = some (.int .i64 ((rd_T169 l0 x4_1).f0)) := (blk_cell BK941.out 0).trans rfl; have hcz97_1 : w96.cell? ⟨gb941, 1, none⟩ = some (.int .i64 ((rd_T169 l0 x4_1).f1)) := (blk_cell BK941.out 1).trans rfl; have hcz97_2 : w96.cell? ⟨gb941, 2, none⟩ = some (.int .i64 ((rd_T169 l0 x4_1).f2)) := (blk_cell BK941.out 2).trans rfl; have hcz97_3 : w96.cell? ⟨gb941, 3, none⟩ = some (.int .i64 ((rd_T169 l0 x4_1).f3)) := (blk_cell BK941.out 3).trans rfl; have hfz97_0 := blk_frozen BK941.out 0; have hfz97_1 := blk_frozen BK941.out 1; have hfz97_2 := blk_frozen BK941.out 2; have hfz97_3 := blk_frozen BK941.out 3) | ((with_reducible refine gate_callee (f := 142) rfl ?_); refine goesL_ (some 117) rfl rfl Try.func142 (by kernel_rfl) rfl #[.int .i64 ((rd_T169 l0 x4_1).f2)] rfl (by (try simp only [List.map_toArray, List.map_cons, List.map_nil]); first | done | rfl | (simp only [List.length_drop, List.length_take]; rfl)) ?_; (with_reducible refine (gemotlaw1_name.calls ((rd_T169 l0 x4_1).f2) t991 _ A94.out).mono ?_); rintro e w98 ⟨rfl, hb⟩; refine ⟨_, rfl, ?_⟩; have n0_ := Aside0.mk (Kd.R_below (by (with_reducible repeat (first | apply Kd.R_alloc | apply Kd.R_drewN | apply Kd.R_drew)); exact HO_3.out) hb); have n1_ := Aside0.mk (blk_below (g := gb941) (o := .cells #[.int .i64 ((rd_T169 l0 x4_1).f0), .int .i64 ((rd_T169 l0 x4_1).f1), .int .i64 ((rd_T169 l0 x4_1).f2), .int .i64 ((rd_T169 l0 x4_1).f3)] 169 (0, 0)) (by (with_reducible repeat (first | refine blk_drewN ?_ _ | refine blk_drew ?_ | refine blk_alloc ?_ _)); exact BK941.out) hb); have n2_ := Aside0.mk (below_step (by repeat (first | (with_reducible first | exact HB.out | apply below_alloc | apply pw_below_drewN | apply below_drew1 | refine below_set ?_ GE941.out) | exact HB.out)) hb); clear HO_3; clear BK941; clear HB; have HO_3 := n0_; have BK941 := n1_; have HB := n2_; clear n0_ n1_ n2_; (try clear hb); (try clear hb2); (try clear hk); (try clear hi)) | ((with_reducible refine gate_builtin (b := .append) (xs := #[.tmp 118, .tmp 120]) rfl ?_); (try (refine gate_guard (by rfl) ?_; dsimp only)); at_builtin; refine Kd.R_append Kd.string (w0 := w) w.heap.size rfl (.tmp 118) (.tmp 120) 37 23 (.string ⟨#[]⟩) 16 rfl Try.underlying37 info23 rfl (by decide) (by omega) (.slice (some ad943) x3_1.length co26) x3_1 t991 [.string t991] (fun _ => True) (fun _ => False) rfl rfl ?aP (fun _ hk => hk.elim) ?aF ?aO ?aB ?aS ?aL ?_; (case aP => exact rfl); (case aB => exact (by repeat (first | (with_reducible first | exact HB.out | apply below_alloc | apply pw_below_drewN | apply below_drew1 | refine below_set ?_ GE941.out) | exact HB.out))); (case aF => exact (fun _ _ => trivial)); (case aO => exact (by (with_reducible repeat (first | apply Kd.R_alloc | apply Kd.R_drewN | apply Kd.R_drew)); exact HO_3.out)); (case aS => exact (below_size (by repeat (first | (with_reducible first | exact HB.out | apply below_alloc | apply pw_below_drewN | apply below_drew1 | refine below_set ?_ GE941.out) | exact HB.out)))); (case aL => have := LMc95.out; omega); intro v993 w99 ho hb hg hat; rw [← Ny992.out] at ho; have n0_ := Aside0.mk (blk_grown (g := gb941) (o := .cells #[.int .i64 ((rd_T169 l0 x4_1).f0), .int .i64 ((rd_T169 l0 x4_1).f1), .int .i64 ((rd_T169 l0 x4_1).f2), .int .i64 ((rd_T169 l0 x4_1).f3)] 169 (0, 0)) (by (with_reducible repeat (first | refine blk_drewN ?_ _ | refine blk_drew ?_ | refine blk_alloc ?_ _)); exact BK941.out) hg (Kd.R_ne HO_3.out BK941.out (by decide))); have n1_ := Aside0.mk (hb); have n2_ := Aside0.mk (ho); clear BK941; clear HB; clear HO_3; have BK941 := n0_; have HB := n1_; have HO994 := n2_; clear n0_ n1_ n2_; clear ho hb hg hat))
                                                  go_roundg kj68
                                                  case measure => have := HK1.out; have := HJ6.out; have := HJ22.out; have := HJ68.out; omega
                                                  case rel => exact ⟨(y992), (wrap64 (x4_1 + 1)), (by first | rfl | (simp; done) | (simp [*]; done)), H', ⟨by have := HK1.out; have := HJ6.out; have := HJ22.out; have := HJ68.out; omega⟩, ⟨by (with_reducible repeat (first | apply Kd.R_alloc | apply Kd.R_drewN | apply Kd.R_drew)); exact HO994.out⟩, ⟨by repeat (first | (with_reducible first | exact HB.out | apply below_alloc | apply pw_below_drewN | apply below_drew1 | refine below_set ?_ GE941.out) | exact HB.out)⟩⟩
                                                · rw [if_neg c95] at H
                                                  exact absurd H (by simp)
                                              · rw [if_neg c93] at H
                                                have c93b0 : decide (600 < (t989.size : Int)) = false := decide_eq_false c93
                                                have c93b1 : decide (600 < t989.size) = false := decide_eq_false (by omega)
                                                clear c93
                                                by_cases c100 : x3_1.length < 8796093022208
                                                · rw [if_pos c100] at H
                                                  have LMc100 := Aside0.mk c100
                                                  clear c100
                                                  obtain ⟨y995, hy995⟩ : ∃ y_ : List ByteArray, y_ = (x3_1 ++ [t989]) := ⟨_, rfl⟩
                                                  replace H : (gemotlaw1_made_p.l0 kj68 l0 y995 (wrap64 (x4_1 + 1))) = some r := by first | (rw [hy995]; with_reducible exact H) | (have H2_ := (Option.bind_some _ _).symm.trans H; rw [hy995]; with_reducible exact H2_) | (have H2_ := (Option.bind_some _ _).symm.trans H; with_reducible exact H2_) | with_reducible exact H | (rw [hy995]; exact H) | exact H
                                                  have Ny995 := Aside0.mk hy995
                                                  clear hy995
                                                  have H' := Aside0.mk H
                                                  clear H
                                                  go_wp2_with (first | ((with_reducible refine gate_callee (f := 94) rfl ?_); refine goesL_ (some 88) rfl rfl Try.func94 (by kernel_rfl) rfl #[.string (rdOf ByteArray.empty x3_1 t942)] rfl (by (try simp only [List.map_toArray, List.map_cons, List.map_nil]); first | done | rfl | (simp only [List.length_drop, List.length_take]; rfl)) ?_; (with_reducible refine (term_Hash.calls (rdOf ByteArray.empty x3_1 t942) t989 t990 _ A91.out).mono ?_); rintro e w101 ⟨rfl, hb⟩; refine ⟨_, rfl, ?_⟩; have n0_ := Aside0.mk (Kd.R_below (by (with_reducible repeat (first | apply Kd.R_alloc | apply Kd.R_drewN | apply Kd.R_drew)); exact HO_3.out) hb); have n1_ := Aside0.mk (blk_below (g := gb941) (o := .cells #[.int .i64 ((rd_T169 l0 x4_1).f0), .int .i64 ((rd_T169 l0 x4_1).f1), .int .i64 ((rd_T169 l0 x4_1).f2), .int .i64 ((rd_T169 l0 x4_1).f3)] 169 (0, 0)) (by (with_reducible repeat (first | refine blk_drewN ?_ _ | refine blk_drew ?_ | refine blk_alloc ?_ _)); exact BK941.out) hb); have n2_ := Aside0.mk (below_step (by repeat (first | (with_reducible first | exact HB.out | apply below_alloc | apply pw_below_drewN | apply below_drew1 | refine below_set ?_ GE941.out) | exact HB.out)) hb); clear HO_3; clear BK941; clear HB; have HO_3 := n0_; have BK941 := n1_; have HB := n2_; clear n0_ n1_ n2_; (try clear hb); (try clear hb2); (try clear hk); (try clear hi)) | ((with_reducible refine gate_builtin (b := .append) (xs := #[.tmp 118, .tmp 120]) rfl ?_); (try (refine gate_guard (by rfl) ?_; dsimp only)); at_builtin; refine Kd.R_append Kd.string (w0 := w) w.heap.size rfl (.tmp 118) (.tmp 120) 37 23 (.string ⟨#[]⟩) 16 rfl Try.underlying37 info23 rfl (by decide) (by omega) (.slice (some ad943) x3_1.length co26) x3_1 t989 [.string t989] (fun _ => True) (fun _ => False) rfl rfl ?aP (fun _ hk => hk.elim) ?aF ?aO ?aB ?aS ?aL ?_; (case aP => exact rfl); (case aB => exact (by repeat (first | (with_reducible first | exact HB.out | apply below_alloc | apply pw_below_drewN | apply below_drew1 | refine below_set ?_ GE941.out) | exact HB.out))); (case aF => exact (fun _ _ => trivial)); (case aO => exact (by (with_reducible repeat (first | apply Kd.R_alloc | apply Kd.R_drewN | apply Kd.R_drew)); exact HO_3.out)); (case aS => exact (below_size (by repeat (first | (with_reducible first | exact HB.out | apply below_alloc | apply pw_below_drewN | apply below_drew1 | refine below_set ?_ GE941.out) | exact HB.out)))); (case aL => have := LMc100.out; omega); intro v996 w102 ho hb hg hat; rw [← Ny995.out] at ho; have n0_ := Aside0.mk (blk_grown (g := gb941) (o := .cells #[.int .i64 ((rd_T169 l0 x4_1).f0), .int .i64 ((rd_T169 l0 x4_1).f1), .int .i64 ((rd_T169 l0 x4_1).f2), .int .i64 ((rd_T169 l0 x4_1).f3)] 169 (0, 0)) (by (with_reducible repeat (first | refine blk_drewN ?_ _ | refine blk_drew ?_ | refine blk_alloc ?_ _)); exact BK941.out) hg (Kd.R_ne HO_3.out BK941.out (by decide))); have n1_ := Aside0.mk (hb); have n2_ := Aside0.mk (ho); clear BK941; clear HB; clear HO_3; have BK941 := n0_; have HB := n1_; have HO997 := n2_; clear n0_ n1_ n2_; clear ho hb hg hat))
                                                  go_roundg kj68
                                                  case measure => have := HK1.out; have := HJ6.out; have := HJ22.out; have := HJ68.out; omega
                                                  case rel => exact ⟨(y995), (wrap64 (x4_1 + 1)), (by first | rfl | (simp; done) | (simp [*]; done)), H', ⟨by have := HK1.out; have := HJ6.out; have := HJ22.out; have := HJ68.out; omega⟩, ⟨by (with_reducible repeat (first | apply Kd.R_alloc | apply Kd.R_drewN | apply Kd.R_drew)); exact HO997.out⟩, ⟨by repeat (first | (with_reducible first | exact HB.out | apply below_alloc | apply pw_below_drewN | apply below_drew1 | refine below_set ?_ GE941.out) | exact HB.out)⟩⟩
                                                · rw [if_neg c100] at H
                                                  exact absurd H (by simp)
                                            · rw [if_neg c92] at H
                                              have c92b0 : (t990 == 0) = false := beq_eq_false_iff_ne.mpr c92
                                              have c92b1 : (t990 != 0) = true := bne_iff_ne.mpr c92
                                              replace H := Option.bind_eq_some_iff.mp H
                                              obtain ⟨t998, A1030, H⟩ := H
                                              replace H : (if x3_1.length < 8796093022208 then (gemotlaw1_made_p.l0 kj68 l0 (x3_1 ++ [t998]) (wrap64 (x4_1 + 1))) else (none)) = some r := H
                                              have A103 := Aside0.mk A1030
                                              clear A1030
                                              by_cases c104 : x3_1.length < 8796093022208
                                              · rw [if_pos c104] at H
                                                have LMc104 := Aside0.mk c104
                                                clear c104
                                                obtain ⟨y999, hy999⟩ : ∃ y_ : List ByteArray, y_ = (x3_1 ++ [t998]) := ⟨_, rfl⟩
                                                replace H : (gemotlaw1_made_p.l0 kj68 l0 y999 (wrap64 (x4_1 + 1))) = some r := by first | (rw [hy999]; with_reducible exact H) | (have H2_ := (Option.bind_some _ _).symm.trans H; rw [hy999]; with_reducible exact H2_) | (have H2_ := (Option.bind_some _ _).symm.trans H; with_reducible exact H2_) | with_reducible exact H | (rw [hy999]; exact H) | exact H
                                                have Ny999 := Aside0.mk hy999
                                                clear hy999
                                                have H' := Aside0.mk H
                                                clear H
                                                go_wp2_with (first | ((with_reducible refine gate_callee (f := 94) rfl ?_); refine goesL_ (some 88) rfl rfl Try.func94 (by kernel_rfl) rfl #[.string (rdOf ByteArray.empty x3_1 t942)] rfl (by (try simp only [List.map_toArray, List.map_cons, List.map_nil]); first | done | rfl | (simp only [List.length_drop, List.length_take]; rfl)) ?_; (with_reducible refine (term_Hash.calls (rdOf ByteArray.empty x3_1 t942) t989 t990 _ A91.out).mono ?_); rintro e w105 ⟨rfl, hb⟩; refine ⟨_, rfl, ?_⟩; have n0_ := Aside0.mk (Kd.R_below (by (with_reducible repeat (first | apply Kd.R_alloc | apply Kd.R_drewN | apply Kd.R_drew)); exact HO_3.out) hb); have n1_ := Aside0.mk (blk_below (g := gb941) (o := .cells #[.int .i64 ((rd_T169 l0 x4_1).f0), .int .i64 ((rd_T169 l0 x4_1).f1), .int .i64 ((rd_T169 l0 x4_1).f2), .int .i64 ((rd_T169 l0 x4_1).f3)] 169 (0, 0)) (by (with_reducible repeat (first | refine blk_drewN ?_ _ | refine blk_drew ?_ | refine blk_alloc ?_ _)); exact BK941.out) hb); have n2_ := Aside0.mk (below_step (by repeat (first | (with_reducible first | exact HB.out | apply below_alloc | apply pw_below_drewN | apply below_drew1 | refine below_set ?_ GE941.out) | exact HB.out)) hb); clear HO_3; clear BK941; clear HB; have HO_3 := n0_; have BK941 := n1_; have HB := n2_; clear n0_ n1_ n2_; (try clear hb); (try clear hb2); (try clear hk); (try clear hi); have hcz106_0 : w105.cell? ⟨gb941, 0, none⟩ = some (.int .i64 ((rd_T169 l0 x4_1).f0)) := (blk_cell BK941.out 0).trans rfl; have hcz106_1 : w105.cell? ⟨gb941, 1, none⟩ = some (.int .i64 ((rd_T169 l0 x4_1).f1)) := (blk_cell BK941.out 1).trans rfl; have hcz106_2 : w105.cell? ⟨gb941, 2, none⟩ = some (.int .i64 ((rd_T169 l0 x4_1).f2)) := (blk_cell BK941.out 2).trans rfl; have hcz106_3 : w105.cell? ⟨gb941, 3, none⟩ = some (.int .i64 ((rd_T169 l0 x4_1).f3)) := (blk_cell BK941.out 3).trans rfl; have hfz106_0 := blk_frozen BK941.out 0; have hfz106_1 := blk_frozen BK941.out 1; have hfz106_2 := blk_frozen BK941.out 2; have hfz106_3 := blk_frozen BK941.out 3) | ((with_reducible refine gate_callee (f := 142) rfl ?_); refine goesL_ (some 117) rfl rfl Try.func142 (by kernel_rfl) rfl #[.int .i64 ((rd_T169 l0 x4_1).f2)] rfl (by (try simp only [List.map_toArray, List.map_cons, List.map_nil]); first | done | rfl | (simp only [List.length_drop, List.length_take]; rfl)) ?_; (with_reducible refine (gemotlaw1_name.calls ((rd_T169 l0 x4_1).f2) t998 _ A103.out).mono ?_); rintro e w107 ⟨rfl, hb⟩; refine ⟨_, rfl, ?_⟩; have n0_ := Aside0.mk (Kd.R_below (by (with_reducible repeat (first | apply Kd.R_alloc | apply Kd.R_drewN | apply Kd.R_drew)); exact HO_3.out) hb); have n1_ := Aside0.mk (blk_below (g := gb941) (o := .cells #[.int .i64 ((rd_T169 l0 x4_1).f0), .int .i64 ((rd_T169 l0 x4_1).f1), .int .i64 ((rd_T169 l0 x4_1).f2), .int .i64 ((rd_T169 l0 x4_1).f3)] 169 (0, 0)) (by (with_reducible repeat (first | refine blk_drewN ?_ _ | refine blk_drew ?_ | refine blk_alloc ?_ _)); exact BK941.out) hb); have n2_ := Aside0.mk (below_step (by repeat (first | (with_reducible first | exact HB.out | apply below_alloc | apply pw_below_drewN | apply below_drew1 | refine below_set ?_ GE941.out) | exact HB.out)) hb); clear HO_3; clear BK941; clear HB; have HO_3 := n0_; have BK941 := n1_; have HB := n2_; clear n0_ n1_ n2_; (try clear hb); (try clear hb2); (try clear hk); (try clear hi)) | ((with_reducible refine gate_builtin (b := .append) (xs := #[.tmp 118, .tmp 120]) rfl ?_); (try (refine gate_guard (by rfl) ?_; dsimp only)); at_builtin; refine Kd.R_append Kd.string (w0 := w) w.heap.size rfl (.tmp 118) (.tmp 120) 37 23 (.string ⟨#[]⟩) 16 rfl Try.underlying37 info23 rfl (by decide) (by omega) (.slice (some ad943) x3_1.length co26) x3_1 t998 [.string t998] (fun _ => True) (fun _ => False) rfl rfl ?aP (fun _ hk => hk.elim) ?aF ?aO ?aB ?aS ?aL ?_; (case aP => exact rfl); (case aB => exact (by repeat (first | (with_reducible first | exact HB.out | apply below_alloc | apply pw_below_drewN | apply below_drew1 | refine below_set ?_ GE941.out) | exact HB.out))); (case aF => exact (fun _ _ => trivial)); (case aO => exact (by (with_reducible repeat (first | apply Kd.R_alloc | apply Kd.R_drewN | apply Kd.R_drew)); exact HO_3.out)); (case aS => exact (below_size (by repeat (first | (with_reducible first | exact HB.out | apply below_alloc | apply pw_below_drewN | apply below_drew1 | refine below_set ?_ GE941.out) | exact HB.out)))); (case aL => have := LMc104.out; omega); intro v1000 w108 ho hb hg hat; rw [← Ny999.out] at ho; have n0_ := Aside0.mk (blk_grown (g := gb941) (o := .cells #[.int .i64 ((rd_T169 l0 x4_1).f0), .int .i64 ((rd_T169 l0 x4_1).f1), .int .i64 ((rd_T169 l0 x4_1).f2), .int .i64 ((rd_T169 l0 x4_1).f3)] 169 (0, 0)) (by (with_reducible repeat (first | refine blk_drewN ?_ _ | refine blk_drew ?_ | refine blk_alloc ?_ _)); exact BK941.out) hg (Kd.R_ne HO_3.out BK941.out (by decide))); have n1_ := Aside0.mk (hb); have n2_ := Aside0.mk (ho); clear BK941; clear HB; clear HO_3; have BK941 := n0_; have HB := n1_; have HO1001 := n2_; clear n0_ n1_ n2_; clear ho hb hg hat))
                                                go_roundg kj68
                                                case measure => have := HK1.out; have := HJ6.out; have := HJ22.out; have := HJ68.out; omega
                                                case rel => exact ⟨(y999), (wrap64 (x4_1 + 1)), (by first | rfl | (simp; done) | (simp [*]; done)), H', ⟨by have := HK1.out; have := HJ6.out; have := HJ22.out; have := HJ68.out; omega⟩, ⟨by (with_reducible repeat (first | apply Kd.R_alloc | apply Kd.R_drewN | apply Kd.R_drew)); exact HO1001.out⟩, ⟨by repeat (first | (with_reducible first | exact HB.out | apply below_alloc | apply pw_below_drewN | apply below_drew1 | refine below_set ?_ GE941.out) | exact HB.out)⟩⟩
                                              · rw [if_neg c104] at H
                                                exact absurd H (by simp)
                                          · rw [if_neg c90] at H
                                            have c90b0 : (t949 == 7) = false := beq_eq_false_iff_ne.mpr c90
                                            have c90b1 : (t949 != 7) = true := bne_iff_ne.mpr c90
                                            by_cases c109 : t949 = 8
                                            · rw [if_pos c109] at H
                                              have c109b0 : (t949 == 8) = true := beq_iff_eq.mpr c109
                                              have c109b1 : (t949 != 8) = false := bne_eq_false_iff_eq.mpr c109
                                              clear c109
                                              replace H := Option.bind_eq_some_iff.mp H
                                              obtain ⟨⟨t1002, t1003⟩, A1100, H⟩ := H
                                              replace H : (if t1003 = 0 then (if (t1002.size : Int) > 600 then ((gemotlaw1_name.f ((rd_T169 l0 x4_1).f2)).bind fun t1004 => (if x3_1.length < 8796093022208 then (gemotlaw1_made_p.l0 kj68 l0 (x3_1 ++ [t1004]) (wrap64 (x4_1 + 1))) else (none))) else (if x3_1.length < 8796093022208 then (gemotlaw1_made_p.l0 kj68 l0 (x3_1 ++ [t1002]) (wrap64 (x4_1 + 1))) else (none))) else ((gemotlaw1_name.f ((rd_T169 l0 x4_1).f2)).bind fun t1011 => (if x3_1.length < 8796093022208 then (gemotlaw1_made_p.l0 kj68 l0 (x3_1 ++ [t1011]) (wrap64 (x4_1 + 1))) else (none)))) = some r := H
                                              have A110 := Aside0.mk A1100
                                              clear A1100
                                              by_cases c111 : t1003 = 0
                                              · rw [if_pos c111] at H
                                                have c111b0 : (t1003 == 0) = true := beq_iff_eq.mpr c111
                                                have c111b1 : (t1003 != 0) = false := bne_eq_false_iff_eq.mpr c111
                                                clear c111
                                                by_cases c112 : (t1002.size : Int) > 600
                                                · rw [if_pos c112] at H
                                                  have c112b0 : decide (600 < (t1002.size : Int)) = true := decide_eq_true c112
                                                  have c112b1 : decide (600 < t1002.size) = true := decide_eq_true (by omega)
                                                  clear c112
                                                  replace H := Option.bind_eq_some_iff.mp H
                                                  obtain ⟨t1004, A1130, H⟩ := H
                                                  replace H : (if x3_1.length < 8796093022208 then (gemotlaw1_made_p.l0 kj68 l0 (x3_1 ++ [t1004]) (wrap64 (x4_1 + 1))) else (none)) = some r := H
                                                  have A113 := Aside0.mk A1130
                                                  clear A1130
                                                  by_cases c114 : x3_1.length < 8796093022208
                                                  · rw [if_pos c114] at H
                                                    have LMc114 := Aside0.mk c114
                                                    clear c114
                                                    obtain ⟨y1005, hy1005⟩ : ∃ y_ : List ByteArray, y_ = (x3_1 ++ [t1004]) := ⟨_, rfl⟩
                                                    replace H : (gemotlaw1_made_p.l0 kj68 l0 y1005 (wrap64 (x4_1 + 1))) = some r := by first | (rw [hy1005]; with_reducible exact H) | (have H2_ := (Option.bind_some _ _).symm.trans H; rw [hy1005]; with_reducible exact H2_) | (have H2_ := (Option.bind_some _ _).symm.trans H; with_reducible exact H2_) | with_reducible exact H | (rw [hy1005]; exact H) | exact H
                                                    have Ny1005 := Aside0.mk hy1005
                                                    clear hy1005
                                                    have H' := Aside0.mk H
                                                    clear H
                                                    go_wp2_with (first | ((with_reducible refine gate_callee (f := 95) rfl ?_); refine goesL_ (some 97) rfl rfl Try.func95 (by kernel_rfl) rfl #[.string (rdOf ByteArray.empty x3_1 t942), .string (rdOf ByteArray.empty x3_1 t944), .string (rdOf ByteArray.empty x3_1 t946)] rfl (by (try simp only [List.map_toArray, List.map_cons, List.map_nil]); first | done | rfl | (simp only [List.length_drop, List.length_take]; rfl)) ?_; (with_reducible refine (term_Seal.calls (rdOf ByteArray.empty x3_1 t942) (rdOf ByteArray.empty x3_1 t944) (rdOf ByteArray.empty x3_1 t946) t1002 t1003 _ A110.out).mono ?_); rintro e w115 ⟨rfl, hb⟩; refine ⟨_, rfl, ?_⟩; have n0_ := Aside0.mk (Kd.R_below (by (with_reducible repeat (first | apply Kd.R_alloc | apply Kd.R_drewN | apply Kd.R_drew)); exact HO_3.out) hb); have n1_ := Aside0.mk (blk_below (g := gb941) (o := .cells #[.int .i64 ((rd_T169 l0 x4_1).f0), .int .i64 ((rd_T169 l0 x4_1).f1), .int .i64 ((rd_T169 l0 x4_1).f2), .int .i64 ((rd_T169 l0 x4_1).f3)] 169 (0, 0)) (by (with_reducible repeat (first | refine blk_drewN ?_ _ | refine blk_drew ?_ | refine blk_alloc ?_ _)); exact BK941.out) hb); have n2_ := Aside0.mk (below_step (by repeat (first | (with_reducible first | exact HB.out | apply below_alloc | apply pw_below_drewN | apply below_drew1 | refine below_set ?_ GE941.out) | exact HB.out)) hb); clear HO_3; clear BK941; clear HB; have HO_3 := n0_; have BK941 := n1_; have HB := n2_; clear n0_ n1_ n2_; (try clear hb); (try clear hb2); (try clear hk); (try clear hi); have hcz116_0 : w115.cell? ⟨gb941, 0, none⟩ = some (.int .i64 ((rd_T169 l0 x4_1).f0)) := (blk_cell BK941.out 0).trans rfl; have hcz116_1 : w115.cell? ⟨gb941, 1, none⟩ = some (.int .i64 ((rd_T169 l0 x4_1).f1)) := (blk_cell BK941.out 1).trans rfl; have hcz116_2 : w115.cell? ⟨gb941, 2, none⟩ = some (.int .i64 ((rd_T169 l0 x4_1).f2)) := (blk_cell BK941.out 2).trans rfl; have hcz116_3 : w115.cell? ⟨gb941, 3, none⟩ = some (.int .i64 ((rd_T169 l0 x4_1).f3)) := (blk_cell BK941.out 3).trans rfl; have hfz116_0 := blk_frozen BK941.out 0; have hfz116_1 := blk_frozen BK941.out 1; have hfz116_2 := blk_frozen BK941.out 2; have hfz116_3 := blk_frozen BK941.out 3) | ((with_reducible refine gate_callee (f := 142) rfl ?_); refine goesL_ (some 117) rfl rfl Try.func142 (by kernel_rfl) rfl #[.int .i64 ((rd_T169 l0 x4_1).f2)] rfl (by (try simp only [List.map_toArray, List.map_cons, List.map_nil]); first | done | rfl | (simp only [List.length_drop, List.length_take]; rfl)) ?_; (with_reducible refine (gemotlaw1_name.calls ((rd_T169 l0 x4_1).f2) t1004 _ A113.out).mono ?_); rintro e w117 ⟨rfl, hb⟩; refine ⟨_, rfl, ?_⟩; have n0_ := Aside0.mk (Kd.R_below (by (with_reducible repeat (first | apply Kd.R_alloc | apply Kd.R_drewN | apply Kd.R_drew)); exact HO_3.out) hb); have n1_ := Aside0.mk (blk_below (g := gb941) (o := .cells #[.int .i64 ((rd_T169 l0 x4_1).f0), .int .i64 ((rd_T169 l0 x4_1).f1), .int .i64 ((rd_T169 l0 x4_1).f2), .int .i64 ((rd_T169 l0 x4_1).f3)] 169 (0, 0)) (by (with_reducible repeat (first | refine blk_drewN ?_ _ | refine blk_drew ?_ | refine blk_alloc ?_ _)); exact BK941.out) hb); have n2_ := Aside0.mk (below_step (by repeat (first | (with_reducible first | exact HB.out | apply below_alloc | apply pw_below_drewN | apply below_drew1 | refine below_set ?_ GE941.out) | exact HB.out)) hb); clear HO_3; clear BK941; clear HB; have HO_3 := n0_; have BK941 := n1_; have HB := n2_; clear n0_ n1_ n2_; (try clear hb); (try clear hb2); (try clear hk); (try clear hi)) | ((with_reducible refine gate_builtin (b := .append) (xs := #[.tmp 118, .tmp 120]) rfl ?_); (try (refine gate_guard (by rfl) ?_; dsimp only)); at_builtin; refine Kd.R_append Kd.string (w0 := w) w.heap.size rfl (.tmp 118) (.tmp 120) 37 23 (.string ⟨#[]⟩) 16 rfl Try.underlying37 info23 rfl (by decide) (by omega) (.slice (some ad943) x3_1.length co26) x3_1 t1004 [.string t1004] (fun _ => True) (fun _ => False) rfl rfl ?aP (fun _ hk => hk.elim) ?aF ?aO ?aB ?aS ?aL ?_; (case aP => exact rfl); (case aB => exact (by repeat (first | (with_reducible first | exact HB.out | apply below_alloc | apply pw_below_drewN | apply below_drew1 | refine below_set ?_ GE941.out) | exact HB.out))); (case aF => exact (fun _ _ => trivial)); (case aO => exact (by (with_reducible repeat (first | apply Kd.R_alloc | apply Kd.R_drewN | apply Kd.R_drew)); exact HO_3.out)); (case aS => exact (below_size (by repeat (first | (with_reducible first | exact HB.out | apply below_alloc | apply pw_below_drewN | apply below_drew1 | refine below_set ?_ GE941.out) | exact HB.out)))); (case aL => have := LMc114.out; omega); intro v1006 w118 ho hb hg hat; rw [← Ny1005.out] at ho; have n0_ := Aside0.mk (blk_grown (g := gb941) (o := .cells #[.int .i64 ((rd_T169 l0 x4_1).f0), .int .i64 ((rd_T169 l0 x4_1).f1), .int .i64 ((rd_T169 l0 x4_1).f2), .int .i64 ((rd_T169 l0 x4_1).f3)] 169 (0, 0)) (by (with_reducible repeat (first | refine blk_drewN ?_ _ | refine blk_drew ?_ | refine blk_alloc ?_ _)); exact BK941.out) hg (Kd.R_ne HO_3.out BK941.out (by decide))); have n1_ := Aside0.mk (hb); have n2_ := Aside0.mk (ho); clear BK941; clear HB; clear HO_3; have BK941 := n0_; have HB := n1_; have HO1007 := n2_; clear n0_ n1_ n2_; clear ho hb hg hat))
                                                    go_roundg kj68
                                                    case measure => have := HK1.out; have := HJ6.out; have := HJ22.out; have := HJ68.out; omega
                                                    case rel => exact ⟨(y1005), (wrap64 (x4_1 + 1)), (by first | rfl | (simp; done) | (simp [*]; done)), H', ⟨by have := HK1.out; have := HJ6.out; have := HJ22.out; have := HJ68.out; omega⟩, ⟨by (with_reducible repeat (first | apply Kd.R_alloc | apply Kd.R_drewN | apply Kd.R_drew)); exact HO1007.out⟩, ⟨by repeat (first | (with_reducible first | exact HB.out | apply below_alloc | apply pw_below_drewN | apply below_drew1 | refine below_set ?_ GE941.out) | exact HB.out)⟩⟩
                                                  · rw [if_neg c114] at H
                                                    exact absurd H (by simp)
                                                · rw [if_neg c112] at H
                                                  have c112b0 : decide (600 < (t1002.size : Int)) = false := decide_eq_false c112
                                                  have c112b1 : decide (600 < t1002.size) = false := decide_eq_false (by omega)
                                                  clear c112
                                                  by_cases c119 : x3_1.length < 8796093022208
                                                  · rw [if_pos c119] at H
                                                    have LMc119 := Aside0.mk c119
                                                    clear c119
                                                    obtain ⟨y1008, hy1008⟩ : ∃ y_ : List ByteArray, y_ = (x3_1 ++ [t1002]) := ⟨_, rfl⟩
                                                    replace H : (gemotlaw1_made_p.l0 kj68 l0 y1008 (wrap64 (x4_1 + 1))) = some r := by first | (rw [hy1008]; with_reducible exact H) | (have H2_ := (Option.bind_some _ _).symm.trans H; rw [hy1008]; with_reducible exact H2_) | (have H2_ := (Option.bind_some _ _).symm.trans H; with_reducible exact H2_) | with_reducible exact H | (rw [hy1008]; exact H) | exact H
                                                    have Ny1008 := Aside0.mk hy1008
                                                    clear hy1008
                                                    have H' := Aside0.mk H
                                                    clear H
                                                    go_wp2_with (first | ((with_reducible refine gate_callee (f := 95) rfl ?_); refine goesL_ (some 97) rfl rfl Try.func95 (by kernel_rfl) rfl #[.string (rdOf ByteArray.empty x3_1 t942), .string (rdOf ByteArray.empty x3_1 t944), .string (rdOf ByteArray.empty x3_1 t946)] rfl (by (try simp only [List.map_toArray, List.map_cons, List.map_nil]); first | done | rfl | (simp only [List.length_drop, List.length_take]; rfl)) ?_; (with_reducible refine (term_Seal.calls (rdOf ByteArray.empty x3_1 t942) (rdOf ByteArray.empty x3_1 t944) (rdOf ByteArray.empty x3_1 t946) t1002 t1003 _ A110.out).mono ?_); rintro e w120 ⟨rfl, hb⟩; refine ⟨_, rfl, ?_⟩; have n0_ := Aside0.mk (Kd.R_below (by (with_reducible repeat (first | apply Kd.R_alloc | apply Kd.R_drewN | apply Kd.R_drew)); exact HO_3.out) hb); have n1_ := Aside0.mk (blk_below (g := gb941) (o := .cells #[.int .i64 ((rd_T169 l0 x4_1).f0), .int .i64 ((rd_T169 l0 x4_1).f1), .int .i64 ((rd_T169 l0 x4_1).f2), .int .i64 ((rd_T169 l0 x4_1).f3)] 169 (0, 0)) (by (with_reducible repeat (first | refine blk_drewN ?_ _ | refine blk_drew ?_ | refine blk_alloc ?_ _)); exact BK941.out) hb); have n2_ := Aside0.mk (below_step (by repeat (first | (with_reducible first | exact HB.out | apply below_alloc | apply pw_below_drewN | apply below_drew1 | refine below_set ?_ GE941.out) | exact HB.out)) hb); clear HO_3; clear BK941; clear HB; have HO_3 := n0_; have BK941 := n1_; have HB := n2_; clear n0_ n1_ n2_; (try clear hb); (try clear hb2); (try clear hk); (try clear hi)) | ((with_reducible refine gate_builtin (b := .append) (xs := #[.tmp 118, .tmp 120]) rfl ?_); (try (refine gate_guard (by rfl) ?_; dsimp only)); at_builtin; refine Kd.R_append Kd.string (w0 := w) w.heap.size rfl (.tmp 118) (.tmp 120) 37 23 (.string ⟨#[]⟩) 16 rfl Try.underlying37 info23 rfl (by decide) (by omega) (.slice (some ad943) x3_1.length co26) x3_1 t1002 [.string t1002] (fun _ => True) (fun _ => False) rfl rfl ?aP (fun _ hk => hk.elim) ?aF ?aO ?aB ?aS ?aL ?_; (case aP => exact rfl); (case aB => exact (by repeat (first | (with_reducible first | exact HB.out | apply below_alloc | apply pw_below_drewN | apply below_drew1 | refine below_set ?_ GE941.out) | exact HB.out))); (case aF => exact (fun _ _ => trivial)); (case aO => exact (by (with_reducible repeat (first | apply Kd.R_alloc | apply Kd.R_drewN | apply Kd.R_drew)); exact HO_3.out)); (case aS => exact (below_size (by repeat (first | (with_reducible first | exact HB.out | apply below_alloc | apply pw_below_drewN | apply below_drew1 | refine below_set ?_ GE941.out) | exact HB.out)))); (case aL => have := LMc119.out; omega); intro v1009 w121 ho hb hg hat; rw [← Ny1008.out] at ho; have n0_ := Aside0.mk (blk_grown (g := gb941) (o := .cells #[.int .i64 ((rd_T169 l0 x4_1).f0), .int .i64 ((rd_T169 l0 x4_1).f1), .int .i64 ((rd_T169 l0 x4_1).f2), .int .i64 ((rd_T169 l0 x4_1).f3)] 169 (0, 0)) (by (with_reducible repeat (first | refine blk_drewN ?_ _ | refine blk_drew ?_ | refine blk_alloc ?_ _)); exact BK941.out) hg (Kd.R_ne HO_3.out BK941.out (by decide))); have n1_ := Aside0.mk (hb); have n2_ := Aside0.mk (ho); clear BK941; clear HB; clear HO_3; have BK941 := n0_; have HB := n1_; have HO1010 := n2_; clear n0_ n1_ n2_; clear ho hb hg hat))
                                                    go_roundg kj68
                                                    case measure => have := HK1.out; have := HJ6.out; have := HJ22.out; have := HJ68.out; omega
                                                    case rel => exact ⟨(y1008), (wrap64 (x4_1 + 1)), (by first | rfl | (simp; done) | (simp [*]; done)), H', ⟨by have := HK1.out; have := HJ6.out; have := HJ22.out; have := HJ68.out; omega⟩, ⟨by (with_reducible repeat (first | apply Kd.R_alloc | apply Kd.R_drewN | apply Kd.R_drew)); exact HO1010.out⟩, ⟨by repeat (first | (with_reducible first | exact HB.out | apply below_alloc | apply pw_below_drewN | apply below_drew1 | refine below_set ?_ GE941.out) | exact HB.out)⟩⟩
                                                  · rw [if_neg c119] at H
                                                    exact absurd H (by simp)
                                              · rw [if_neg c111] at H
                                                have c111b0 : (t1003 == 0) = false := beq_eq_false_iff_ne.mpr c111
                                                have c111b1 : (t1003 != 0) = true := bne_iff_ne.mpr c111
                                                replace H := Option.bind_eq_some_iff.mp H
                                                obtain ⟨t1011, A1220, H⟩ := H
                                                replace H : (if x3_1.length < 8796093022208 then (gemotlaw1_made_p.l0 kj68 l0 (x3_1 ++ [t1011]) (wrap64 (x4_1 + 1))) else (none)) = some r := H
                                                have A122 := Aside0.mk A1220
                                                clear A1220
                                                by_cases c123 : x3_1.length < 8796093022208
                                                · rw [if_pos c123] at H
                                                  have LMc123 := Aside0.mk c123
                                                  clear c123
                                                  obtain ⟨y1012, hy1012⟩ : ∃ y_ : List ByteArray, y_ = (x3_1 ++ [t1011]) := ⟨_, rfl⟩
                                                  replace H : (gemotlaw1_made_p.l0 kj68 l0 y1012 (wrap64 (x4_1 + 1))) = some r := by first | (rw [hy1012]; with_reducible exact H) | (have H2_ := (Option.bind_some _ _).symm.trans H; rw [hy1012]; with_reducible exact H2_) | (have H2_ := (Option.bind_some _ _).symm.trans H; with_reducible exact H2_) | with_reducible exact H | (rw [hy1012]; exact H) | exact H
                                                  have Ny1012 := Aside0.mk hy1012
                                                  clear hy1012
                                                  have H' := Aside0.mk H
                                                  clear H
                                                  go_wp2_with (first | ((with_reducible refine gate_callee (f := 95) rfl ?_); refine goesL_ (some 97) rfl rfl Try.func95 (by kernel_rfl) rfl #[.string (rdOf ByteArray.empty x3_1 t942), .string (rdOf ByteArray.empty x3_1 t944), .string (rdOf ByteArray.empty x3_1 t946)] rfl (by (try simp only [List.map_toArray, List.map_cons, List.map_nil]); first | done | rfl | (simp only [List.length_drop, List.length_take]; rfl)) ?_; (with_reducible refine (term_Seal.calls (rdOf ByteArray.empty x3_1 t942) (rdOf ByteArray.empty x3_1 t944) (rdOf ByteArray.empty x3_1 t946) t1002 t1003 _ A110.out).mono ?_); rintro e w124 ⟨rfl, hb⟩; refine ⟨_, rfl, ?_⟩; have n0_ := Aside0.mk (Kd.R_below (by (with_reducible repeat (first | apply Kd.R_alloc | apply Kd.R_drewN | apply Kd.R_drew)); exact HO_3.out) hb); have n1_ := Aside0.mk (blk_below (g := gb941) (o := .cells #[.int .i64 ((rd_T169 l0 x4_1).f0), .int .i64 ((rd_T169 l0 x4_1).f1), .int .i64 ((rd_T169 l0 x4_1).f2), .int .i64 ((rd_T169 l0 x4_1).f3)] 169 (0, 0)) (by (with_reducible repeat (first | refine blk_drewN ?_ _ | refine blk_drew ?_ | refine blk_alloc ?_ _)); exact BK941.out) hb); have n2_ := Aside0.mk (below_step (by repeat (first | (with_reducible first | exact HB.out | apply below_alloc | apply pw_below_drewN | apply below_drew1 | refine below_set ?_ GE941.out) | exact HB.out)) hb); clear HO_3; clear BK941; clear HB; have HO_3 := n0_; have BK941 := n1_; have HB := n2_; clear n0_ n1_ n2_; (try clear hb); (try clear hb2); (try clear hk); (try clear hi); have hcz125_0 : w124.cell? ⟨gb941, 0, none⟩ = some (.int .i64 ((rd_T169 l0 x4_1).f0)) := (blk_cell BK941.out 0).trans rfl; have hcz125_1 : w124.cell? ⟨gb941, 1, none⟩ = some (.int .i64 ((rd_T169 l0 x4_1).f1)) := (blk_cell BK941.out 1).trans rfl; have hcz125_2 : w124.cell? ⟨gb941, 2, none⟩ = some (.int .i64 ((rd_T169 l0 x4_1).f2)) := (blk_cell BK941.out 2).trans rfl; have hcz125_3 : w124.cell? ⟨gb941, 3, none⟩ = some (.int .i64 ((rd_T169 l0 x4_1).f3)) := (blk_cell BK941.out 3).trans rfl; have hfz125_0 := blk_frozen BK941.out 0; have hfz125_1 := blk_frozen BK941.out 1; have hfz125_2 := blk_frozen BK941.out 2; have hfz125_3 := blk_frozen BK941.out 3) | ((with_reducible refine gate_callee (f := 142) rfl ?_); refine goesL_ (some 117) rfl rfl Try.func142 (by kernel_rfl) rfl #[.int .i64 ((rd_T169 l0 x4_1).f2)] rfl (by (try simp only [List.map_toArray, List.map_cons, List.map_nil]); first | done | rfl | (simp only [List.length_drop, List.length_take]; rfl)) ?_; (with_reducible refine (gemotlaw1_name.calls ((rd_T169 l0 x4_1).f2) t1011 _ A122.out).mono ?_); rintro e w126 ⟨rfl, hb⟩; refine ⟨_, rfl, ?_⟩; have n0_ := Aside0.mk (Kd.R_below (by (with_reducible repeat (first | apply Kd.R_alloc | apply Kd.R_drewN | apply Kd.R_drew)); exact HO_3.out) hb); have n1_ := Aside0.mk (blk_below (g := gb941) (o := .cells #[.int .i64 ((rd_T169 l0 x4_1).f0), .int .i64 ((rd_T169 l0 x4_1).f1), .int .i64 ((rd_T169 l0 x4_1).f2), .int .i64 ((rd_T169 l0 x4_1).f3)] 169 (0, 0)) (by (with_reducible repeat (first | refine blk_drewN ?_ _ | refine blk_drew ?_ | refine blk_alloc ?_ _)); exact BK941.out) hb); have n2_ := Aside0.mk (below_step (by repeat (first | (with_reducible first | exact HB.out | apply below_alloc | apply pw_below_drewN | apply below_drew1 | refine below_set ?_ GE941.out) | exact HB.out)) hb); clear HO_3; clear BK941; clear HB; have HO_3 := n0_; have BK941 := n1_; have HB := n2_; clear n0_ n1_ n2_; (try clear hb); (try clear hb2); (try clear hk); (try clear hi)) | ((with_reducible refine gate_builtin (b := .append) (xs := #[.tmp 118, .tmp 120]) rfl ?_); (try (refine gate_guard (by rfl) ?_; dsimp only)); at_builtin; refine Kd.R_append Kd.string (w0 := w) w.heap.size rfl (.tmp 118) (.tmp 120) 37 23 (.string ⟨#[]⟩) 16 rfl Try.underlying37 info23 rfl (by decide) (by omega) (.slice (some ad943) x3_1.length co26) x3_1 t1011 [.string t1011] (fun _ => True) (fun _ => False) rfl rfl ?aP (fun _ hk => hk.elim) ?aF ?aO ?aB ?aS ?aL ?_; (case aP => exact rfl); (case aB => exact (by repeat (first | (with_reducible first | exact HB.out | apply below_alloc | apply pw_below_drewN | apply below_drew1 | refine below_set ?_ GE941.out) | exact HB.out))); (case aF => exact (fun _ _ => trivial)); (case aO => exact (by (with_reducible repeat (first | apply Kd.R_alloc | apply Kd.R_drewN | apply Kd.R_drew)); exact HO_3.out)); (case aS => exact (below_size (by repeat (first | (with_reducible first | exact HB.out | apply below_alloc | apply pw_below_drewN | apply below_drew1 | refine below_set ?_ GE941.out) | exact HB.out)))); (case aL => have := LMc123.out; omega); intro v1013 w127 ho hb hg hat; rw [← Ny1012.out] at ho; have n0_ := Aside0.mk (blk_grown (g := gb941) (o := .cells #[.int .i64 ((rd_T169 l0 x4_1).f0), .int .i64 ((rd_T169 l0 x4_1).f1), .int .i64 ((rd_T169 l0 x4_1).f2), .int .i64 ((rd_T169 l0 x4_1).f3)] 169 (0, 0)) (by (with_reducible repeat (first | refine blk_drewN ?_ _ | refine blk_drew ?_ | refine blk_alloc ?_ _)); exact BK941.out) hg (Kd.R_ne HO_3.out BK941.out (by decide))); have n1_ := Aside0.mk (hb); have n2_ := Aside0.mk (ho); clear BK941; clear HB; clear HO_3; have BK941 := n0_; have HB := n1_; have HO1014 := n2_; clear n0_ n1_ n2_; clear ho hb hg hat))
                                                  go_roundg kj68
                                                  case measure => have := HK1.out; have := HJ6.out; have := HJ22.out; have := HJ68.out; omega
                                                  case rel => exact ⟨(y1012), (wrap64 (x4_1 + 1)), (by first | rfl | (simp; done) | (simp [*]; done)), H', ⟨by have := HK1.out; have := HJ6.out; have := HJ22.out; have := HJ68.out; omega⟩, ⟨by (with_reducible repeat (first | apply Kd.R_alloc | apply Kd.R_drewN | apply Kd.R_drew)); exact HO1014.out⟩, ⟨by repeat (first | (with_reducible first | exact HB.out | apply below_alloc | apply pw_below_drewN | apply below_drew1 | refine below_set ?_ GE941.out) | exact HB.out)⟩⟩
                                                · rw [if_neg c123] at H
                                                  exact absurd H (by simp)
                                            · rw [if_neg c109] at H
                                              have c109b0 : (t949 == 8) = false := beq_eq_false_iff_ne.mpr c109
                                              have c109b1 : (t949 != 8) = true := bne_iff_ne.mpr c109
                                              by_cases c128 : t949 = 9
                                              · rw [if_pos c128] at H
                                                have c128b0 : (t949 == 9) = true := beq_iff_eq.mpr c128
                                                have c128b1 : (t949 != 9) = false := bne_eq_false_iff_eq.mpr c128
                                                clear c128
                                                replace H := Option.bind_eq_some_iff.mp H
                                                obtain ⟨⟨t1015, t1016⟩, A1290, H⟩ := H
                                                replace H : (if t1016 = 0 then (if (t1015.size : Int) > 600 then ((gemotlaw1_name.f ((rd_T169 l0 x4_1).f2)).bind fun t1017 => (if x3_1.length < 8796093022208 then (gemotlaw1_made_p.l0 kj68 l0 (x3_1 ++ [t1017]) (wrap64 (x4_1 + 1))) else (none))) else (if x3_1.length < 8796093022208 then (gemotlaw1_made_p.l0 kj68 l0 (x3_1 ++ [t1015]) (wrap64 (x4_1 + 1))) else (none))) else ((gemotlaw1_name.f ((rd_T169 l0 x4_1).f2)).bind fun t1024 => (if x3_1.length < 8796093022208 then (gemotlaw1_made_p.l0 kj68 l0 (x3_1 ++ [t1024]) (wrap64 (x4_1 + 1))) else (none)))) = some r := H
                                                have A129 := Aside0.mk A1290
                                                clear A1290
                                                by_cases c130 : t1016 = 0
                                                · rw [if_pos c130] at H
                                                  have c130b0 : (t1016 == 0) = true := beq_iff_eq.mpr c130
                                                  have c130b1 : (t1016 != 0) = false := bne_eq_false_iff_eq.mpr c130
                                                  clear c130
                                                  by_cases c131 : (t1015.size : Int) > 600
                                                  · rw [if_pos c131] at H
                                                    have c131b0 : decide (600 < (t1015.size : Int)) = true := decide_eq_true c131
                                                    have c131b1 : decide (600 < t1015.size) = true := decide_eq_true (by omega)
                                                    clear c131
                                                    replace H := Option.bind_eq_some_iff.mp H
                                                    obtain ⟨t1017, A1320, H⟩ := H
                                                    replace H : (if x3_1.length < 8796093022208 then (gemotlaw1_made_p.l0 kj68 l0 (x3_1 ++ [t1017]) (wrap64 (x4_1 + 1))) else (none)) = some r := H
                                                    have A132 := Aside0.mk A1320
                                                    clear A1320
                                                    by_cases c133 : x3_1.length < 8796093022208
                                                    · rw [if_pos c133] at H
                                                      have LMc133 := Aside0.mk c133
                                                      clear c133
                                                      obtain ⟨y1018, hy1018⟩ : ∃ y_ : List ByteArray, y_ = (x3_1 ++ [t1017]) := ⟨_, rfl⟩
                                                      replace H : (gemotlaw1_made_p.l0 kj68 l0 y1018 (wrap64 (x4_1 + 1))) = some r := by first | (rw [hy1018]; with_reducible exact H) | (have H2_ := (Option.bind_some _ _).symm.trans H; rw [hy1018]; with_reducible exact H2_) | (have H2_ := (Option.bind_some _ _).symm.trans H; with_reducible exact H2_) | with_reducible exact H | (rw [hy1018]; exact H) | exact H
                                                      have Ny1018 := Aside0.mk hy1018
                                                      clear hy1018
                                                      have H' := Aside0.mk H
                                                      clear H
                                                      go_wp2_with (first | ((with_reducible refine gate_callee (f := 96) rfl ?_); refine goesL_ (some 105) rfl rfl Try.func96 (by kernel_rfl) rfl #[.string (rdOf ByteArray.empty x3_1 t942), .string (rdOf ByteArray.empty x3_1 t944)] rfl (by (try simp only [List.map_toArray, List.map_cons, List.map_nil]); first | done | rfl | (simp only [List.length_drop, List.length_take]; rfl)) ?_; (with_reducible refine (term_Sign.calls (rdOf ByteArray.empty x3_1 t942) (rdOf ByteArray.empty x3_1 t944) t1015 t1016 _ A129.out).mono ?_); rintro e w134 ⟨rfl, hb⟩; refine ⟨_, rfl, ?_⟩; have n0_ := Aside0.mk (Kd.R_below (by (with_reducible repeat (first | apply Kd.R_alloc | apply Kd.R_drewN | apply Kd.R_drew)); exact HO_3.out) hb); have n1_ := Aside0.mk (blk_below (g := gb941) (o := .cells #[.int .i64 ((rd_T169 l0 x4_1).f0), .int .i64 ((rd_T169 l0 x4_1).f1), .int .i64 ((rd_T169 l0 x4_1).f2), .int .i64 ((rd_T169 l0 x4_1).f3)] 169 (0, 0)) (by (with_reducible repeat (first | refine blk_drewN ?_ _ | refine blk_drew ?_ | refine blk_alloc ?_ _)); exact BK941.out) hb); have n2_ := Aside0.mk (below_step (by repeat (first | (with_reducible first | exact HB.out | apply below_alloc | apply pw_below_drewN | apply below_drew1 | refine below_set ?_ GE941.out) | exact HB.out)) hb); clear HO_3; clear BK941; clear HB; have HO_3 := n0_; have BK941 := n1_; have HB := n2_; clear n0_ n1_ n2_; (try clear hb); (try clear hb2); (try clear hk); (try clear hi); have hcz135_0 : w134.cell? ⟨gb941, 0, none⟩ = some (.int .i64 ((rd_T169 l0 x4_1).f0)) := (blk_cell BK941.out 0).trans rfl; have hcz135_1 : w134.cell? ⟨gb941, 1, none⟩ = some (.int .i64 ((rd_T169 l0 x4_1).f1)) := (blk_cell BK941.out 1).trans rfl; have hcz135_2 : w134.cell? ⟨gb941, 2, none⟩ = some (.int .i64 ((rd_T169 l0 x4_1).f2)) := (blk_cell BK941.out 2).trans rfl; have hcz135_3 : w134.cell? ⟨gb941, 3, none⟩ = some (.int .i64 ((rd_T169 l0 x4_1).f3)) := (blk_cell BK941.out 3).trans rfl; have hfz135_0 := blk_frozen BK941.out 0; have hfz135_1 := blk_frozen BK941.out 1; have hfz135_2 := blk_frozen BK941.out 2; have hfz135_3 := blk_frozen BK941.out 3) | ((with_reducible refine gate_callee (f := 142) rfl ?_); refine goesL_ (some 117) rfl rfl Try.func142 (by kernel_rfl) rfl #[.int .i64 ((rd_T169 l0 x4_1).f2)] rfl (by (try simp only [List.map_toArray, List.map_cons, List.map_nil]); first | done | rfl | (simp only [List.length_drop, List.length_take]; rfl)) ?_; (with_reducible refine (gemotlaw1_name.calls ((rd_T169 l0 x4_1).f2) t1017 _ A132.out).mono ?_); rintro e w136 ⟨rfl, hb⟩; refine ⟨_, rfl, ?_⟩; have n0_ := Aside0.mk (Kd.R_below (by (with_reducible repeat (first | apply Kd.R_alloc | apply Kd.R_drewN | apply Kd.R_drew)); exact HO_3.out) hb); have n1_ := Aside0.mk (blk_below (g := gb941) (o := .cells #[.int .i64 ((rd_T169 l0 x4_1).f0), .int .i64 ((rd_T169 l0 x4_1).f1), .int .i64 ((rd_T169 l0 x4_1).f2), .int .i64 ((rd_T169 l0 x4_1).f3)] 169 (0, 0)) (by (with_reducible repeat (first | refine blk_drewN ?_ _ | refine blk_drew ?_ | refine blk_alloc ?_ _)); exact BK941.out) hb); have n2_ := Aside0.mk (below_step (by repeat (first | (with_reducible first | exact HB.out | apply below_alloc | apply pw_below_drewN | apply below_drew1 | refine below_set ?_ GE941.out) | exact HB.out)) hb); clear HO_3; clear BK941; clear HB; have HO_3 := n0_; have BK941 := n1_; have HB := n2_; clear n0_ n1_ n2_; (try clear hb); (try clear hb2); (try clear hk); (try clear hi)) | ((with_reducible refine gate_builtin (b := .append) (xs := #[.tmp 118, .tmp 120]) rfl ?_); (try (refine gate_guard (by rfl) ?_; dsimp only)); at_builtin; refine Kd.R_append Kd.string (w0 := w) w.heap.size rfl (.tmp 118) (.tmp 120) 37 23 (.string ⟨#[]⟩) 16 rfl Try.underlying37 info23 rfl (by decide) (by omega) (.slice (some ad943) x3_1.length co26) x3_1 t1017 [.string t1017] (fun _ => True) (fun _ => False) rfl rfl ?aP (fun _ hk => hk.elim) ?aF ?aO ?aB ?aS ?aL ?_; (case aP => exact rfl); (case aB => exact (by repeat (first | (with_reducible first | exact HB.out | apply below_alloc | apply pw_below_drewN | apply below_drew1 | refine below_set ?_ GE941.out) | exact HB.out))); (case aF => exact (fun _ _ => trivial)); (case aO => exact (by (with_reducible repeat (first | apply Kd.R_alloc | apply Kd.R_drewN | apply Kd.R_drew)); exact HO_3.out)); (case aS => exact (below_size (by repeat (first | (with_reducible first | exact HB.out | apply below_alloc | apply pw_below_drewN | apply below_drew1 | refine below_set ?_ GE941.out) | exact HB.out)))); (case aL => have := LMc133.out; omega); intro v1019 w137 ho hb hg hat; rw [← Ny1018.out] at ho; have n0_ := Aside0.mk (blk_grown (g := gb941) (o := .cells #[.int .i64 ((rd_T169 l0 x4_1).f0), .int .i64 ((rd_T169 l0 x4_1).f1), .int .i64 ((rd_T169 l0 x4_1).f2), .int .i64 ((rd_T169 l0 x4_1).f3)] 169 (0, 0)) (by (with_reducible repeat (first | refine blk_drewN ?_ _ | refine blk_drew ?_ | refine blk_alloc ?_ _)); exact BK941.out) hg (Kd.R_ne HO_3.out BK941.out (by decide))); have n1_ := Aside0.mk (hb); have n2_ := Aside0.mk (ho); clear BK941; clear HB; clear HO_3; have BK941 := n0_; have HB := n1_; have HO1020 := n2_; clear n0_ n1_ n2_; clear ho hb hg hat))
                                                      go_roundg kj68
                                                      case measure => have := HK1.out; have := HJ6.out; have := HJ22.out; have := HJ68.out; omega
                                                      case rel => exact ⟨(y1018), (wrap64 (x4_1 + 1)), (by first | rfl | (simp; done) | (simp [*]; done)), H', ⟨by have := HK1.out; have := HJ6.out; have := HJ22.out; have := HJ68.out; omega⟩, ⟨by (with_reducible repeat (first | apply Kd.R_alloc | apply Kd.R_drewN | apply Kd.R_drew)); exact HO1020.out⟩, ⟨by repeat (first | (with_reducible first | exact HB.out | apply below_alloc | apply pw_below_drewN | apply below_drew1 | refine below_set ?_ GE941.out) | exact HB.out)⟩⟩
                                                    · rw [if_neg c133] at H
                                                      exact absurd H (by simp)
                                                  · rw [if_neg c131] at H
                                                    have c131b0 : decide (600 < (t1015.size : Int)) = false := decide_eq_false c131
                                                    have c131b1 : decide (600 < t1015.size) = false := decide_eq_false (by omega)
                                                    clear c131
                                                    by_cases c138 : x3_1.length < 8796093022208
                                                    · rw [if_pos c138] at H
                                                      have LMc138 := Aside0.mk c138
                                                      clear c138
                                                      obtain ⟨y1021, hy1021⟩ : ∃ y_ : List ByteArray, y_ = (x3_1 ++ [t1015]) := ⟨_, rfl⟩
                                                      replace H : (gemotlaw1_made_p.l0 kj68 l0 y1021 (wrap64 (x4_1 + 1))) = some r := by first | (rw [hy1021]; with_reducible exact H) | (have H2_ := (Option.bind_some _ _).symm.trans H; rw [hy1021]; with_reducible exact H2_) | (have H2_ := (Option.bind_some _ _).symm.trans H; with_reducible exact H2_) | with_reducible exact H | (rw [hy1021]; exact H) | exact H
                                                      have Ny1021 := Aside0.mk hy1021
                                                      clear hy1021
                                                      have H' := Aside0.mk H
                                                      clear H
                                                      go_wp2_with (first | ((with_reducible refine gate_callee (f := 96) rfl ?_); refine goesL_ (some 105) rfl rfl Try.func96 (by kernel_rfl) rfl #[.string (rdOf ByteArray.empty x3_1 t942), .string (rdOf ByteArray.empty x3_1 t944)] rfl (by (try simp only [List.map_toArray, List.map_cons, List.map_nil]); first | done | rfl | (simp only [List.length_drop, List.length_take]; rfl)) ?_; (with_reducible refine (term_Sign.calls (rdOf ByteArray.empty x3_1 t942) (rdOf ByteArray.empty x3_1 t944) t1015 t1016 _ A129.out).mono ?_); rintro e w139 ⟨rfl, hb⟩; refine ⟨_, rfl, ?_⟩; have n0_ := Aside0.mk (Kd.R_below (by (with_reducible repeat (first | apply Kd.R_alloc | apply Kd.R_drewN | apply Kd.R_drew)); exact HO_3.out) hb); have n1_ := Aside0.mk (blk_below (g := gb941) (o := .cells #[.int .i64 ((rd_T169 l0 x4_1).f0), .int .i64 ((rd_T169 l0 x4_1).f1), .int .i64 ((rd_T169 l0 x4_1).f2), .int .i64 ((rd_T169 l0 x4_1).f3)] 169 (0, 0)) (by (with_reducible repeat (first | refine blk_drewN ?_ _ | refine blk_drew ?_ | refine blk_alloc ?_ _)); exact BK941.out) hb); have n2_ := Aside0.mk (below_step (by repeat (first | (with_reducible first | exact HB.out | apply below_alloc | apply pw_below_drewN | apply below_drew1 | refine below_set ?_ GE941.out) | exact HB.out)) hb); clear HO_3; clear BK941; clear HB; have HO_3 := n0_; have BK941 := n1_; have HB := n2_; clear n0_ n1_ n2_; (try clear hb); (try clear hb2); (try clear hk); (try clear hi)) | ((with_reducible refine gate_builtin (b := .append) (xs := #[.tmp 118, .tmp 120]) rfl ?_); (try (refine gate_guard (by rfl) ?_; dsimp only)); at_builtin; refine Kd.R_append Kd.string (w0 := w) w.heap.size rfl (.tmp 118) (.tmp 120) 37 23 (.string ⟨#[]⟩) 16 rfl Try.underlying37 info23 rfl (by decide) (by omega) (.slice (some ad943) x3_1.length co26) x3_1 t1015 [.string t1015] (fun _ => True) (fun _ => False) rfl rfl ?aP (fun _ hk => hk.elim) ?aF ?aO ?aB ?aS ?aL ?_; (case aP => exact rfl); (case aB => exact (by repeat (first | (with_reducible first | exact HB.out | apply below_alloc | apply pw_below_drewN | apply below_drew1 | refine below_set ?_ GE941.out) | exact HB.out))); (case aF => exact (fun _ _ => trivial)); (case aO => exact (by (with_reducible repeat (first | apply Kd.R_alloc | apply Kd.R_drewN | apply Kd.R_drew)); exact HO_3.out)); (case aS => exact (below_size (by repeat (first | (with_reducible first | exact HB.out | apply below_alloc | apply pw_below_drewN | apply below_drew1 | refine below_set ?_ GE941.out) | exact HB.out)))); (case aL => have := LMc138.out; omega); intro v1022 w140 ho hb hg hat; rw [← Ny1021.out] at ho; have n0_ := Aside0.mk (blk_grown (g := gb941) (o := .cells #[.int .i64 ((rd_T169 l0 x4_1).f0), .int .i64 ((rd_T169 l0 x4_1).f1), .int .i64 ((rd_T169 l0 x4_1).f2), .int .i64 ((rd_T169 l0 x4_1).f3)] 169 (0, 0)) (by (with_reducible repeat (first | refine blk_drewN ?_ _ | refine blk_drew ?_ | refine blk_alloc ?_ _)); exact BK941.out) hg (Kd.R_ne HO_3.out BK941.out (by decide))); have n1_ := Aside0.mk (hb); have n2_ := Aside0.mk (ho); clear BK941; clear HB; clear HO_3; have BK941 := n0_; have HB := n1_; have HO1023 := n2_; clear n0_ n1_ n2_; clear ho hb hg hat))
                                                      go_roundg kj68
                                                      case measure => have := HK1.out; have := HJ6.out; have := HJ22.out; have := HJ68.out; omega
                                                      case rel => exact ⟨(y1021), (wrap64 (x4_1 + 1)), (by first | rfl | (simp; done) | (simp [*]; done)), H', ⟨by have := HK1.out; have := HJ6.out; have := HJ22.out; have := HJ68.out; omega⟩, ⟨by (with_reducible repeat (first | apply Kd.R_alloc | apply Kd.R_drewN | apply Kd.R_drew)); exact HO1023.out⟩, ⟨by repeat (first | (with_reducible first | exact HB.out | apply below_alloc | apply pw_below_drewN | apply below_drew1 | refine below_set ?_ GE941.out) | exact HB.out)⟩⟩
                                                    · rw [if_neg c138] at H
                                                      exact absurd H (by simp)
                                                · rw [if_neg c130] at H
                                                  have c130b0 : (t1016 == 0) = false := beq_eq_false_iff_ne.mpr c130
                                                  have c130b1 : (t1016 != 0) = true := bne_iff_ne.mpr c130
                                                  replace H := Option.bind_eq_some_iff.mp H
                                                  obtain ⟨t1024, A1410, H⟩ := H
                                                  replace H : (if x3_1.length < 8796093022208 then (gemotlaw1_made_p.l0 kj68 l0 (x3_1 ++ [t1024]) (wrap64 (x4_1 + 1))) else (none)) = some r := H
                                                  have A141 := Aside0.mk A1410
                                                  clear A1410
                                                  by_cases c142 : x3_1.length < 8796093022208
                                                  · rw [if_pos c142] at H
                                                    have LMc142 := Aside0.mk c142
                                                    clear c142
                                                    obtain ⟨y1025, hy1025⟩ : ∃ y_ : List ByteArray, y_ = (x3_1 ++ [t1024]) := ⟨_, rfl⟩
                                                    replace H : (gemotlaw1_made_p.l0 kj68 l0 y1025 (wrap64 (x4_1 + 1))) = some r := by first | (rw [hy1025]; with_reducible exact H) | (have H2_ := (Option.bind_some _ _).symm.trans H; rw [hy1025]; with_reducible exact H2_) | (have H2_ := (Option.bind_some _ _).symm.trans H; with_reducible exact H2_) | with_reducible exact H | (rw [hy1025]; exact H) | exact H
                                                    have Ny1025 := Aside0.mk hy1025
                                                    clear hy1025
                                                    have H' := Aside0.mk H
                                                    clear H
                                                    go_wp2_with (first | ((with_reducible refine gate_callee (f := 96) rfl ?_); refine goesL_ (some 105) rfl rfl Try.func96 (by kernel_rfl) rfl #[.string (rdOf ByteArray.empty x3_1 t942), .string (rdOf ByteArray.empty x3_1 t944)] rfl (by (try simp only [List.map_toArray, List.map_cons, List.map_nil]); first | done | rfl | (simp only [List.length_drop, List.length_take]; rfl)) ?_; (with_reducible refine (term_Sign.calls (rdOf ByteArray.empty x3_1 t942) (rdOf ByteArray.empty x3_1 t944) t1015 t1016 _ A129.out).mono ?_); rintro e w143 ⟨rfl, hb⟩; refine ⟨_, rfl, ?_⟩; have n0_ := Aside0.mk (Kd.R_below (by (with_reducible repeat (first | apply Kd.R_alloc | apply Kd.R_drewN | apply Kd.R_drew)); exact HO_3.out) hb); have n1_ := Aside0.mk (blk_below (g := gb941) (o := .cells #[.int .i64 ((rd_T169 l0 x4_1).f0), .int .i64 ((rd_T169 l0 x4_1).f1), .int .i64 ((rd_T169 l0 x4_1).f2), .int .i64 ((rd_T169 l0 x4_1).f3)] 169 (0, 0)) (by (with_reducible repeat (first | refine blk_drewN ?_ _ | refine blk_drew ?_ | refine blk_alloc ?_ _)); exact BK941.out) hb); have n2_ := Aside0.mk (below_step (by repeat (first | (with_reducible first | exact HB.out | apply below_alloc | apply pw_below_drewN | apply below_drew1 | refine below_set ?_ GE941.out) | exact HB.out)) hb); clear HO_3; clear BK941; clear HB; have HO_3 := n0_; have BK941 := n1_; have HB := n2_; clear n0_ n1_ n2_; (try clear hb); (try clear hb2); (try clear hk); (try clear hi); have hcz144_0 : w143.cell? ⟨gb941, 0, none⟩ = some (.int .i64 ((rd_T169 l0 x4_1).f0)) := (blk_cell BK941.out 0).trans rfl; have hcz144_1 : w143.cell? ⟨gb941, 1, none⟩ = some (.int .i64 ((rd_T169 l0 x4_1).f1)) := (blk_cell BK941.out 1).trans rfl; have hcz144_2 : w143.cell? ⟨gb941, 2, none⟩ = some (.int .i64 ((rd_T169 l0 x4_1).f2)) := (blk_cell BK941.out 2).trans rfl; have hcz144_3 : w143.cell? ⟨gb941, 3, none⟩ = some (.int .i64 ((rd_T169 l0 x4_1).f3)) := (blk_cell BK941.out 3).trans rfl; have hfz144_0 := blk_frozen BK941.out 0; have hfz144_1 := blk_frozen BK941.out 1; have hfz144_2 := blk_frozen BK941.out 2; have hfz144_3 := blk_frozen BK941.out 3) | ((with_reducible refine gate_callee (f := 142) rfl ?_); refine goesL_ (some 117) rfl rfl Try.func142 (by kernel_rfl) rfl #[.int .i64 ((rd_T169 l0 x4_1).f2)] rfl (by (try simp only [List.map_toArray, List.map_cons, List.map_nil]); first | done | rfl | (simp only [List.length_drop, List.length_take]; rfl)) ?_; (with_reducible refine (gemotlaw1_name.calls ((rd_T169 l0 x4_1).f2) t1024 _ A141.out).mono ?_); rintro e w145 ⟨rfl, hb⟩; refine ⟨_, rfl, ?_⟩; have n0_ := Aside0.mk (Kd.R_below (by (with_reducible repeat (first | apply Kd.R_alloc | apply Kd.R_drewN | apply Kd.R_drew)); exact HO_3.out) hb); have n1_ := Aside0.mk (blk_below (g := gb941) (o := .cells #[.int .i64 ((rd_T169 l0 x4_1).f0), .int .i64 ((rd_T169 l0 x4_1).f1), .int .i64 ((rd_T169 l0 x4_1).f2), .int .i64 ((rd_T169 l0 x4_1).f3)] 169 (0, 0)) (by (with_reducible repeat (first | refine blk_drewN ?_ _ | refine blk_drew ?_ | refine blk_alloc ?_ _)); exact BK941.out) hb); have n2_ := Aside0.mk (below_step (by repeat (first | (with_reducible first | exact HB.out | apply below_alloc | apply pw_below_drewN | apply below_drew1 | refine below_set ?_ GE941.out) | exact HB.out)) hb); clear HO_3; clear BK941; clear HB; have HO_3 := n0_; have BK941 := n1_; have HB := n2_; clear n0_ n1_ n2_; (try clear hb); (try clear hb2); (try clear hk); (try clear hi)) | ((with_reducible refine gate_builtin (b := .append) (xs := #[.tmp 118, .tmp 120]) rfl ?_); (try (refine gate_guard (by rfl) ?_; dsimp only)); at_builtin; refine Kd.R_append Kd.string (w0 := w) w.heap.size rfl (.tmp 118) (.tmp 120) 37 23 (.string ⟨#[]⟩) 16 rfl Try.underlying37 info23 rfl (by decide) (by omega) (.slice (some ad943) x3_1.length co26) x3_1 t1024 [.string t1024] (fun _ => True) (fun _ => False) rfl rfl ?aP (fun _ hk => hk.elim) ?aF ?aO ?aB ?aS ?aL ?_; (case aP => exact rfl); (case aB => exact (by repeat (first | (with_reducible first | exact HB.out | apply below_alloc | apply pw_below_drewN | apply below_drew1 | refine below_set ?_ GE941.out) | exact HB.out))); (case aF => exact (fun _ _ => trivial)); (case aO => exact (by (with_reducible repeat (first | apply Kd.R_alloc | apply Kd.R_drewN | apply Kd.R_drew)); exact HO_3.out)); (case aS => exact (below_size (by repeat (first | (with_reducible first | exact HB.out | apply below_alloc | apply pw_below_drewN | apply below_drew1 | refine below_set ?_ GE941.out) | exact HB.out)))); (case aL => have := LMc142.out; omega); intro v1026 w146 ho hb hg hat; rw [← Ny1025.out] at ho; have n0_ := Aside0.mk (blk_grown (g := gb941) (o := .cells #[.int .i64 ((rd_T169 l0 x4_1).f0), .int .i64 ((rd_T169 l0 x4_1).f1), .int .i64 ((rd_T169 l0 x4_1).f2), .int .i64 ((rd_T169 l0 x4_1).f3)] 169 (0, 0)) (by (with_reducible repeat (first | refine blk_drewN ?_ _ | refine blk_drew ?_ | refine blk_alloc ?_ _)); exact BK941.out) hg (Kd.R_ne HO_3.out BK941.out (by decide))); have n1_ := Aside0.mk (hb); have n2_ := Aside0.mk (ho); clear BK941; clear HB; clear HO_3; have BK941 := n0_; have HB := n1_; have HO1027 := n2_; clear n0_ n1_ n2_; clear ho hb hg hat))
                                                    go_roundg kj68
                                                    case measure => have := HK1.out; have := HJ6.out; have := HJ22.out; have := HJ68.out; omega
                                                    case rel => exact ⟨(y1025), (wrap64 (x4_1 + 1)), (by first | rfl | (simp; done) | (simp [*]; done)), H', ⟨by have := HK1.out; have := HJ6.out; have := HJ22.out; have := HJ68.out; omega⟩, ⟨by (with_reducible repeat (first | apply Kd.R_alloc | apply Kd.R_drewN | apply Kd.R_drew)); exact HO1027.out⟩, ⟨by repeat (first | (with_reducible first | exact HB.out | apply below_alloc | apply pw_below_drewN | apply below_drew1 | refine below_set ?_ GE941.out) | exact HB.out)⟩⟩
                                                  · rw [if_neg c142] at H
                                                    exact absurd H (by simp)
                                              · rw [if_neg c128] at H
                                                have c128b0 : (t949 == 9) = false := beq_eq_false_iff_ne.mpr c128
                                                have c128b1 : (t949 != 9) = true := bne_iff_ne.mpr c128
                                                by_cases c147 : 0 = 0
                                                · rw [if_pos c147] at H
                                                  have c147b0 : (0 == 0) = true := beq_iff_eq.mpr c147
                                                  have c147b1 : (0 != 0) = false := bne_eq_false_iff_eq.mpr c147
                                                  clear c147
                                                  by_cases c148 : (t948.size : Int) > 600
                                                  · rw [if_pos c148] at H
                                                    have c148b0 : decide (600 < (t948.size : Int)) = true := decide_eq_true c148
                                                    have c148b1 : decide (600 < t948.size) = true := decide_eq_true (by omega)
                                                    clear c148
                                                    replace H := Option.bind_eq_some_iff.mp H
                                                    obtain ⟨t1028, A1490, H⟩ := H
                                                    replace H : (if x3_1.length < 8796093022208 then (gemotlaw1_made_p.l0 kj68 l0 (x3_1 ++ [t1028]) (wrap64 (x4_1 + 1))) else (none)) = some r := H
                                                    have A149 := Aside0.mk A1490
                                                    clear A1490
                                                    by_cases c150 : x3_1.length < 8796093022208
                                                    · rw [if_pos c150] at H
                                                      have LMc150 := Aside0.mk c150
                                                      clear c150
                                                      obtain ⟨y1029, hy1029⟩ : ∃ y_ : List ByteArray, y_ = (x3_1 ++ [t1028]) := ⟨_, rfl⟩
                                                      replace H : (gemotlaw1_made_p.l0 kj68 l0 y1029 (wrap64 (x4_1 + 1))) = some r := by first | (rw [hy1029]; with_reducible exact H) | (have H2_ := (Option.bind_some _ _).symm.trans H; rw [hy1029]; with_reducible exact H2_) | (have H2_ := (Option.bind_some _ _).symm.trans H; with_reducible exact H2_) | with_reducible exact H | (rw [hy1029]; exact H) | exact H
                                                      have Ny1029 := Aside0.mk hy1029
                                                      clear hy1029
                                                      have H' := Aside0.mk H
                                                      clear H
                                                      have hcz151_0 : wc.cell? ⟨gb941, 0, none⟩ = some (.int .i64 ((rd_T169 l0 x4_1).f0)) := (blk_cell BK941.out 0).trans rfl
                                                      have hcz151_1 : wc.cell? ⟨gb941, 1, none⟩ = some (.int .i64 ((rd_T169 l0 x4_1).f1)) := (blk_cell BK941.out 1).trans rfl
                                                      have hcz151_2 : wc.cell? ⟨gb941, 2, none⟩ = some (.int .i64 ((rd_T169 l0 x4_1).f2)) := (blk_cell BK941.out 2).trans rfl
                                                      have hcz151_3 : wc.cell? ⟨gb941, 3, none⟩ = some (.int .i64 ((rd_T169 l0 x4_1).f3)) := (blk_cell BK941.out 3).trans rfl
                                                      have hfz151_0 := blk_frozen BK941.out 0
                                                      have hfz151_1 := blk_frozen BK941.out 1
                                                      have hfz151_2 := blk_frozen BK941.out 2
                                                      have hfz151_3 := blk_frozen BK941.out 3
                                                      go_wp2_with (first | ((with_reducible refine gate_callee (f := 142) rfl ?_); refine goesL_ (some 117) rfl rfl Try.func142 (by kernel_rfl) rfl #[.int .i64 ((rd_T169 l0 x4_1).f2)] rfl (by (try simp only [List.map_toArray, List.map_cons, List.map_nil]); first | done | rfl | (simp only [List.length_drop, List.length_take]; rfl)) ?_; (with_reducible refine (gemotlaw1_name.calls ((rd_T169 l0 x4_1).f2) t1028 _ A149.out).mono ?_); rintro e w152 ⟨rfl, hb⟩; refine ⟨_, rfl, ?_⟩; have n0_ := Aside0.mk (Kd.R_below (by (with_reducible repeat (first | apply Kd.R_alloc | apply Kd.R_drewN | apply Kd.R_drew)); exact HO_3.out) hb); have n1_ := Aside0.mk (blk_below (g := gb941) (o := .cells #[.int .i64 ((rd_T169 l0 x4_1).f0), .int .i64 ((rd_T169 l0 x4_1).f1), .int .i64 ((rd_T169 l0 x4_1).f2), .int .i64 ((rd_T169 l0 x4_1).f3)] 169 (0, 0)) (by (with_reducible repeat (first | refine blk_drewN ?_ _ | refine blk_drew ?_ | refine blk_alloc ?_ _)); exact BK941.out) hb); have n2_ := Aside0.mk (below_step (by repeat (first | (with_reducible first | exact HB.out | apply below_alloc | apply pw_below_drewN | apply below_drew1 | refine below_set ?_ GE941.out) | exact HB.out)) hb); clear HO_3; clear BK941; clear HB; have HO_3 := n0_; have BK941 := n1_; have HB := n2_; clear n0_ n1_ n2_; (try clear hb); (try clear hb2); (try clear hk); (try clear hi)) | ((with_reducible refine gate_builtin (b := .append) (xs := #[.tmp 118, .tmp 120]) rfl ?_); (try (refine gate_guard (by rfl) ?_; dsimp only)); at_builtin; refine Kd.R_append Kd.string (w0 := w) w.heap.size rfl (.tmp 118) (.tmp 120) 37 23 (.string ⟨#[]⟩) 16 rfl Try.underlying37 info23 rfl (by decide) (by omega) (.slice (some ad943) x3_1.length co26) x3_1 t1028 [.string t1028] (fun _ => True) (fun _ => False) rfl rfl ?aP (fun _ hk => hk.elim) ?aF ?aO ?aB ?aS ?aL ?_; (case aP => exact rfl); (case aB => exact (by repeat (first | (with_reducible first | exact HB.out | apply below_alloc | apply pw_below_drewN | apply below_drew1 | refine below_set ?_ GE941.out) | exact HB.out))); (case aF => exact (fun _ _ => trivial)); (case aO => exact (by (with_reducible repeat (first | apply Kd.R_alloc | apply Kd.R_drewN | apply Kd.R_drew)); exact HO_3.out)); (case aS => exact (below_size (by repeat (first | (with_reducible first | exact HB.out | apply below_alloc | apply pw_below_drewN | apply below_drew1 | refine below_set ?_ GE941.out) | exact HB.out)))); (case aL => have := LMc150.out; omega); intro v1030 w153 ho hb hg hat; rw [← Ny1029.out] at ho; have n0_ := Aside0.mk (blk_grown (g := gb941) (o := .cells #[.int .i64 ((rd_T169 l0 x4_1).f0), .int .i64 ((rd_T169 l0 x4_1).f1), .int .i64 ((rd_T169 l0 x4_1).f2), .int .i64 ((rd_T169 l0 x4_1).f3)] 169 (0, 0)) (by (with_reducible repeat (first | refine blk_drewN ?_ _ | refine blk_drew ?_ | refine blk_alloc ?_ _)); exact BK941.out) hg (Kd.R_ne HO_3.out BK941.out (by decide))); have n1_ := Aside0.mk (hb); have n2_ := Aside0.mk (ho); clear BK941; clear HB; clear HO_3; have BK941 := n0_; have HB := n1_; have HO1031 := n2_; clear n0_ n1_ n2_; clear ho hb hg hat))
                                                      go_roundg kj68
                                                      case measure => have := HK1.out; have := HJ6.out; have := HJ22.out; have := HJ68.out; omega
                                                      case rel => exact ⟨(y1029), (wrap64 (x4_1 + 1)), (by first | rfl | (simp; done) | (simp [*]; done)), H', ⟨by have := HK1.out; have := HJ6.out; have := HJ22.out; have := HJ68.out; omega⟩, ⟨by (with_reducible repeat (first | apply Kd.R_alloc | apply Kd.R_drewN | apply Kd.R_drew)); exact HO1031.out⟩, ⟨by repeat (first | (with_reducible first | exact HB.out | apply below_alloc | apply pw_below_drewN | apply below_drew1 | refine below_set ?_ GE941.out) | exact HB.out)⟩⟩
                                                    · rw [if_neg c150] at H
                                                      exact absurd H (by simp)
                                                  · rw [if_neg c148] at H
                                                    have c148b0 : decide (600 < (t948.size : Int)) = false := decide_eq_false c148
                                                    have c148b1 : decide (600 < t948.size) = false := decide_eq_false (by omega)
                                                    clear c148
                                                    by_cases c154 : x3_1.length < 8796093022208
                                                    · rw [if_pos c154] at H
                                                      have LMc154 := Aside0.mk c154
                                                      clear c154
                                                      obtain ⟨y1032, hy1032⟩ : ∃ y_ : List ByteArray, y_ = (x3_1 ++ [t948]) := ⟨_, rfl⟩
                                                      replace H : (gemotlaw1_made_p.l0 kj68 l0 y1032 (wrap64 (x4_1 + 1))) = some r := by first | (rw [hy1032]; with_reducible exact H) | (have H2_ := (Option.bind_some _ _).symm.trans H; rw [hy1032]; with_reducible exact H2_) | (have H2_ := (Option.bind_some _ _).symm.trans H; with_reducible exact H2_) | with_reducible exact H | (rw [hy1032]; exact H) | exact H
                                                      have Ny1032 := Aside0.mk hy1032
                                                      clear hy1032
                                                      have H' := Aside0.mk H
                                                      clear H
                                                      go_wp2_with (first | ((with_reducible refine gate_builtin (b := .append) (xs := #[.tmp 118, .tmp 120]) rfl ?_); (try (refine gate_guard (by rfl) ?_; dsimp only)); at_builtin; refine Kd.R_append Kd.string (w0 := w) w.heap.size rfl (.tmp 118) (.tmp 120) 37 23 (.string ⟨#[]⟩) 16 rfl Try.underlying37 info23 rfl (by decide) (by omega) (.slice (some ad943) x3_1.length co26) x3_1 t948 [.string t948] (fun _ => True) (fun _ => False) rfl rfl ?aP (fun _ hk => hk.elim) ?aF ?aO ?aB ?aS ?aL ?_; (case aP => exact rfl); (case aB => exact (by repeat (first | (with_reducible first | exact HB.out | apply below_alloc | apply pw_below_drewN | apply below_drew1 | refine below_set ?_ GE941.out) | exact HB.out))); (case aF => exact (fun _ _ => trivial)); (case aO => exact (by (with_reducible repeat (first | apply Kd.R_alloc | apply Kd.R_drewN | apply Kd.R_drew)); exact HO_3.out)); (case aS => exact (below_size (by repeat (first | (with_reducible first | exact HB.out | apply below_alloc | apply pw_below_drewN | apply below_drew1 | refine below_set ?_ GE941.out) | exact HB.out)))); (case aL => have := LMc154.out; omega); intro v1033 w155 ho hb hg hat; rw [← Ny1032.out] at ho; have n0_ := Aside0.mk (blk_grown (g := gb941) (o := .cells #[.int .i64 ((rd_T169 l0 x4_1).f0), .int .i64 ((rd_T169 l0 x4_1).f1), .int .i64 ((rd_T169 l0 x4_1).f2), .int .i64 ((rd_T169 l0 x4_1).f3)] 169 (0, 0)) (by (with_reducible repeat (first | refine blk_drewN ?_ _ | refine blk_drew ?_ | refine blk_alloc ?_ _)); exact BK941.out) hg (Kd.R_ne HO_3.out BK941.out (by decide))); have n1_ := Aside0.mk (hb); have n2_ := Aside0.mk (ho); clear BK941; clear HB; clear HO_3; have BK941 := n0_; have HB := n1_; have HO1034 := n2_; clear n0_ n1_ n2_; clear ho hb hg hat))
                                                      go_roundg kj68
                                                      case measure => have := HK1.out; have := HJ6.out; have := HJ22.out; have := HJ68.out; omega
                                                      case rel => exact ⟨(y1032), (wrap64 (x4_1 + 1)), (by first | rfl | (simp; done) | (simp [*]; done)), H', ⟨by have := HK1.out; have := HJ6.out; have := HJ22.out; have := HJ68.out; omega⟩, ⟨by (with_reducible repeat (first | apply Kd.R_alloc | apply Kd.R_drewN | apply Kd.R_drew)); exact HO1034.out⟩, ⟨by repeat (first | (with_reducible first | exact HB.out | apply below_alloc | apply pw_below_drewN | apply below_drew1 | refine below_set ?_ GE941.out) | exact HB.out)⟩⟩
                                                    · rw [if_neg c154] at H
                                                      exact absurd H (by simp)
                                                · exact absurd rfl c147
                          · rw [if_neg c20] at H
                            exact absurd H (by simp)
                        · rw [if_neg c19] at H
                          exact absurd H (by simp)
                      · rw [if_neg c17] at H
                        exact absurd H (by simp)
                    · rw [if_neg c16] at H
                      exact absurd H (by simp)
                  · rw [if_neg c14] at H
                    exact absurd H (by simp)
                · rw [if_neg c13] at H
                  exact absurd H (by simp)
              · rw [if_neg c11] at H
                exact absurd H (by simp)
            · rw [if_neg c10] at H
              exact absurd H (by simp)
          · replace c9 := Bool.eq_false_iff.mpr c9
            subst c9
            have H1 : (some x3_1) = some r := by rw [if_neg (show ¬ (false = true) by decide)] at H; exact H
            clear H
            have H := H1
            clear H1
            obtain rfl := Option.some.inj H
            go_wp2
            go_ret
            exact ⟨_, by first | rfl | (simp [errW_none, errW_some] <;> rfl) | (simp [*, errW_none, errW_some] <;> rfl), by (with_reducible repeat (first | apply Kd.R_alloc | apply Kd.R_drewN | apply Kd.R_drew)); exact HO_3.out, by repeat (first | (with_reducible first | exact HB.out | apply below_alloc | apply pw_below_drewN | apply below_drew1) | exact HB.out)⟩

open Go.Proofs.Ytpfpmjdifnoeoaa.Pure
def gemotlaw1_made.tup (x : S169) : Int × Int × Int × Int := (x.f0, x.f1, x.f2, x.f3)
abbrev gemotlaw1_made.rg (n : Int) : Prop := -9223372036854775808 ≤ n ∧ n ≤ 9223372036854775807
abbrev gemotlaw1_made.ok (x : S169) : Prop := gemotlaw1_made.rg x.f0 ∧ gemotlaw1_made.rg x.f1 ∧ gemotlaw1_made.rg x.f2 ∧ gemotlaw1_made.rg x.f3
def gemotlaw1_made.tmade (l : List S169) : List ByteArray := madeT (l.map gemotlaw1_made.tup)
def gemotlaw1_made.f (l : List S169) : Option (List ByteArray) :=
  if ∀ x ∈ l, gemotlaw1_made.ok x then some (gemotlaw1_made.tmade l) else none
theorem gemotlaw1_made.tail {k : Nat} {x0 : List S169} {out : List ByteArray} {i : Nat} {r : ByteArray × Int} {b : Int} {R : List ByteArray} (hb : gemotlaw1_made.rg b) (hl : out.length ≤ 100) (hi : i ≤ 100)
    (h : gemotlaw1_made_p.l0 k x0 (out ++ [pickT r b]) ((i + 1 : Nat) : Int) = some R) :
    (if r.2 = 0 then (if (r.1.size : Int) > 600 then ((gemotlaw1_name.f b).bind fun t => (if out.length < 8796093022208 then (gemotlaw1_made_p.l0 k x0 (out ++ [t]) (wrap64 ((i : Int) + 1))) else (none))) else (if out.length < 8796093022208 then (gemotlaw1_made_p.l0 k x0 (out ++ [r.1]) (wrap64 ((i : Int) + 1))) else (none))) else ((gemotlaw1_name.f b).bind fun t => (if out.length < 8796093022208 then (gemotlaw1_made_p.l0 k x0 (out ++ [t]) (wrap64 ((i : Int) + 1))) else (none)))) = some R := by
  have hw : wrap64 ((i : Int) + 1) = ((i + 1 : Nat) : Int) := by unfold wrap64; omega
  have hn : gemotlaw1_name.f b = some (nameT b) := by unfold gemotlaw1_name.f; exact if_pos hb
  have ho : out.length < 8796093022208 := by omega
  rw [hw, hn, Option.bind_some, if_pos ho]
  unfold pickT at h
  by_cases c : r.2 = 0
  · rw [if_pos c]
    by_cases d : r.1.size ≤ 600
    · rw [if_neg (by omega)]
      rw [if_pos ⟨c, d⟩] at h
      exact (if_pos ho).trans h
    · rw [if_pos (by omega)]
      rw [if_neg (fun q => d q.2)] at h
      exact h
  · rw [if_neg c]
    rw [if_neg (fun q => c q.1)] at h
    exact h
theorem gemotlaw1_made.pk {c n : Int} (hc : gemotlaw1_made.rg c) (h1 : 0 < n) (h2 : n ≤ 100) : gemotlaw1_pick.f c n = some (pickF c n) := by
  unfold gemotlaw1_pick.f
  rw [if_pos ⟨hc.1, hc.2, h1, by omega⟩]
  rfl
set_option maxHeartbeats 1000000 in
theorem gemotlaw1_made.step (x0 : List S169) (hx : ∀ x ∈ x0, gemotlaw1_made.ok x) (out : List ByteArray) (h2 : 2 ≤ out.length) (h100 : out.length ≤ 100) (hs : ∀ t ∈ out, t.size ≤ 600) (i : Nat) (hi : i < x0.length) (h40 : i < 40) (R : List ByteArray) (K : Nat)
    (hK : ∀ k, K ≤ k → gemotlaw1_made_p.l0 k x0 (mstepT out (gemotlaw1_made.tup x0[i])) ((i + 1 : Nat) : Int) = some R) : ∀ k, K + 4 ≤ k → gemotlaw1_made_p.l0 k x0 out i = some R := by
  intro k hk
  obtain ⟨k, rfl⟩ : ∃ m, k = m + 4 := ⟨k - 4, by omega⟩
  have hok := hx _ (List.getElem_mem hi)
  have hrd : rd_T169 x0 (i : Int) = x0[i] := by simp [rd_T169, List.getD_eq_getElem?_getD, hi]
  have K1 := hK k (by omega)
  have K2 := hK (k + 1) (by omega)
  clear hK
  unfold mstepT at K1 K2
  generalize hX : x0[i] = X at hok hrd K1 K2
  obtain ⟨f0, f1, f2, f3⟩ := X
  obtain ⟨o0, o1, o2, o3⟩ := hok
  simp only [gemotlaw1_made.tup] at o0 o1 o2 o3 K1 K2
  have hpos : (0 : Int) < (out.length : Int) := by omega
  have p1 := gemotlaw1_made.pk o1 hpos (by omega)
  have p2 := gemotlaw1_made.pk o2 hpos (by omega)
  have p3 := gemotlaw1_made.pk o3 hpos (by omega)
  have p0 := gemotlaw1_made.pk (n := 10) o0 (by decide) (by decide)
  have r0 := pickF_range f0 (n := 10) (by decide)
  have r1 := pickF_range f1 hpos
  have r2 := pickF_range f2 hpos
  have r3 := pickF_range f3 hpos
  have hn1 : gemotlaw1_name.f f1 = some (nameT f1) := by unfold gemotlaw1_name.f; exact if_pos o1
  unfold resT at K1 K2
  simp only at K1 K2
  have ma := hs _ (atF_mem r1.1 r1.2)
  have mb := hs _ (atF_mem r2.1 r2.2)
  have mc := hs _ (atF_mem r3.1 r3.2)
  generalize hg : pickF f0 10 = g at p0 r0 K1 K2
  generalize pickF f1 out.length = q1 at p1 r1 K1 K2 ma
  generalize pickF f2 out.length = q2 at p2 r2 K1 K2 mb
  generalize pickF f3 out.length = q3 at p3 r3 K1 K2 mc
  rw [gemotlaw1_made_p.l0, if_pos (show (i : Int) < (x0.length : Int) by omega), decide_eq_true (show (i : Int) < 40 by omega), gemotlaw1_made_p.j1, if_pos rfl, if_pos (show (0 : Int) ≤ (i : Int) by omega), if_pos (show (i : Int) < (x0.length : Int) by omega), hrd]
  simp only
  rw [p1, Option.bind_some, if_pos r1.1, if_pos r1.2, p2, Option.bind_some, if_pos r2.1, if_pos r2.2, p3, Option.bind_some, if_pos r3.1, if_pos r3.2, hn1, Option.bind_some, p0, Option.bind_some]
  rw [show rdOf ByteArray.empty out q1 = atF out q1 from rfl, show rdOf ByteArray.empty out q2 = atF out q2 from rfl, show rdOf ByteArray.empty out q3 = atF out q3 from rfl]
  generalize atF out q1 = a at K1 K2 ma ⊢
  generalize atF out q2 = b at K1 K2 mb ⊢
  generalize atF out q3 = c at K1 K2 mc ⊢
  have fp : term_Power.f a b = some (powF a b) := by unfold term_Power.f; exact if_pos ⟨by omega, by omega⟩
  have fk : term_Key.f a = some (keyF a) := by unfold term_Key.f; exact if_pos (by omega)
  have fq : term_Pair.f a b = some (pairF a b) := by unfold term_Pair.f; exact if_pos ⟨by omega, by omega⟩
  have fh : term_Hash.f a = some (hashF a) := by unfold term_Hash.f; exact if_pos (by omega)
  have fs : term_Seal.f a b c = some (sealF a b c) := by unfold term_Seal.f; exact if_pos ⟨by omega, by omega, by omega⟩
  have fx : term_Sign.f a b = some (signF a b) := by unfold term_Sign.f; exact if_pos ⟨by omega, by omega⟩
  have hc : g = 1 ∨ g = 2 ∨ g = 3 ∨ g = 4 ∨ g = 5 ∨ g = 6 ∨ g = 7 ∨ g = 8 ∨ g = 9 ∨ g = 0 := by omega
  have ht1 := fun r => gemotlaw1_made.tail (k := k) (x0 := x0) (out := out) (i := i) (r := r) (R := R) o2 h100 (by omega)
  have ht2 := fun r => gemotlaw1_made.tail (k := k + 1) (x0 := x0) (out := out) (i := i) (r := r) (R := R) o2 h100 (by omega)
  have hsel : ∀ F : Bool → Option (List ByteArray), (if g = 1 then F (g == 1) else (if g = 2 then F (g == 2) else F (g == 3))) = F (decide (g = 1 ∨ g = 2 ∨ g = 3)) := by
    intro F
    by_cases c1 : g = 1
    · rw [if_pos c1, c1]; rfl
    · rw [if_neg c1]
      by_cases c2 : g = 2
      · rw [if_pos c2, c2]; rfl
      · rw [if_neg c2]
        congr 1
        rw [Bool.eq_iff_iff, beq_iff_eq, decide_eq_true_eq]
        omega
  refine (hsel (fun v => gemotlaw1_made_p.j2 (k + 2) x0 out i a b c (nameT f1) 0 g v f0 f1 f2 f3)).trans ?_
  show gemotlaw1_made_p.j2 (k + 2) x0 out i a b c (nameT f1) 0 g (decide (g = 1 ∨ g = 2 ∨ g = 3)) f0 f1 f2 f3 = some R
  rw [gemotlaw1_made_p.j2]
  clear hsel
  rcases hc with rfl | rfl | rfl | rfl | rfl | rfl | rfl | rfl | rfl | rfl
  · rw [if_pos (by decide), fp, Option.bind_some]; exact ht2 _ K2
  · rw [if_pos (by decide), fp, Option.bind_some]; exact ht2 _ K2
  · rw [if_pos (by decide), fp, Option.bind_some]; exact ht2 _ K2
  · rw [if_neg (by decide), if_pos rfl, fk, Option.bind_some]; exact ht2 _ K2
  · rw [if_neg (by decide), if_neg (by decide), if_pos rfl, gemotlaw1_made_p.j3, if_pos (by decide), fq, Option.bind_some]; exact ht1 _ K1
  · rw [if_neg (by decide), if_neg (by decide), if_neg (by decide), gemotlaw1_made_p.j3, if_pos (by decide), fq, Option.bind_some]; exact ht1 _ K1
  · rw [if_neg (by decide), if_neg (by decide), if_neg (by decide), gemotlaw1_made_p.j3, if_neg (by decide), if_pos rfl, fh, Option.bind_some]; exact ht1 _ K1
  · rw [if_neg (by decide), if_neg (by decide), if_neg (by decide), gemotlaw1_made_p.j3, if_neg (by decide), if_neg (by decide), if_pos rfl, fs, Option.bind_some]; exact ht1 _ K1
  · rw [if_neg (by decide), if_neg (by decide), if_neg (by decide), gemotlaw1_made_p.j3, if_neg (by decide), if_neg (by decide), if_neg (by decide), if_pos rfl, fx, Option.bind_some]; exact ht1 _ K1
  · rw [if_neg (by decide), if_neg (by decide), if_neg (by decide), gemotlaw1_made_p.j3, if_neg (by decide), if_neg (by decide), if_neg (by decide), if_neg (by decide)]; exact ht1 (nameT f1, 0) K1
theorem gemotlaw1_made.run (x0 : List S169) (hx : ∀ x ∈ x0, gemotlaw1_made.ok x) : ∀ (d i : Nat) (out : List ByteArray), i + d = min 40 x0.length → MadeOk out → out.length = i + 2 →
    ∃ K, ∀ k, K ≤ k → gemotlaw1_made_p.l0 k x0 out i = some ((((x0.map gemotlaw1_made.tup).take 40).drop i).foldl mstepT out)
  | 0, i, out, hd, ho, hl => by
    refine ⟨2, fun k hk => ?_⟩
    obtain ⟨k, rfl⟩ : ∃ m, k = m + 2 := ⟨k - 2, by omega⟩
    rw [List.drop_eq_nil_of_le (by rw [List.length_take, List.length_map]; omega), List.foldl_nil, gemotlaw1_made_p.l0]
    by_cases c : (i : Int) < (x0.length : Int)
    · rw [if_pos c, decide_eq_false (by omega), gemotlaw1_made_p.j1, if_neg (by decide)]
    · rw [if_neg c, gemotlaw1_made_p.j1, if_neg (by decide)]
  | d + 1, i, out, hd, ho, hl => by
    have hi : i < x0.length := by omega
    have hlt : i < ((x0.map gemotlaw1_made.tup).take 40).length := by rw [List.length_take, List.length_map]; omega
    have hstep := mstepT_ok ho (by omega) (gemotlaw1_made.tup x0[i])
    obtain ⟨K, hK⟩ := gemotlaw1_made.run x0 hx d (i + 1) (mstepT out (gemotlaw1_made.tup x0[i])) (by omega) hstep (by unfold mstepT; rw [List.length_append, hl]; rfl)
    refine ⟨K + 4, fun k hk => ?_⟩
    rw [List.drop_eq_getElem_cons hlt, List.foldl_cons]
    have he : ((x0.map gemotlaw1_made.tup).take 40)[i] = gemotlaw1_made.tup x0[i] := by rw [List.getElem_take, List.getElem_map]
    rw [he]
    exact gemotlaw1_made.step x0 hx out ho.two (by omega) ho.small i hi (by omega) _ K hK k hk
theorem gemotlaw1_made.eq (l : List S169) (r : List ByteArray) (h : gemotlaw1_made.f l = some r) : ∃ k, gemotlaw1_made_p.f k l = some r := by
  unfold gemotlaw1_made.f at h
  split at h
  case isFalse => cases h
  rename_i hs
  rw [← h]
  obtain ⟨K, hK⟩ := gemotlaw1_made.run l hs (min 40 l.length) 0 _ (by omega) made_start rfl
  refine ⟨K, ?_⟩
  have hn : gemotlaw1_name.f 1 = some (nameT 1) := by unfold gemotlaw1_name.f; exact if_pos ⟨by decide, by decide⟩
  unfold gemotlaw1_made_p.f term_Gen.f
  rw [hn, Option.bind_some, Option.bind_some]
  exact hK K (Nat.le_refl _)
theorem gemotlaw1_made.calls (A0 : Option Addr) (c0 : Nat) (l0 : List S169) (r : List ByteArray) (w : World) (hr0 : Kd.C k169 w A0 l0.length l0) (hc0 : l0.length ≤ c0) (h : gemotlaw1_made.f l0 = some r) :
    Calls Try.prog 97 #[.slice A0 l0.length c0] w fun e w' => ∃ v0_ : Value, e = .returned (v0_) ∧ Kd.R Kd.string 23 w' w.heap.size (fun _ => True) v0_ r ∧ Below w.heap.size w w' := by
  obtain ⟨k, hk⟩ := gemotlaw1_made.eq l0 r h
  exact gemotlaw1_made_p.calls k A0 c0 l0 r w hr0 hc0 hk

end Go.Proofs.Ytpfpmjdifnoeoaa.F
