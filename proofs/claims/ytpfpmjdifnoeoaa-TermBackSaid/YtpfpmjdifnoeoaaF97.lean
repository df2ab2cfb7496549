-- Laid by mk.py (a program of this session) over the seat's translation.
import Derived.Test.YtpfpmjdifnoeoaaF0
import Derived.Test.YtpfpmjdifnoeoaaF142
import Derived.Test.YtpfpmjdifnoeoaaB1
import Derived.Test.YtpfpmjdifnoeoaaB2
import Derived.Test.YtpfpmjdifnoeoaaF98
namespace Go.Proofs.Ytpfpmjdifnoeoaa.F
open Go.RowKit Go.Proofs.YtpfpmjdifnoeoaaW.PrintWords Go.Proofs.YtpfpmjdifnoeoaaW.PrintLast Go.Proofs.YtpfpmjdifnoeoaaW.PrintMore
attribute [local go_sem] max2_int min2_int max_two min_two max_three min_three max_four min_four
set_option linter.unusedVariables false
set_option linter.unusedSimpArgs false

/-! ### gemotlaw1_made: function 97 -/
/-! #### gemotlaw1_made_p: function 97 -/
mutual
def gemotlaw1_made_p.l0 : Nat → List (S169) → List ByteArray → Int → Option (List ByteArray)
  | 0, _, _, _ => none
  | k + 1, x0, x3, x4 => if x4 < (x0.length : Int) then (gemotlaw1_made_p.j1 k x0 x3 x4 (decide (x4 < 40))) else (gemotlaw1_made_p.j1 k x0 x3 x4 false)
def gemotlaw1_made_p.j1 : Nat → List (S169) → List ByteArray → Int → Bool → Option (List ByteArray)
  | 0, _, _, _, _ => none
  | k + 1, x0, x3, x4, x21 => if x21 = true then (if 0 ≤ x4 then (if x4 < (x0.length : Int) then ((gemotlaw1_pick.f ((rd_T169 x0 x4).f1) (x3.length : Int)).bind fun t976 => (if 0 ≤ t976 then (if t976 < (x3.length : Int) then ((gemotlaw1_pick.f ((rd_T169 x0 x4).f2) (x3.length : Int)).bind fun t978 => (if 0 ≤ t978 then (if t978 < (x3.length : Int) then ((gemotlaw1_pick.f ((rd_T169 x0 x4).f3) (x3.length : Int)).bind fun t980 => (if 0 ≤ t980 then (if t980 < (x3.length : Int) then ((gemotlaw1_name.f ((rd_T169 x0 x4).f1)).bind fun t982 => ((gemotlaw1_pick.f ((rd_T169 x0 x4).f0) 10).bind fun t983 => (if t983 = 1 then (gemotlaw1_made_p.j2 k x0 x3 x4 (rdOf ByteArray.empty x3 t976) (rdOf ByteArray.empty x3 t978) (rdOf ByteArray.empty x3 t980) t982 0 t983 (t983 == 1) ((rd_T169 x0 x4).f0) ((rd_T169 x0 x4).f1) ((rd_T169 x0 x4).f2) ((rd_T169 x0 x4).f3)) else (if t983 = 2 then (gemotlaw1_made_p.j2 k x0 x3 x4 (rdOf ByteArray.empty x3 t976) (rdOf ByteArray.empty x3 t978) (rdOf ByteArray.empty x3 t980) t982 0 t983 (t983 == 2) ((rd_T169 x0 x4).f0) ((rd_T169 x0 x4).f1) ((rd_T169 x0 x4).f2) ((rd_T169 x0 x4).f3)) else (gemotlaw1_made_p.j2 k x0 x3 x4 (rdOf ByteArray.empty x3 t976) (rdOf ByteArray.empty x3 t978) (rdOf ByteArray.empty x3 t980) t982 0 t983 (t983 == 3) ((rd_T169 x0 x4).f0) ((rd_T169 x0 x4).f1) ((rd_T169 x0 x4).f2) ((rd_T169 x0 x4).f3)))))) else (none)) else (none))) else (none)) else (none))) else (none)) else (none))) else (none)) else (none)) else (some x3)
def gemotlaw1_made_p.j2 : Nat → List (S169) → List ByteArray → Int → ByteArray → ByteArray → ByteArray → ByteArray → Int → Int → Bool → Int → Int → Int → Int → Option (List ByteArray)
  | 0, _, _, _, _, _, _, _, _, _, _, _, _, _, _ => none
  | k + 1, x0, x3, x4, x6, x7, x8, x9, x10, x57, x58, x976000, x976001, x976002, x976003 => if x58 = true then ((term_Power.f x6 x7).bind fun bt984 => (if bt984.2 = 0 then (if (bt984.1.size : Int) > 600 then ((gemotlaw1_name.f x976002).bind fun t986 => (if x3.length < 8796093022208 then (gemotlaw1_made_p.l0 k x0 (x3 ++ [t986]) (wrap64 (x4 + 1))) else (none))) else (if x3.length < 8796093022208 then (gemotlaw1_made_p.l0 k x0 (x3 ++ [bt984.1]) (wrap64 (x4 + 1))) else (none))) else ((gemotlaw1_name.f x976002).bind fun t993 => (if x3.length < 8796093022208 then (gemotlaw1_made_p.l0 k x0 (x3 ++ [t993]) (wrap64 (x4 + 1))) else (none))))) else (if x57 = 4 then ((term_Key.f x6).bind fun bt997 => (if bt997.2 = 0 then (if (bt997.1.size : Int) > 600 then ((gemotlaw1_name.f x976002).bind fun t999 => (if x3.length < 8796093022208 then (gemotlaw1_made_p.l0 k x0 (x3 ++ [t999]) (wrap64 (x4 + 1))) else (none))) else (if x3.length < 8796093022208 then (gemotlaw1_made_p.l0 k x0 (x3 ++ [bt997.1]) (wrap64 (x4 + 1))) else (none))) else ((gemotlaw1_name.f x976002).bind fun t1006 => (if x3.length < 8796093022208 then (gemotlaw1_made_p.l0 k x0 (x3 ++ [t1006]) (wrap64 (x4 + 1))) else (none))))) else (if x57 = 5 then (gemotlaw1_made_p.j3 k x0 x3 x4 x6 x7 x8 x9 x10 x57 (x57 == 5) x976000 x976001 x976002 x976003) else (gemotlaw1_made_p.j3 k x0 x3 x4 x6 x7 x8 x9 x10 x57 (x57 == 6) x976000 x976001 x976002 x976003)))
def gemotlaw1_made_p.j3 : Nat → List (S169) → List ByteArray → Int → ByteArray → ByteArray → ByteArray → ByteArray → Int → Int → Bool → Int → Int → Int → Int → Option (List ByteArray)
  | 0, _, _, _, _, _, _, _, _, _, _, _, _, _, _ => none
  | k + 1, x0, x3, x4, x6, x7, x8, x9, x10, x57, x75, x976000, x976001, x976002, x976003 => if x75 = true then ((term_Pair.f x6 x7).bind fun bt1010 => (if bt1010.2 = 0 then (if (bt1010.1.size : Int) > 600 then ((gemotlaw1_name.f x976002).bind fun t1012 => (if x3.length < 8796093022208 then (gemotlaw1_made_p.l0 k x0 (x3 ++ [t1012]) (wrap64 (x4 + 1))) else (none))) else (if x3.length < 8796093022208 then (gemotlaw1_made_p.l0 k x0 (x3 ++ [bt1010.1]) (wrap64 (x4 + 1))) else (none))) else ((gemotlaw1_name.f x976002).bind fun t1019 => (if x3.length < 8796093022208 then (gemotlaw1_made_p.l0 k x0 (x3 ++ [t1019]) (wrap64 (x4 + 1))) else (none))))) else (if x57 = 7 then ((term_Hash.f x6).bind fun bt1023 => (if bt1023.2 = 0 then (if (bt1023.1.size : Int) > 600 then ((gemotlaw1_name.f x976002).bind fun t1025 => (if x3.length < 8796093022208 then (gemotlaw1_made_p.l0 k x0 (x3 ++ [t1025]) (wrap64 (x4 + 1))) else (none))) else (if x3.length < 8796093022208 then (gemotlaw1_made_p.l0 k x0 (x3 ++ [bt1023.1]) (wrap64 (x4 + 1))) else (none))) else ((gemotlaw1_name.f x976002).bind fun t1032 => (if x3.length < 8796093022208 then (gemotlaw1_made_p.l0 k x0 (x3 ++ [t1032]) (wrap64 (x4 + 1))) else (none))))) else (if x57 = 8 then ((term_Seal.f x6 x7 x8).bind fun bt1036 => (if bt1036.2 = 0 then (if (bt1036.1.size : Int) > 600 then ((gemotlaw1_name.f x976002).bind fun t1038 => (if x3.length < 8796093022208 then (gemotlaw1_made_p.l0 k x0 (x3 ++ [t1038]) (wrap64 (x4 + 1))) else (none))) else (if x3.length < 8796093022208 then (gemotlaw1_made_p.l0 k x0 (x3 ++ [bt1036.1]) (wrap64 (x4 + 1))) else (none))) else ((gemotlaw1_name.f x976002).bind fun t1045 => (if x3.length < 8796093022208 then (gemotlaw1_made_p.l0 k x0 (x3 ++ [t1045]) (wrap64 (x4 + 1))) else (none))))) else (if x57 = 9 then ((term_Sign.f x6 x7).bind fun bt1049 => (if bt1049.2 = 0 then (if (bt1049.1.size : Int) > 600 then ((gemotlaw1_name.f x976002).bind fun t1051 => (if x3.length < 8796093022208 then (gemotlaw1_made_p.l0 k x0 (x3 ++ [t1051]) (wrap64 (x4 + 1))) else (none))) else (if x3.length < 8796093022208 then (gemotlaw1_made_p.l0 k x0 (x3 ++ [bt1049.1]) (wrap64 (x4 + 1))) else (none))) else ((gemotlaw1_name.f x976002).bind fun t1058 => (if x3.length < 8796093022208 then (gemotlaw1_made_p.l0 k x0 (x3 ++ [t1058]) (wrap64 (x4 + 1))) else (none))))) else (if x10 = 0 then (if (x9.size : Int) > 600 then ((gemotlaw1_name.f x976002).bind fun t1062 => (if x3.length < 8796093022208 then (gemotlaw1_made_p.l0 k x0 (x3 ++ [t1062]) (wrap64 (x4 + 1))) else (none))) else (if x3.length < 8796093022208 then (gemotlaw1_made_p.l0 k x0 (x3 ++ [x9]) (wrap64 (x4 + 1))) else (none))) else ((gemotlaw1_name.f x976002).bind fun t1069 => (if x3.length < 8796093022208 then (gemotlaw1_made_p.l0 k x0 (x3 ++ [t1069]) (wrap64 (x4 + 1))) else (none)))))))
end
def gemotlaw1_made_p.f (k : Nat) (l0 : List (S169)) : Option (List ByteArray) := (term_Gen.f).bind fun t969 => ((gemotlaw1_name.f 1).bind fun t970 => (gemotlaw1_made_p.l0 k l0 (([t969, t970] : List ByteArray)) 0))
theorem gemotlaw1_made_p.mono_l : ∀ k, (∀ y0 y1 y2, LeO (gemotlaw1_made_p.l0 k y0 y1 y2) (gemotlaw1_made_p.l0 (k + 1) y0 y1 y2)) ∧ (∀ y0 y1 y2 y3, LeO (gemotlaw1_made_p.j1 k y0 y1 y2 y3) (gemotlaw1_made_p.j1 (k + 1) y0 y1 y2 y3)) ∧ (∀ y0 y1 y2 y3 y4 y5 y6 y7 y8 y9 y10 y11 y12 y13, LeO (gemotlaw1_made_p.j2 k y0 y1 y2 y3 y4 y5 y6 y7 y8 y9 y10 y11 y12 y13) (gemotlaw1_made_p.j2 (k + 1) y0 y1 y2 y3 y4 y5 y6 y7 y8 y9 y10 y11 y12 y13)) ∧ (∀ y0 y1 y2 y3 y4 y5 y6 y7 y8 y9 y10 y11 y12 y13, LeO (gemotlaw1_made_p.j3 k y0 y1 y2 y3 y4 y5 y6 y7 y8 y9 y10 y11 y12 y13) (gemotlaw1_made_p.j3 (k + 1) y0 y1 y2 y3 y4 y5 y6 y7 y8 y9 y10 y11 y12 y13))
  | 0 => ⟨fun _ _ _ r h => by simp [gemotlaw1_made_p.l0] at h, fun _ _ _ _ r h => by simp [gemotlaw1_made_p.j1] at h, fun _ _ _ _ _ _ _ _ _ _ _ _ _ _ r h => by simp [gemotlaw1_made_p.j2] at h, fun _ _ _ _ _ _ _ _ _ _ _ _ _ _ r h => by simp [gemotlaw1_made_p.j3] at h⟩
  | k + 1 => by
    obtain ⟨ih0, ih1, ih2, ih3⟩ := gemotlaw1_made_p.mono_l k
    refine ⟨?_, ?_, ?_, ?_⟩
    · intro y0 y1 y2
      unfold gemotlaw1_made_p.l0
      repeat' first
      | (with_reducible exact ih0 _ _ _)
      | (with_reducible exact ih1 _ _ _ _)
      | (with_reducible exact ih2 _ _ _ _ _ _ _ _ _ _ _ _ _ _)
      | (with_reducible exact ih3 _ _ _ _ _ _ _ _ _ _ _ _ _ _)
      | (with_reducible exact LeO.refl _)
      | (with_reducible exact LeO.none _)
      | (with_reducible refine LeO.ite ?_ ?_)
      | (with_reducible refine LeO.bind ?_ (fun _ => ?_))
      | exact ih0 _ _ _
      | exact ih1 _ _ _ _
      | exact ih2 _ _ _ _ _ _ _ _ _ _ _ _ _ _
      | exact ih3 _ _ _ _ _ _ _ _ _ _ _ _ _ _
      | exact LeO.none _
      | refine LeO.ite ?_ ?_
      | refine LeO.bind ?_ (fun _ => ?_)
    · intro y0 y1 y2 y3
      unfold gemotlaw1_made_p.j1
      repeat' first
      | (with_reducible exact ih0 _ _ _)
      | (with_reducible exact ih1 _ _ _ _)
      | (with_reducible exact ih2 _ _ _ _ _ _ _ _ _ _ _ _ _ _)
      | (with_reducible exact ih3 _ _ _ _ _ _ _ _ _ _ _ _ _ _)
      | (with_reducible exact LeO.refl _)
      | (with_reducible exact LeO.none _)
      | (with_reducible refine LeO.ite ?_ ?_)
      | (with_reducible refine LeO.bind ?_ (fun _ => ?_))
      | exact ih0 _ _ _
      | exact ih1 _ _ _ _
      | exact ih2 _ _ _ _ _ _ _ _ _ _ _ _ _ _
      | exact ih3 _ _ _ _ _ _ _ _ _ _ _ _ _ _
      | exact LeO.none _
      | refine LeO.ite ?_ ?_
      | refine LeO.bind ?_ (fun _ => ?_)
    · intro y0 y1 y2 y3 y4 y5 y6 y7 y8 y9 y10 y11 y12 y13
      unfold gemotlaw1_made_p.j2
      repeat' first
      | (with_reducible exact ih0 _ _ _)
      | (with_reducible exact ih1 _ _ _ _)
      | (with_reducible exact ih2 _ _ _ _ _ _ _ _ _ _ _ _ _ _)
      | (with_reducible exact ih3 _ _ _ _ _ _ _ _ _ _ _ _ _ _)
      | (with_reducible exact LeO.refl _)
      | (with_reducible exact LeO.none _)
      | (with_reducible refine LeO.ite ?_ ?_)
      | (with_reducible refine LeO.bind ?_ (fun _ => ?_))
      | exact ih0 _ _ _
      | exact ih1 _ _ _ _
      | exact ih2 _ _ _ _ _ _ _ _ _ _ _ _ _ _
      | exact ih3 _ _ _ _ _ _ _ _ _ _ _ _ _ _
      | exact LeO.none _
      | refine LeO.ite ?_ ?_
      | refine LeO.bind ?_ (fun _ => ?_)
    · intro y0 y1 y2 y3 y4 y5 y6 y7 y8 y9 y10 y11 y12 y13
      unfold gemotlaw1_made_p.j3
      repeat' first
      | (with_reducible exact ih0 _ _ _)
      | (with_reducible exact ih1 _ _ _ _)
      | (with_reducible exact ih2 _ _ _ _ _ _ _ _ _ _ _ _ _ _)
      | (with_reducible exact ih3 _ _ _ _ _ _ _ _ _ _ _ _ _ _)
      | (with_reducible exact LeO.refl _)
      | (with_reducible exact LeO.none _)
      | (with_reducible refine LeO.ite ?_ ?_)
      | (with_reducible refine LeO.bind ?_ (fun _ => ?_))
      | exact ih0 _ _ _
      | exact ih1 _ _ _ _
      | exact ih2 _ _ _ _ _ _ _ _ _ _ _ _ _ _
      | exact ih3 _ _ _ _ _ _ _ _ _ _ _ _ _ _
      | exact LeO.none _
      | refine LeO.ite ?_ ?_
      | refine LeO.bind ?_ (fun _ => ?_)
theorem gemotlaw1_made_p.mono : ∀ a0 k, LeO (gemotlaw1_made_p.f k a0) (gemotlaw1_made_p.f (k + 1) a0) := by
  intro a0 k
  obtain ⟨ih0, ih1, ih2, ih3⟩ := gemotlaw1_made_p.mono_l k
  unfold gemotlaw1_made_p.f
  repeat' first
      | (with_reducible exact ih0 _ _ _)
      | (with_reducible exact ih1 _ _ _ _)
      | (with_reducible exact ih2 _ _ _ _ _ _ _ _ _ _ _ _ _ _)
      | (with_reducible exact ih3 _ _ _ _ _ _ _ _ _ _ _ _ _ _)
      | (with_reducible exact LeO.refl _)
      | (with_reducible exact LeO.none _)
      | (with_reducible refine LeO.ite ?_ ?_)
      | (with_reducible refine LeO.bind ?_ (fun _ => ?_))
      | exact ih0 _ _ _
      | exact ih1 _ _ _ _
      | exact ih2 _ _ _ _ _ _ _ _ _ _ _ _ _ _
      | exact ih3 _ _ _ _ _ _ _ _ _ _ _ _ _ _
      | exact LeO.none _
      | refine LeO.ite ?_ ?_
      | refine LeO.bind ?_ (fun _ => ?_)
set_option maxHeartbeats 8000000 in
set_option maxRecDepth 100000 in
theorem gemotlaw1_made_p.calls (k : Nat) (A0 : Option Addr) (c0 : Nat) (l0 : List (S169)) (r : List ByteArray) (w : World) (hr0 : Kd.C k169 w A0 l0.length l0) (hc0 : l0.length ≤ c0) (h : gemotlaw1_made_p.f k l0 = some r) :
    Calls Try.prog 97 #[.slice A0 l0.length c0] w fun e w' => ∃ v0_ : Value, e = .returned (v0_) ∧ Kd.R Kd.string 23 w' w.heap.size (fun _ => True) v0_ r ∧ Below w.heap.size w w' := by
  have hu169 := Try.underlying169
  have HR0 := Aside0.mk hr0
  have HC0 := Aside0.mk hc0
  clear hr0 hc0
  have HB := Aside0.mk (Below.refl w.heap.size w)
  have H : ((term_Gen.f).bind fun t969 => ((gemotlaw1_name.f 1).bind fun t970 => (gemotlaw1_made_p.l0 k l0 (([t969, t970] : List ByteArray)) 0))) = some r := h
  clear h
  replace H := Option.bind_eq_some_iff.mp H
  obtain ⟨t969, A20, H⟩ := H
  replace H : ((gemotlaw1_name.f 1).bind fun t970 => (gemotlaw1_made_p.l0 k l0 (([t969, t970] : List ByteArray)) 0)) = some r := H
  have A2 := Aside0.mk A20
  clear A20
  replace H := Option.bind_eq_some_iff.mp H
  obtain ⟨t970, A30, H⟩ := H
  replace H : (gemotlaw1_made_p.l0 k l0 (([t969, t970] : List ByteArray)) 0) = some r := H
  have A3 := Aside0.mk A30
  clear A30
  obtain ⟨y971, hy971⟩ : ∃ y_ : List ByteArray, y_ = (([t969, t970] : List ByteArray)) := ⟨_, rfl⟩
  replace H : (gemotlaw1_made_p.l0 k l0 y971 0) = some r := by first | (rw [hy971]; with_reducible exact H) | (have H2_ := (Option.bind_some _ _).symm.trans H; rw [hy971]; with_reducible exact H2_) | (have H2_ := (Option.bind_some _ _).symm.trans H; with_reducible exact H2_) | with_reducible exact H | (rw [hy971]; exact H) | exact H
  have Ny971 := Aside0.mk hy971
  clear hy971
  have H' := Aside0.mk H
  clear H
  go_enter Try.func97, Try.ntmps97
  go_wp2_with (first | ((with_reducible refine gate_callee (f := 86) rfl ?_); refine goesL_ (some 11) rfl rfl Try.func86 (by kernel_rfl) rfl #[] rfl (by (try simp only [List.map_toArray, List.map_cons, List.map_nil]); first | done | rfl | (simp only [List.length_drop, List.length_take]; rfl)) ?_; (with_reducible refine (term_Gen.calls  t969 _ A2.out).mono ?_); rintro e w' ⟨rfl, ⟨nd, rfl⟩⟩; refine ⟨_, rfl, ?_⟩) | ((with_reducible refine gate_callee (f := 142) rfl ?_); refine goesL_ (some 12) rfl rfl Try.func142 (by kernel_rfl) rfl #[.int .i64 1] rfl (by (try simp only [List.map_toArray, List.map_cons, List.map_nil]); first | done | rfl | (simp only [List.length_drop, List.length_take]; rfl)) ?_; (with_reducible refine (gemotlaw1_name.calls 1 t970 _ A3.out).mono ?_); rintro e w4 ⟨rfl, hb⟩; refine ⟨_, rfl, ?_⟩; have n0_ := Aside0.mk (below_step (by repeat (first | (with_reducible first | exact HB.out | apply below_alloc | apply pw_below_drewN | apply below_drew1) | exact HB.out)) hb); clear HB; have HB := n0_; clear n0_; (try clear hb); (try clear hb2); (try clear hk); (try clear hi)) | ((with_reducible refine gate_dst (N := 13) rfl ?_); (try (refine gate_guard (by rfl) ?_; dsimp only)); refine Kd.R_lit Kd.string _ 23 ?hg (N := 13) ?hd (xs := ([t969, t970] : List ByteArray)) (inner := [.string t969, .string t970]) (ok := fun _ => True) (okp := fun _ => True) ?hr ?hp (fun _ hk => hk) trivial (Below.refl _ _) (Nat.le_refl _) (by simp) ?_; (case hd => rfl); (case hg => rfl); (case hr => first | (go_simp; done) | (go_simp; rfl)); (case hp => exact (Reps.one (show Kd.M Kd.string _ _ _ t969 [.string t969] from rfl) (Reps.one (show Kd.M Kd.string _ _ _ t970 [.string t970] from rfl) (Reps.none _ _)))); intro v972 w5 ho6 hb hg_ hnew_; clear hg_ hnew_; (first | rw [← Ny971.out] at ho6 | (simp only [Int.reduceToNat] at ho6; rw [← Ny971.out] at ho6)); have n0_ := Aside0.mk (Kd.R_lower ho6 (below_size (by repeat (first | (with_reducible first | exact HB.out | apply below_alloc | apply pw_below_drewN | apply below_drew1) | exact HB.out)))); have n1_ := Aside0.mk (below_step (by repeat (first | (with_reducible first | exact HB.out | apply below_alloc | apply pw_below_drewN | apply below_drew1) | exact HB.out)) hb); clear HB; have HO973 := n0_; have HB := n1_; clear n0_ n1_; clear hb ho6))
  go_loopg [3, 4] k (fun kq v3 v4 w' => ∃ (x3_1 : List ByteArray) (x4_1 : Int), v4 = .int .i64 x4_1 ∧ Aside0 (gemotlaw1_made_p.l0 kq l0 x3_1 x4_1 = some r) ∧ Aside0 (kq ≤ k) ∧ Aside0 (Kd.R Kd.string 23 w' w.heap.size (fun _ => True) v3 x3_1) ∧ Aside0 (Below w.heap.size w w'))
  case atStart => exact ⟨(y971), (0), (by first | rfl | (simp; done) | (simp [*]; done)), H', ⟨Nat.le_refl _⟩, ⟨by (with_reducible repeat (first | apply Kd.R_alloc | apply Kd.R_drewN | apply Kd.R_drew)); exact HO973.out⟩, ⟨by repeat (first | (with_reducible first | exact HB.out | apply below_alloc | apply pw_below_drewN | apply below_drew1) | exact HB.out)⟩⟩
  case round =>
    clear H'
    try clear c1
    try clear p2
    obtain ⟨x3_1, x4_1, rfl, HA, HK1, HO_3, HB⟩ := hrel
    cases gk with
    | zero => exact absurd HA.out (by simp [gemotlaw1_made_p.l0])
    | succ k1 =>
      have H := HA.out
      clear HA
      simp only [gemotlaw1_made_p.l0] at H
      have HC7 := Aside0.mk H
      clear H
      go_upto_region 3 with (fail)
      go_cut [21] (fun v21 wc => ∃ (kq : Nat) (x21_6 : Bool), v21 = .bool x21_6 ∧ Aside0 (gemotlaw1_made_p.j1 kq l0 x3_1 x4_1 x21_6 = some r) ∧ Aside0 (kq ≤ k1) ∧ Aside0 (Kd.R Kd.string 23 wc w.heap.size (fun _ => True) u3 x3_1) ∧ Aside0 (Below w.heap.size w wc))
      case first =>
        have H := HC7.out
        clear HC7
        by_cases c8 : x4_1 < (l0.length : Int)
        · rw [if_pos c8] at H
          have c8b0 : decide (x4_1 < (l0.length : Int)) = true := decide_eq_true c8
          clear c8
          (first | rw [c8b0] | (simp only [i64_w, i32_w]; rw [c8b0]) | skip)
          have H' := Aside0.mk H
          clear H
          go_wp2
          go_meet
          case rel => exact ⟨_, (decide (x4_1 < 40)), (by first | rfl | (simp; done) | (simp [*]; done)), H', ⟨by have := HK1.out; first | omega | exact Nat.le_refl _⟩, ⟨by (with_reducible repeat (first | apply Kd.R_alloc | apply Kd.R_drewN | apply Kd.R_drew)); exact HO_3.out⟩, ⟨by repeat (first | (with_reducible first | exact HB.out | apply below_alloc | apply pw_below_drewN | apply below_drew1) | exact HB.out)⟩⟩
        · rw [if_neg c8] at H
          have c8b0 : decide (x4_1 < (l0.length : Int)) = false := decide_eq_false c8
          clear c8
          (first | rw [c8b0] | (simp only [i64_w, i32_w]; rw [c8b0]) | skip)
          have H' := Aside0.mk H
          clear H
          go_wp2
          go_meet
          case rel => exact ⟨_, (false), (by first | rfl | (simp; done) | (simp [*]; done)), H', ⟨by have := HK1.out; first | omega | exact Nat.le_refl _⟩, ⟨by (with_reducible repeat (first | apply Kd.R_alloc | apply Kd.R_drewN | apply Kd.R_drew)); exact HO_3.out⟩, ⟨by repeat (first | (with_reducible first | exact HB.out | apply below_alloc | apply pw_below_drewN | apply below_drew1) | exact HB.out)⟩⟩
      case rest =>
        clear HC7
        try clear c1
        try clear p2
        try clear c8
        try clear c8b0
        try clear p2
        obtain ⟨kq, x21_6, rfl, HA, HJ6, HO_3, HB⟩ := hcut
        cases kq with
        | zero => exact absurd HA.out (by simp [gemotlaw1_made_p.j1])
        | succ kj6 =>
          have H := HA.out
          clear HA
          simp only [gemotlaw1_made_p.j1] at H
          by_cases c9 : x21_6 = true
          · subst c9
            have H1 : (if 0 ≤ x4_1 then (if x4_1 < (l0.length : Int) then ((gemotlaw1_pick.f ((rd_T169 l0 x4_1).f1) (x3_1.length : Int)).bind fun t976 => (if 0 ≤ t976 then (if t976 < (x3_1.length : Int) then ((gemotlaw1_pick.f ((rd_T169 l0 x4_1).f2) (x3_1.length : Int)).bind fun t978 => (if 0 ≤ t978 then (if t978 < (x3_1.length : Int) then ((gemotlaw1_pick.f ((rd_T169 l0 x4_1).f3) (x3_1.length : Int)).bind fun t980 => (if 0 ≤ t980 then (if t980 < (x3_1.length : Int) then ((gemotlaw1_name.f ((rd_T169 l0 x4_1).f1)).bind fun t982 => ((gemotlaw1_pick.f ((rd_T169 l0 x4_1).f0) 10).bind fun t983 => (if t983 = 1 then (gemotlaw1_made_p.j2 kj6 l0 x3_1 x4_1 (rdOf ByteArray.empty x3_1 t976) (rdOf ByteArray.empty x3_1 t978) (rdOf ByteArray.empty x3_1 t980) t982 0 t983 (t983 == 1) ((rd_T169 l0 x4_1).f0) ((rd_T169 l0 x4_1).f1) ((rd_T169 l0 x4_1).f2) ((rd_T169 l0 x4_1).f3)) else (if t983 = 2 then (gemotlaw1_made_p.j2 kj6 l0 x3_1 x4_1 (rdOf ByteArray.empty x3_1 t976) (rdOf ByteArray.empty x3_1 t978) (rdOf ByteArray.empty x3_1 t980) t982 0 t983 (t983 == 2) ((rd_T169 l0 x4_1).f0) ((rd_T169 l0 x4_1).f1) ((rd_T169 l0 x4_1).f2) ((rd_T169 l0 x4_1).f3)) else (gemotlaw1_made_p.j2 kj6 l0 x3_1 x4_1 (rdOf ByteArray.empty x3_1 t976) (rdOf ByteArray.empty x3_1 t978) (rdOf ByteArray.empty x3_1 t980) t982 0 t983 (t983 == 3) ((rd_T169 l0 x4_1).f0) ((rd_T169 l0 x4_1).f1) ((rd_T169 l0 x4_1).f2) ((rd_T169 l0 x4_1).f3)))))) else (none)) else (none))) else (none)) else (none))) else (none)) else (none))) else (none)) else (none)) = some r := by rw [if_pos rfl] at H; exact H
            clear H
            have H := H1
            clear H1
            by_cases c10 : 0 ≤ x4_1
            · rw [if_pos c10] at H
              have c10b0 : decide (0 ≤ x4_1) = true := decide_eq_true c10
              clear c10
              by_cases c11 : x4_1 < (l0.length : Int)
              · rw [if_pos c11] at H
                have c11b0 : decide (x4_1 < (l0.length : Int)) = true := decide_eq_true c11
                clear c11
                replace H := Option.bind_eq_some_iff.mp H
                obtain ⟨t976, A120, H⟩ := H
                replace H : (if 0 ≤ t976 then (if t976 < (x3_1.length : Int) then ((gemotlaw1_pick.f ((rd_T169 l0 x4_1).f2) (x3_1.length : Int)).bind fun t978 => (if 0 ≤ t978 then (if t978 < (x3_1.length : Int) then ((gemotlaw1_pick.f ((rd_T169 l0 x4_1).f3) (x3_1.length : Int)).bind fun t980 => (if 0 ≤ t980 then (if t980 < (x3_1.length : Int) then ((gemotlaw1_name.f ((rd_T169 l0 x4_1).f1)).bind fun t982 => ((gemotlaw1_pick.f ((rd_T169 l0 x4_1).f0) 10).bind fun t983 => (if t983 = 1 then (gemotlaw1_made_p.j2 kj6 l0 x3_1 x4_1 (rdOf ByteArray.empty x3_1 t976) (rdOf ByteArray.empty x3_1 t978) (rdOf ByteArray.empty x3_1 t980) t982 0 t983 (t983 == 1) ((rd_T169 l0 x4_1).f0) ((rd_T169 l0 x4_1).f1) ((rd_T169 l0 x4_1).f2) ((rd_T169 l0 x4_1).f3)) else (if t983 = 2 then (gemotlaw1_made_p.j2 kj6 l0 x3_1 x4_1 (rdOf ByteArray.empty x3_1 t976) (rdOf ByteArray.empty x3_1 t978) (rdOf ByteArray.empty x3_1 t980) t982 0 t983 (t983 == 2) ((rd_T169 l0 x4_1).f0) ((rd_T169 l0 x4_1).f1) ((rd_T169 l0 x4_1).f2) ((rd_T169 l0 x4_1).f3)) else (gemotlaw1_made_p.j2 kj6 l0 x3_1 x4_1 (rdOf ByteArray.empty x3_1 t976) (rdOf ByteArray.empty x3_1 t978) (rdOf ByteArray.empty x3_1 t980) t982 0 t983 (t983 == 3) ((rd_T169 l0 x4_1).f0) ((rd_T169 l0 x4_1).f1) ((rd_T169 l0 x4_1).f2) ((rd_T169 l0 x4_1).f3)))))) else (none)) else (none))) else (none)) else (none))) else (none)) else (none)) = some r := H
                have A12 := Aside0.mk A120
                clear A120
                by_cases c13 : 0 ≤ t976
                · rw [if_pos c13] at H
                  have c13b0 : decide (0 ≤ t976) = true := decide_eq_true c13
                  clear c13
                  by_cases c14 : t976 < (x3_1.length : Int)
                  · rw [if_pos c14] at H
                    have c14b0 : decide (t976 < (x3_1.length : Int)) = true := decide_eq_true c14
                    clear c14
                    replace H := Option.bind_eq_some_iff.mp H
                    obtain ⟨t978, A150, H⟩ := H
                    replace H : (if 0 ≤ t978 then (if t978 < (x3_1.length : Int) then ((gemotlaw1_pick.f ((rd_T169 l0 x4_1).f3) (x3_1.length : Int)).bind fun t980 => (if 0 ≤ t980 then (if t980 < (x3_1.length : Int) then ((gemotlaw1_name.f ((rd_T169 l0 x4_1).f1)).bind fun t982 => ((gemotlaw1_pick.f ((rd_T169 l0 x4_1).f0) 10).bind fun t983 => (if t983 = 1 then (gemotlaw1_made_p.j2 kj6 l0 x3_1 x4_1 (rdOf ByteArray.empty x3_1 t976) (rdOf ByteArray.empty x3_1 t978) (rdOf ByteArray.empty x3_1 t980) t982 0 t983 (t983 == 1) ((rd_T169 l0 x4_1).f0) ((rd_T169 l0 x4_1).f1) ((rd_T169 l0 x4_1).f2) ((rd_T169 l0 x4_1).f3)) else (if t983 = 2 then (gemotlaw1_made_p.j2 kj6 l0 x3_1 x4_1 (rdOf ByteArray.empty x3_1 t976) (rdOf ByteArray.empty x3_1 t978) (rdOf ByteArray.empty x3_1 t980) t982 0 t983 (t983 == 2) ((rd_T169 l0 x4_1).f0) ((rd_T169 l0 x4_1).f1) ((rd_T169 l0 x4_1).f2) ((rd_T169 l0 x4_1).f3)) else (gemotlaw1_made_p.j2 kj6 l0 x3_1 x4_1 (rdOf ByteArray.empty x3_1 t976) (rdOf ByteArray.empty x3_1 t978) (rdOf ByteArray.empty x3_1 t980) t982 0 t983 (t983 == 3) ((rd_T169 l0 x4_1).f0) ((rd_T169 l0 x4_1).f1) ((rd_T169 l0 x4_1).f2) ((rd_T169 l0 x4_1).f3)))))) else (none)) else (none))) else (none)) else (none)) = some r := H
                    have A15 := Aside0.mk A150
                    clear A150
                    by_cases c16 : 0 ≤ t978
                    · rw [if_pos c16] at H
                      have c16b0 : decide (0 ≤ t978) = true := decide_eq_true c16
                      clear c16
                      by_cases c17 : t978 < (x3_1.length : Int)
                      · rw [if_pos c17] at H
                        have c17b0 : decide (t978 < (x3_1.length : Int)) = true := decide_eq_true c17
                        clear c17
                        replace H := Option.bind_eq_some_iff.mp H
                        obtain ⟨t980, A180, H⟩ := H
                        replace H : (if 0 ≤ t980 then (if t980 < (x3_1.length : Int) then ((gemotlaw1_name.f ((rd_T169 l0 x4_1).f1)).bind fun t982 => ((gemotlaw1_pick.f ((rd_T169 l0 x4_1).f0) 10).bind fun t983 => (if t983 = 1 then (gemotlaw1_made_p.j2 kj6 l0 x3_1 x4_1 (rdOf ByteArray.empty x3_1 t976) (rdOf ByteArray.empty x3_1 t978) (rdOf ByteArray.empty x3_1 t980) t982 0 t983 (t983 == 1) ((rd_T169 l0 x4_1).f0) ((rd_T169 l0 x4_1).f1) ((rd_T169 l0 x4_1).f2) ((rd_T169 l0 x4_1).f3)) else (if t983 = 2 then (gemotlaw1_made_p.j2 kj6 l0 x3_1 x4_1 (rdOf ByteArray.empty x3_1 t976) (rdOf ByteArray.empty x3_1 t978) (rdOf ByteArray.empty x3_1 t980) t982 0 t983 (t983 == 2) ((rd_T169 l0 x4_1).f0) ((rd_T169 l0 x4_1).f1) ((rd_T169 l0 x4_1).f2) ((rd_T169 l0 x4_1).f3)) else (gemotlaw1_made_p.j2 kj6 l0 x3_1 x4_1 (rdOf ByteArray.empty x3_1 t976) (rdOf ByteArray.empty x3_1 t978) (rdOf ByteArray.empty x3_1 t980) t982 0 t983 (t983 == 3) ((rd_T169 l0 x4_1).f0) ((rd_T169 l0 x4_1).f1) ((rd_T169 l0 x4_1).f2) ((rd_T169 l0 x4_1).f3)))))) else (none)) else (none)) = some r := H
                        have A18 := Aside0.mk A180
                        clear A180
                        by_cases c19 : 0 ≤ t980
                        · rw [if_pos c19] at H
                          have c19b0 : decide (0 ≤ t980) = true := decide_eq_true c19
                          clear c19
                          by_cases c20 : t980 < (x3_1.length : Int)
                          · rw [if_pos c20] at H
                            have c20b0 : decide (t980 < (x3_1.length : Int)) = true := decide_eq_true c20
                            clear c20
                            replace H := Option.bind_eq_some_iff.mp H
                            obtain ⟨t982, A210, H⟩ := H
                            replace H : ((gemotlaw1_pick.f ((rd_T169 l0 x4_1).f0) 10).bind fun t983 => (if t983 = 1 then (gemotlaw1_made_p.j2 kj6 l0 x3_1 x4_1 (rdOf ByteArray.empty x3_1 t976) (rdOf ByteArray.empty x3_1 t978) (rdOf ByteArray.empty x3_1 t980) t982 0 t983 (t983 == 1) ((rd_T169 l0 x4_1).f0) ((rd_T169 l0 x4_1).f1) ((rd_T169 l0 x4_1).f2) ((rd_T169 l0 x4_1).f3)) else (if t983 = 2 then (gemotlaw1_made_p.j2 kj6 l0 x3_1 x4_1 (rdOf ByteArray.empty x3_1 t976) (rdOf ByteArray.empty x3_1 t978) (rdOf ByteArray.empty x3_1 t980) t982 0 t983 (t983 == 2) ((rd_T169 l0 x4_1).f0) ((rd_T169 l0 x4_1).f1) ((rd_T169 l0 x4_1).f2) ((rd_T169 l0 x4_1).f3)) else (gemotlaw1_made_p.j2 kj6 l0 x3_1 x4_1 (rdOf ByteArray.empty x3_1 t976) (rdOf ByteArray.empty x3_1 t978) (rdOf ByteArray.empty x3_1 t980) t982 0 t983 (t983 == 3) ((rd_T169 l0 x4_1).f0) ((rd_T169 l0 x4_1).f1) ((rd_T169 l0 x4_1).f2) ((rd_T169 l0 x4_1).f3))))) = some r := H
                            have A21 := Aside0.mk A210
                            clear A210
                            replace H := Option.bind_eq_some_iff.mp H
                            obtain ⟨t983, A220, H⟩ := H
                            replace H : (if t983 = 1 then (gemotlaw1_made_p.j2 kj6 l0 x3_1 x4_1 (rdOf ByteArray.empty x3_1 t976) (rdOf ByteArray.empty x3_1 t978) (rdOf ByteArray.empty x3_1 t980) t982 0 t983 (t983 == 1) ((rd_T169 l0 x4_1).f0) ((rd_T169 l0 x4_1).f1) ((rd_T169 l0 x4_1).f2) ((rd_T169 l0 x4_1).f3)) else (if t983 = 2 then (gemotlaw1_made_p.j2 kj6 l0 x3_1 x4_1 (rdOf ByteArray.empty x3_1 t976) (rdOf ByteArray.empty x3_1 t978) (rdOf ByteArray.empty x3_1 t980) t982 0 t983 (t983 == 2) ((rd_T169 l0 x4_1).f0) ((rd_T169 l0 x4_1).f1) ((rd_T169 l0 x4_1).f2) ((rd_T169 l0 x4_1).f3)) else (gemotlaw1_made_p.j2 kj6 l0 x3_1 x4_1 (rdOf ByteArray.empty x3_1 t976) (rdOf ByteArray.empty x3_1 t978) (rdOf ByteArray.empty x3_1 t980) t982 0 t983 (t983 == 3) ((rd_T169 l0 x4_1).f0) ((rd_T169 l0 x4_1).f1) ((rd_T169 l0 x4_1).f2) ((rd_T169 l0 x4_1).f3)))) = some r := H
                            have A22 := Aside0.mk A220
                            clear A220
                            have HC23 := Aside0.mk H
                            clear H
                            have p974 : 0 ≤ (x4_1 : Int) := of_decide_eq_true (by first | (with_reducible assumption) | assumption)
                            have q974 : x4_1 < (l0.length : Int) := of_decide_eq_true (by first | (with_reducible assumption) | assumption)
                            obtain ⟨ad974, e974, hx974_0, hx974_1, hx974_2, hx974_3⟩ := at_T169 HR0.out x4_1 p974 q974
                            cases e974
                            replace hx974_0 := (HB.out.cell (World.block_lt_of_cell? w _ hx974_0)).trans hx974_0
                            replace hx974_1 := (HB.out.cell (World.block_lt_of_cell? w _ hx974_1)).trans hx974_1
                            replace hx974_2 := (HB.out.cell (World.block_lt_of_cell? w _ hx974_2)).trans hx974_2
                            replace hx974_3 := (HB.out.cell (World.block_lt_of_cell? w _ hx974_3)).trans hx974_3
                            replace p974 := eq_true p974
                            replace q974 := eq_true q974
                            go_upto_if 58 with (first | ((with_reducible refine gate_dst (N := 5) rfl ?_); (try (refine gate_guard (by rfl) ?_; dsimp only)); refine box_event ?hg (N := 5) ?hd (cs := #[.int .i64 0, .int .i64 0, .int .i64 0, .int .i64 0]) (t := 169) ?hr ?_; (case hd => rfl); (case hg => rfl); (case hr => first | (go_simp; done) | (go_simp; rfl)); intro gb975 hg w24 hbox hb; have n0_ := Aside0.mk (Kd.R_below (by (with_reducible repeat (first | apply Kd.R_alloc | apply Kd.R_drewN | apply Kd.R_drew)); exact HO_3.out) hb); have n1_ := Aside0.mk (below_step (by repeat (first | (with_reducible first | exact HB.out | apply below_alloc | apply pw_below_drewN | apply below_drew1) | exact HB.out)) hb); have n2_ := Aside0.mk (hbox); have n3_ := Aside0.mk ((by rw [hg]; exact (below_size (by repeat (first | (with_reducible first | exact HB.out | apply below_alloc | apply pw_below_drewN | apply below_drew1) | exact HB.out))) : w.heap.size ≤ gb975)); have n4_ := Aside0.mk ((by rw [hg]; exact (below_size (by repeat (first | (with_reducible first | exact HB.out | apply below_alloc | apply pw_below_drewN | apply below_drew1) | exact HB.out))) : w.heap.size ≤ gb975)); clear HO_3; clear HB; have HO_3 := n0_; have HB := n1_; have BK975 := n2_; have GW975 := n3_; have GE975 := n4_; clear n0_ n1_ n2_ n3_ n4_; clear hb hbox hg; have hcz25_0 : w24.cell? ⟨gb975, 0, none⟩ = some (.int .i64 0) := (blk_cell BK975.out 0).trans rfl; have hcz25_1 : w24.cell? ⟨gb975, 1, none⟩ = some (.int .i64 0) := (blk_cell BK975.out 1).trans rfl; have hcz25_2 : w24.cell? ⟨gb975, 2, none⟩ = some (.int .i64 0) := (blk_cell BK975.out 2).trans rfl; have hcz25_3 : w24.cell? ⟨gb975, 3, none⟩ = some (.int .i64 0) := (blk_cell BK975.out 3).trans rfl; have hfz25_0 := blk_frozen BK975.out 0; have hfz25_1 := blk_frozen BK975.out 1; have hfz25_2 := blk_frozen BK975.out 2; have hfz25_3 := blk_frozen BK975.out 3; obtain ⟨Ao26, co26, eo26⟩ := Kd.R_slice HO_3.out; subst eo26) | ((with_reducible refine gate_callee (f := 98) rfl ?_); refine goesL_ (some 33) rfl rfl Try.func98 (by kernel_rfl) rfl #[.int .i64 ((rd_T169 l0 x4_1).f1), .int .i64 (x3_1.length : Int)] rfl (by (try simp only [List.map_toArray, List.map_cons, List.map_nil]); first | done | rfl | (simp only [List.length_drop, List.length_take]; rfl)) ?_; (with_reducible refine (gemotlaw1_pick.calls ((rd_T169 l0 x4_1).f1) (x3_1.length : Int) t976 _ A12.out).mono ?_); rintro e w' ⟨rfl, ⟨nd, rfl⟩⟩; refine ⟨_, rfl, ?_⟩; have p977 : 0 ≤ (t976 : Int) := of_decide_eq_true (by first | (with_reducible assumption) | assumption); have q977 : t976 < (x3_1.length : Int) := of_decide_eq_true (by first | (with_reducible assumption) | assumption); obtain ⟨ad977, e977, hx977_0⟩ := Kd.at_string (Kd.R_reads' HO_3.out).2.2 t976 p977 q977; cases e977; have hn977_0 : ad977.block ≠ gb975 := Kd.own_blk (Kd.R_ne HO_3.out BK975.out (by decide)); have hn977_1 : ad977.block ≠ gb975 := Kd.own_blk (Kd.R_ne HO_3.out BK975.out (by decide)); have hn977_2 : ad977.block ≠ gb975 := Kd.own_blk (Kd.R_ne HO_3.out BK975.out (by decide)); have hn977_3 : ad977.block ≠ gb975 := Kd.own_blk (Kd.R_ne HO_3.out BK975.out (by decide)); replace hx977_0 := (cell_far (p := ⟨gb975, 0, none⟩) (by first | (rw [add_block]; exact hn977_0) | (show (Addr.add _ _).block ≠ _; rw [add_block]; exact hn977_0) | exact hn977_0) (.int .i64 ((rd_T169 l0 x4_1).f0))).trans hx977_0; replace hx977_0 := (cell_far (p := ⟨gb975, 1, none⟩) (by first | (rw [add_block]; exact hn977_1) | (show (Addr.add _ _).block ≠ _; rw [add_block]; exact hn977_1) | exact hn977_1) (.int .i64 ((rd_T169 l0 x4_1).f1))).trans hx977_0; replace hx977_0 := (cell_far (p := ⟨gb975, 2, none⟩) (by first | (rw [add_block]; exact hn977_2) | (show (Addr.add _ _).block ≠ _; rw [add_block]; exact hn977_2) | exact hn977_2) (.int .i64 ((rd_T169 l0 x4_1).f2))).trans hx977_0; replace hx977_0 := (cell_far (p := ⟨gb975, 3, none⟩) (by first | (rw [add_block]; exact hn977_3) | (show (Addr.add _ _).block ≠ _; rw [add_block]; exact hn977_3) | exact hn977_3) (.int .i64 ((rd_T169 l0 x4_1).f3))).trans hx977_0; clear hn977_0; clear hn977_1; clear hn977_2; clear hn977_3; replace p977 := eq_true p977; replace q977 := eq_true q977) | ((with_reducible refine gate_callee (f := 98) rfl ?_); refine goesL_ (some 41) rfl rfl Try.func98 (by kernel_rfl) rfl #[.int .i64 ((rd_T169 l0 x4_1).f2), .int .i64 (x3_1.length : Int)] rfl (by (try simp only [List.map_toArray, List.map_cons, List.map_nil]); first | done | rfl | (simp only [List.length_drop, List.length_take]; rfl)) ?_; (with_reducible refine (gemotlaw1_pick.calls ((rd_T169 l0 x4_1).f2) (x3_1.length : Int) t978 _ A15.out).mono ?_); rintro e w' ⟨rfl, ⟨nd, rfl⟩⟩; refine ⟨_, rfl, ?_⟩; have p979 : 0 ≤ (t978 : Int) := of_decide_eq_true (by first | (with_reducible assumption) | assumption); have q979 : t978 < (x3_1.length : Int) := of_decide_eq_true (by first | (with_reducible assumption) | assumption); obtain ⟨ad979, e979, hx979_0⟩ := Kd.at_string (Kd.R_reads' HO_3.out).2.2 t978 p979 q979; obtain rfl : ad977 = ad979 := (by injection e979); have hn979_0 : ad977.block ≠ gb975 := Kd.own_blk (Kd.R_ne HO_3.out BK975.out (by decide)); have hn979_1 : ad977.block ≠ gb975 := Kd.own_blk (Kd.R_ne HO_3.out BK975.out (by decide)); have hn979_2 : ad977.block ≠ gb975 := Kd.own_blk (Kd.R_ne HO_3.out BK975.out (by decide)); have hn979_3 : ad977.block ≠ gb975 := Kd.own_blk (Kd.R_ne HO_3.out BK975.out (by decide)); replace hx979_0 := (cell_far (p := ⟨gb975, 0, none⟩) (by first | (rw [add_block]; exact hn979_0) | (show (Addr.add _ _).block ≠ _; rw [add_block]; exact hn979_0) | exact hn979_0) (.int .i64 ((rd_T169 l0 x4_1).f0))).trans hx979_0; replace hx979_0 := (cell_far (p := ⟨gb975, 1, none⟩) (by first | (rw [add_block]; exact hn979_1) | (show (Addr.add _ _).block ≠ _; rw [add_block]; exact hn979_1) | exact hn979_1) (.int .i64 ((rd_T169 l0 x4_1).f1))).trans hx979_0; replace hx979_0 := (cell_far (p := ⟨gb975, 2, none⟩) (by first | (rw [add_block]; exact hn979_2) | (show (Addr.add _ _).block ≠ _; rw [add_block]; exact hn979_2) | exact hn979_2) (.int .i64 ((rd_T169 l0 x4_1).f2))).trans hx979_0; replace hx979_0 := (cell_far (p := ⟨gb975, 3, none⟩) (by first | (rw [add_block]; exact hn979_3) | (show (Addr.add _ _).block ≠ _; rw [add_block]; exact hn979_3) | exact hn979_3) (.int .i64 ((rd_T169 l0 x4_1).f3))).trans hx979_0; clear hn979_0; clear hn979_1; clear hn979_2; clear hn979_3; replace p979 := eq_true p979; replace q979 := eq_true q979) | ((with_reducible refine gate_callee (f := 98) rfl ?_); refine goesL_ (some 49) rfl rfl Try.func98 (by kernel_rfl) rfl #[.int .i64 ((rd_T169 l0 x4_1).f3), .int .i64 (x3_1.length : Int)] rfl (by (try simp only [List.map_toArray, List.map_cons, List.map_nil]); first | done | rfl | (simp only [List.length_drop, List.length_take]; rfl)) ?_; (with_reducible refine (gemotlaw1_pick.calls ((rd_T169 l0 x4_1).f3) (x3_1.length : Int) t980 _ A18.out).mono ?_); rintro e w' ⟨rfl, ⟨nd, rfl⟩⟩; refine ⟨_, rfl, ?_⟩; have p981 : 0 ≤ (t980 : Int) := of_decide_eq_true (by first | (with_reducible assumption) | assumption); have q981 : t980 < (x3_1.length : Int) := of_decide_eq_true (by first | (with_reducible assumption) | assumption); obtain ⟨ad981, e981, hx981_0⟩ := Kd.at_string (Kd.R_reads' HO_3.out).2.2 t980 p981 q981; obtain rfl : ad977 = ad981 := (by injection e981); have hn981_0 : ad977.block ≠ gb975 := Kd.own_blk (Kd.R_ne HO_3.out BK975.out (by decide)); have hn981_1 : ad977.block ≠ gb975 := Kd.own_blk (Kd.R_ne HO_3.out BK975.out (by decide)); have hn981_2 : ad977.block ≠ gb975 := Kd.own_blk (Kd.R_ne HO_3.out BK975.out (by decide)); have hn981_3 : ad977.block ≠ gb975 := Kd.own_blk (Kd.R_ne HO_3.out BK975.out (by decide)); replace hx981_0 := (cell_far (p := ⟨gb975, 0, none⟩) (by first | (rw [add_block]; exact hn981_0) | (show (Addr.add _ _).block ≠ _; rw [add_block]; exact hn981_0) | exact hn981_0) (.int .i64 ((rd_T169 l0 x4_1).f0))).trans hx981_0; replace hx981_0 := (cell_far (p := ⟨gb975, 1, none⟩) (by first | (rw [add_block]; exact hn981_1) | (show (Addr.add _ _).block ≠ _; rw [add_block]; exact hn981_1) | exact hn981_1) (.int .i64 ((rd_T169 l0 x4_1).f1))).trans hx981_0; replace hx981_0 := (cell_far (p := ⟨gb975, 2, none⟩) (by first | (rw [add_block]; exact hn981_2) | (show (Addr.add _ _).block ≠ _; rw [add_block]; exact hn981_2) | exact hn981_2) (.int .i64 ((rd_T169 l0 x4_1).f2))).trans hx981_0; replace hx981_0 := (cell_far (p := ⟨gb975, 3, none⟩) (by first | (rw [add_block]; exact hn981_3) | (show (Addr.add _ _).block ≠ _; rw [add_block]; exact hn981_3) | exact hn981_3) (.int .i64 ((rd_T169 l0 x4_1).f3))).trans hx981_0; clear hn981_0; clear hn981_1; clear hn981_2; clear hn981_3; replace p981 := eq_true p981; replace q981 := eq_true q981) | ((with_reducible refine gate_callee (f := 142) rfl ?_); refine goesL_ (some 54) rfl rfl Try.func142 (by kernel_rfl) rfl #[.int .i64 ((rd_T169 l0 x4_1).f1)] rfl (by (try simp only [List.map_toArray, List.map_cons, List.map_nil]); first | done | rfl | (simp only [List.length_drop, List.length_take]; rfl)) ?_; (with_reducible refine (gemotlaw1_name.calls ((rd_T169 l0 x4_1).f1) t982 _ A21.out).mono ?_); rintro e w27 ⟨rfl, hb⟩; refine ⟨_, rfl, ?_⟩; have n0_ := Aside0.mk (Kd.R_below (by (with_reducible repeat (first | apply Kd.R_alloc | apply Kd.R_drewN | apply Kd.R_drew)); exact (Kd.R_mono (Kd.R_far (p := ⟨gb975, 3, none⟩) (Kd.R_far (p := ⟨gb975, 2, none⟩) (Kd.R_far (p := ⟨gb975, 1, none⟩) (Kd.R_far (p := ⟨gb975, 0, none⟩) (Kd.R_types HO_3.out BK975.out (by decide)) (fun _ hk => hk.2) (.int .i64 ((rd_T169 l0 x4_1).f0))) (fun _ hk => hk.2) (.int .i64 ((rd_T169 l0 x4_1).f1))) (fun _ hk => hk.2) (.int .i64 ((rd_T169 l0 x4_1).f2))) (fun _ hk => hk.2) (.int .i64 ((rd_T169 l0 x4_1).f3))) (fun _ h_ => h_.1))) hb); have n1_ := Aside0.mk (blk_below (g := gb975) (o := .cells #[.int .i64 ((rd_T169 l0 x4_1).f0), .int .i64 ((rd_T169 l0 x4_1).f1), .int .i64 ((rd_T169 l0 x4_1).f2), .int .i64 ((rd_T169 l0 x4_1).f3)] 169 (0, 0)) (by (with_reducible repeat (first | refine blk_drewN ?_ _ | refine blk_drew ?_ | refine blk_alloc ?_ _)); refine blk_put (cs := #[.int .i64 ((rd_T169 l0 x4_1).f0), .int .i64 ((rd_T169 l0 x4_1).f1), .int .i64 ((rd_T169 l0 x4_1).f2), .int .i64 0]) ?_ 3 _ rfl; (with_reducible repeat (first | refine blk_drewN ?_ _ | refine blk_drew ?_ | refine blk_alloc ?_ _)); refine blk_put (cs := #[.int .i64 ((rd_T169 l0 x4_1).f0), .int .i64 ((rd_T169 l0 x4_1).f1), .int .i64 0, .int .i64 0]) ?_ 2 _ rfl; (with_reducible repeat (first | refine blk_drewN ?_ _ | refine blk_drew ?_ | refine blk_alloc ?_ _)); refine blk_put (cs := #[.int .i64 ((rd_T169 l0 x4_1).f0), .int .i64 0, .int .i64 0, .int .i64 0]) ?_ 1 _ rfl; (with_reducible repeat (first | refine blk_drewN ?_ _ | refine blk_drew ?_ | refine blk_alloc ?_ _)); refine blk_put (cs := #[.int .i64 0, .int .i64 0, .int .i64 0, .int .i64 0]) ?_ 0 _ rfl; (with_reducible repeat (first | refine blk_drewN ?_ _ | refine blk_drew ?_ | refine blk_alloc ?_ _)); exact BK975.out) hb); have n2_ := Aside0.mk (below_step (by repeat (first | (with_reducible first | exact HB.out | apply below_alloc | apply pw_below_drewN | apply below_drew1 | refine below_set ?_ GE975.out) | exact HB.out)) hb); clear HO_3; clear BK975; clear HB; have HO_3 := n0_; have BK975 := n1_; have HB := n2_; clear n0_ n1_ n2_; (try clear hb); (try clear hb2); (try clear hk); (try clear hi); have hcz28_0 : w27.cell? ⟨gb975, 0, none⟩ = some (.int .i64 ((rd_T169 l0 x4_1).f0)) := (blk_cell BK975.out 0).trans rfl; have hcz28_1 : w27.cell? ⟨gb975, 1, none⟩ = some (.int .i64 ((rd_T169 l0 x4_1).f1)) := (blk_cell BK975.out 1).trans rfl; have hcz28_2 : w27.cell? ⟨gb975, 2, none⟩ = some (.int .i64 ((rd_T169 l0 x4_1).f2)) := (blk_cell BK975.out 2).trans rfl; have hcz28_3 : w27.cell? ⟨gb975, 3, none⟩ = some (.int .i64 ((rd_T169 l0 x4_1).f3)) := (blk_cell BK975.out 3).trans rfl; have hfz28_0 := blk_frozen BK975.out 0; have hfz28_1 := blk_frozen BK975.out 1; have hfz28_2 := blk_frozen BK975.out 2; have hfz28_3 := blk_frozen BK975.out 3) | ((with_reducible refine gate_callee (f := 98) rfl ?_); refine goesL_ (some 57) rfl rfl Try.func98 (by kernel_rfl) rfl #[.int .i64 ((rd_T169 l0 x4_1).f0), .int .i64 10] rfl (by (try simp only [List.map_toArray, List.map_cons, List.map_nil]); first | done | rfl | (simp only [List.length_drop, List.length_take]; rfl)) ?_; (with_reducible refine (gemotlaw1_pick.calls ((rd_T169 l0 x4_1).f0) 10 t983 _ A22.out).mono ?_); rintro e w' ⟨rfl, ⟨nd, rfl⟩⟩; refine ⟨_, rfl, ?_⟩))
                            (try simp only [Act.put, List.setIfInBounds_toArray, List.set_cons_zero, List.set_cons_succ])
                            go_cut [58] (fun v58 wc => ∃ (kq : Nat) (x58_22 : Bool), v58 = .bool x58_22 ∧ Aside0 (gemotlaw1_made_p.j2 kq l0 x3_1 x4_1 (rdOf ByteArray.empty x3_1 t976) (rdOf ByteArray.empty x3_1 t978) (rdOf ByteArray.empty x3_1 t980) t982 0 t983 x58_22 ((rd_T169 l0 x4_1).f0) ((rd_T169 l0 x4_1).f1) ((rd_T169 l0 x4_1).f2) ((rd_T169 l0 x4_1).f3) = some r) ∧ Aside0 (kq ≤ kj6) ∧ Aside0 (Kd.R Kd.string 23 wc w.heap.size (fun _ => True) (.slice (some ad977) x3_1.length co26) x3_1) ∧ Aside0 (wc.heap[gb975]? = some (.cells #[.int .i64 ((rd_T169 l0 x4_1).f0), .int .i64 ((rd_T169 l0 x4_1).f1), .int .i64 ((rd_T169 l0 x4_1).f2), .int .i64 ((rd_T169 l0 x4_1).f3)] 169 (0, 0))) ∧ Aside0 (Below w.heap.size w wc))
                            case first =>
                              have H := HC23.out
                              clear HC23
                              by_cases c29 : t983 = 1
                              · rw [if_pos c29] at H
                                have c29b0 : (t983 == 1) = true := beq_iff_eq.mpr c29
                                have c29b1 : (t983 != 1) = false := bne_eq_false_iff_eq.mpr c29
                                clear c29
                                (first | rw [c29b0] | (simp only [i64_w, i32_w]; rw [c29b0]) | skip)
                                have H' := Aside0.mk H
                                clear H
                                go_wp2
                                go_meet
                                case rel => exact ⟨_, ((t983 == 1)), (by first | rfl | (simp; done) | (simp [*]; done)), H', ⟨by have := HK1.out; have := HJ6.out; first | omega | exact Nat.le_refl _⟩, ⟨by (with_reducible repeat (first | apply Kd.R_alloc | apply Kd.R_drewN | apply Kd.R_drew)); exact HO_3.out⟩, ⟨by (with_reducible repeat (first | refine blk_drewN ?_ _ | refine blk_drew ?_ | refine blk_alloc ?_ _)); exact BK975.out⟩, ⟨by repeat (first | (with_reducible first | exact HB.out | apply below_alloc | apply pw_below_drewN | apply below_drew1 | refine below_set ?_ GE975.out) | exact HB.out)⟩⟩
                              · rw [if_neg c29] at H
                                have c29b0 : (t983 == 1) = false := beq_eq_false_iff_ne.mpr c29
                                have c29b1 : (t983 != 1) = true := bne_iff_ne.mpr c29
                                (first | rw [c29b0] | (simp only [i64_w, i32_w]; rw [c29b0]) | skip)
                                by_cases c30 : t983 = 2
                                · rw [if_pos c30] at H
                                  have c30b0 : (t983 == 2) = true := beq_iff_eq.mpr c30
                                  have c30b1 : (t983 != 2) = false := bne_eq_false_iff_eq.mpr c30
                                  clear c30
                                  have H' := Aside0.mk H
                                  clear H
                                  go_wp2
                                  go_meet
                                  case rel => exact ⟨_, ((t983 == 2)), (by first | rfl | (simp; done) | (simp [*]; done)), H', ⟨by have := HK1.out; have := HJ6.out; first | omega | exact Nat.le_refl _⟩, ⟨by (with_reducible repeat (first | apply Kd.R_alloc | apply Kd.R_drewN | apply Kd.R_drew)); exact HO_3.out⟩, ⟨by (with_reducible repeat (first | refine blk_drewN ?_ _ | refine blk_drew ?_ | refine blk_alloc ?_ _)); exact BK975.out⟩, ⟨by repeat (first | (with_reducible first | exact HB.out | apply below_alloc | apply pw_below_drewN | apply below_drew1 | refine below_set ?_ GE975.out) | exact HB.out)⟩⟩
                                · rw [if_neg c30] at H
                                  have c30b0 : (t983 == 2) = false := beq_eq_false_iff_ne.mpr c30
                                  have c30b1 : (t983 != 2) = true := bne_iff_ne.mpr c30
                                  have H' := Aside0.mk H
                                  clear H
                                  go_wp2
                                  go_meet
                                  case rel => exact ⟨_, ((t983 == 3)), (by first | rfl | (simp; done) | (simp [*]; done)), H', ⟨by have := HK1.out; have := HJ6.out; first | omega | exact Nat.le_refl _⟩, ⟨by (with_reducible repeat (first | apply Kd.R_alloc | apply Kd.R_drewN | apply Kd.R_drew)); exact HO_3.out⟩, ⟨by (with_reducible repeat (first | refine blk_drewN ?_ _ | refine blk_drew ?_ | refine blk_alloc ?_ _)); exact BK975.out⟩, ⟨by repeat (first | (with_reducible first | exact HB.out | apply below_alloc | apply pw_below_drewN | apply below_drew1 | refine below_set ?_ GE975.out) | exact HB.out)⟩⟩
                            case rest =>
                              clear HC23
                              try clear c1
                              try clear c2
                              try clear p2
                              try clear c3
                              try clear c8
                              try clear c8b0
                              try clear c9
                              try clear p9
                              try clear q9
                              try clear hx9
                              try clear c10
                              try clear c10b0
                              try clear c11
                              try clear c11b0
                              try clear c13
                              try clear c13b0
                              try clear c14
                              try clear c14b0
                              try clear c16
                              try clear c16b0
                              try clear c17
                              try clear c17b0
                              try clear c19
                              try clear c19b0
                              try clear c20
                              try clear c20b0
                              try clear c29
                              try clear c29b0
                              try clear c29b1
                              try clear c30
                              try clear c30b0
                              try clear c30b1
                              try clear hcz25_0
                              try clear hcz25_1
                              try clear hcz25_2
                              try clear hcz25_3
                              try clear hcz28_0
                              try clear hcz28_1
                              try clear hcz28_2
                              try clear hcz28_3
                              try clear hfz25_0
                              try clear hfz25_1
                              try clear hfz25_2
                              try clear hfz25_3
                              try clear hfz28_0
                              try clear hfz28_1
                              try clear hfz28_2
                              try clear hfz28_3
                              try clear hx974_0
                              try clear hx974_1
                              try clear hx974_2
                              try clear hx974_3
                              try clear hx977_0
                              try clear hx979_0
                              try clear hx981_0
                              try clear p2
                              try clear p974
                              try clear p977
                              try clear p979
                              try clear p981
                              try clear q974
                              try clear q977
                              try clear q979
                              try clear q981
                              obtain ⟨kq, x58_22, rfl, HA, HJ22, HO_3, BK975, HB⟩ := hcut
                              cases kq with
                              | zero => exact absurd HA.out (by simp [gemotlaw1_made_p.j2])
                              | succ kj22 =>
                                have H := HA.out
                                clear HA
                                simp only [gemotlaw1_made_p.j2] at H
                                by_cases c31 : x58_22 = true
                                · subst c31
                                  have H1 : ((term_Power.f (rdOf ByteArray.empty x3_1 t976) (rdOf ByteArray.empty x3_1 t978)).bind fun bt984 => (if bt984.2 = 0 then (if (bt984.1.size : Int) > 600 then ((gemotlaw1_name.f ((rd_T169 l0 x4_1).f2)).bind fun t986 => (if x3_1.length < 8796093022208 then (gemotlaw1_made_p.l0 kj22 l0 (x3_1 ++ [t986]) (wrap64 (x4_1 + 1))) else (none))) else (if x3_1.length < 8796093022208 then (gemotlaw1_made_p.l0 kj22 l0 (x3_1 ++ [bt984.1]) (wrap64 (x4_1 + 1))) else (none))) else ((gemotlaw1_name.f ((rd_T169 l0 x4_1).f2)).bind fun t993 => (if x3_1.length < 8796093022208 then (gemotlaw1_made_p.l0 kj22 l0 (x3_1 ++ [t993]) (wrap64 (x4_1 + 1))) else (none))))) = some r := by rw [if_pos rfl] at H; exact H
                                  clear H
                                  have H := H1
                                  clear H1
                                  replace H := Option.bind_eq_some_iff.mp H
                                  obtain ⟨⟨t984, t985⟩, A320, H⟩ := H
                                  replace H : (if t985 = 0 then (if (t984.size : Int) > 600 then ((gemotlaw1_name.f ((rd_T169 l0 x4_1).f2)).bind fun t986 => (if x3_1.length < 8796093022208 then (gemotlaw1_made_p.l0 kj22 l0 (x3_1 ++ [t986]) (wrap64 (x4_1 + 1))) else (none))) else (if x3_1.length < 8796093022208 then (gemotlaw1_made_p.l0 kj22 l0 (x3_1 ++ [t984]) (wrap64 (x4_1 + 1))) else (none))) else ((gemotlaw1_name.f ((rd_T169 l0 x4_1).f2)).bind fun t993 => (if x3_1.length < 8796093022208 then (gemotlaw1_made_p.l0 kj22 l0 (x3_1 ++ [t993]) (wrap64 (x4_1 + 1))) else (none)))) = some r := H
                                  have A32 := Aside0.mk A320
                                  clear A320
                                  by_cases c33 : t985 = 0
                                  · rw [if_pos c33] at H
                                    have c33b0 : (t985 == 0) = true := beq_iff_eq.mpr c33
                                    have c33b1 : (t985 != 0) = false := bne_eq_false_iff_eq.mpr c33
                                    clear c33
                                    by_cases c34 : (t984.size : Int) > 600
                                    · rw [if_pos c34] at H
                                      have c34b0 : decide (600 < (t984.size : Int)) = true := decide_eq_true c34
                                      have c34b1 : decide (600 < t984.size) = true := decide_eq_true (by omega)
                                      clear c34
                                      replace H := Option.bind_eq_some_iff.mp H
                                      obtain ⟨t986, A350, H⟩ := H
                                      replace H : (if x3_1.length < 8796093022208 then (gemotlaw1_made_p.l0 kj22 l0 (x3_1 ++ [t986]) (wrap64 (x4_1 + 1))) else (none)) = some r := H
                                      have A35 := Aside0.mk A350
                                      clear A350
                                      by_cases c36 : x3_1.length < 8796093022208
                                      · rw [if_pos c36] at H
                                        have LMc36 := Aside0.mk c36
                                        clear c36
                                        obtain ⟨y987, hy987⟩ : ∃ y_ : List ByteArray, y_ = (x3_1 ++ [t986]) := ⟨_, rfl⟩
                                        replace H : (gemotlaw1_made_p.l0 kj22 l0 y987 (wrap64 (x4_1 + 1))) = some r := by first | (rw [hy987]; with_reducible exact H) | (have H2_ := (Option.bind_some _ _).symm.trans H; rw [hy987]; with_reducible exact H2_) | (have H2_ := (Option.bind_some _ _).symm.trans H; with_reducible exact H2_) | with_reducible exact H | (rw [hy987]; exact H) | exact H
                                        have Ny987 := Aside0.mk hy987
                                        clear hy987
                                        have H' := Aside0.mk H
                                        clear H
                                        go_wp2_with (first | ((with_reducible refine gate_callee (f := 88) rfl ?_); refine goesL_ (some 65) rfl rfl Try.func88 (by kernel_rfl) rfl #[.string (rdOf ByteArray.empty x3_1 t976), .string (rdOf ByteArray.empty x3_1 t978)] rfl (by (try simp only [List.map_toArray, List.map_cons, List.map_nil]); first | done | rfl | (simp only [List.length_drop, List.length_take]; rfl)) ?_; (with_reducible refine (term_Power.calls (rdOf ByteArray.empty x3_1 t976) (rdOf ByteArray.empty x3_1 t978) t984 t985 _ A32.out).mono ?_); rintro e w37 ⟨rfl, hb⟩; refine ⟨_, rfl, ?_⟩; have n0_ := Aside0.mk (Kd.R_below (by (with_reducible repeat (first | apply Kd.R_alloc | apply Kd.R_drewN | apply Kd.R_drew)); exact HO_3.out) hb); have n1_ := Aside0.mk (blk_below (g := gb975) (o := .cells #[.int .i64 ((rd_T169 l0 x4_1).f0), .int .i64 ((rd_T169 l0 x4_1).f1), .int .i64 ((rd_T169 l0 x4_1).f2), .int .i64 ((rd_T169 l0 x4_1).f3)] 169 (0, 0)) (by (with_reducible repeat (first | refine blk_drewN ?_ _ | refine blk_drew ?_ | refine blk_alloc ?_ _)); exact BK975.out) hb); have n2_ := Aside0.mk (below_step (by repeat (first | (with_reducible first | exact HB.out | apply below_alloc | apply pw_below_drewN | apply below_drew1 | refine below_set ?_ GE975.out) | exact HB.out)) hb); clear HO_3; clear BK975; clear HB; have HO_3 := n0_; have BK975 := n1_; have HB := n2_; clear n0_ n1_ n2_; (try clear hb); (try clear hb2); (try clear hk); (try clear hi); have hcz38_0 : w37.cell? ⟨gb975, 0, none⟩ = some (.int .i64 ((rd_T169 l0 x4_1).f0)) := (blk_cell BK975.out 0).trans rfl; have hcz38_1 : w37.cell? ⟨gb975, 1, none⟩ = some (.int .i64 ((rd_T169 l0 x4_1).f1)) := (blk_cell BK975.out 1).trans rfl; have hcz38_2 : w37.cell? ⟨gb975, 2, none⟩ = some (.int .i64 ((rd_T169 l0 x4_1).f2)) := (blk_cell BK975.out 2).trans rfl; have hcz38_3 : w37.cell? ⟨gb975, 3, none⟩ = some (.int .i64 ((rd_T169 l0 x4_1).f3)) := (blk_cell BK975.out 3).trans rfl; have hfz38_0 := blk_frozen BK975.out 0; have hfz38_1 := blk_frozen BK975.out 1; have hfz38_2 := blk_frozen BK975.out 2; have hfz38_3 := blk_frozen BK975.out 3) | ((with_reducible refine gate_callee (f := 142) rfl ?_); refine goesL_ (some 117) rfl rfl Try.func142 (by kernel_rfl) rfl #[.int .i64 ((rd_T169 l0 x4_1).f2)] rfl (by (try simp only [List.map_toArray, List.map_cons, List.map_nil]); first | done | rfl | (simp only [List.length_drop, List.length_take]; rfl)) ?_; (with_reducible refine (gemotlaw1_name.calls ((rd_T169 l0 x4_1).f2) t986 _ A35.out).mono ?_); rintro e w39 ⟨rfl, hb⟩; refine ⟨_, rfl, ?_⟩; have n0_ := Aside0.mk (Kd.R_below (by (with_reducible repeat (first | apply Kd.R_alloc | apply Kd.R_drewN | apply Kd.R_drew)); exact HO_3.out) hb); have n1_ := Aside0.mk (blk_below (g := gb975) (o := .cells #[.int .i64 ((rd_T169 l0 x4_1).f0), .int .i64 ((rd_T169 l0 x4_1).f1), .int .i64 ((rd_T169 l0 x4_1).f2), .int .i64 ((rd_T169 l0 x4_1).f3)] 169 (0, 0)) (by (with_reducible repeat (first | refine blk_drewN ?_ _ | refine blk_drew ?_ | refine blk_alloc ?_ _)); exact BK975.out) hb); have n2_ := Aside0.mk (below_step (by repeat (first | (with_reducible first | exact HB.out | apply below_alloc | apply pw_below_drewN | apply below_drew1 | refine below_set ?_ GE975.out) | exact HB.out)) hb); clear HO_3; clear BK975; clear HB; have HO_3 := n0_; have BK975 := n1_; have HB := n2_; clear n0_ n1_ n2_; (try clear hb); (try clear hb2); (try clear hk); (try clear hi)) | ((with_reducible refine gate_builtin (b := .append) (xs := #[.tmp 118, .tmp 120]) rfl ?_); (try (refine gate_guard (by rfl) ?_; dsimp only)); at_builtin; refine Kd.R_append Kd.string (w0 := w) w.heap.size rfl (.tmp 118) (.tmp 120) 37 23 (.string ⟨#[]⟩) 16 rfl Try.underlying37 info23 rfl (by decide) (by omega) (.slice (some ad977) x3_1.length co26) x3_1 t986 [.string t986] (fun _ => True) (fun _ => False) rfl rfl ?aP (fun _ hk => hk.elim) ?aF ?aO ?aB ?aS ?aL ?_; (case aP => exact rfl); (case aB => exact (by repeat (first | (with_reducible first | exact HB.out | apply below_alloc | apply pw_below_drewN | apply below_drew1 | refine below_set ?_ GE975.out) | exact HB.out))); (case aF => exact (fun _ _ => trivial)); (case aO => exact (by (with_reducible repeat (first | apply Kd.R_alloc | apply Kd.R_drewN | apply Kd.R_drew)); exact HO_3.out)); (case aS => exact (below_size (by repeat (first | (with_reducible first | exact HB.out | apply below_alloc | apply pw_below_drewN | apply below_drew1 | refine below_set ?_ GE975.out) | exact HB.out)))); (case aL => have := LMc36.out; omega); intro v988 w40 ho hb hg hat; rw [← Ny987.out] at ho; have n0_ := Aside0.mk (blk_grown (g := gb975) (o := .cells #[.int .i64 ((rd_T169 l0 x4_1).f0), .int .i64 ((rd_T169 l0 x4_1).f1), .int .i64 ((rd_T169 l0 x4_1).f2), .int .i64 ((rd_T169 l0 x4_1).f3)] 169 (0, 0)) (by (with_reducible repeat (first | refine blk_drewN ?_ _ | refine blk_drew ?_ | refine blk_alloc ?_ _)); exact BK975.out) hg (Kd.R_ne HO_3.out BK975.out (by decide))); have n1_ := Aside0.mk (hb); have n2_ := Aside0.mk (ho); clear BK975; clear HB; clear HO_3; have BK975 := n0_; have HB := n1_; have HO989 := n2_; clear n0_ n1_ n2_; clear ho hb hg hat))
                                        go_roundg kj22
                                        case measure => have := HK1.out; have := HJ6.out; have := HJ22.out; omega
                                        case rel => exact ⟨(y987), (wrap64 (x4_1 + 1)), (by first | rfl | (simp; done) | (simp [*]; done)), H', ⟨by have := HK1.out; have := HJ6.out; have := HJ22.out; omega⟩, ⟨by (with_reducible repeat (first | apply Kd.R_alloc | apply Kd.R_drewN | apply Kd.R_drew)); exact HO989.out⟩, ⟨by repeat (first | (with_reducible first | exact HB.out | apply below_alloc | apply pw_below_drewN | apply below_drew1 | refine below_set ?_ GE975.out) | exact HB.out)⟩⟩
                                      · rw [if_neg c36] at H
                                        exact absurd H (by simp)
                                    · rw [if_neg c34] at H
                                      have c34b0 : decide (600 < (t984.size : Int)) = false := decide_eq_false c34
                                      have c34b1 : decide (600 < t984.size) = false := decide_eq_false (by omega)
                                      clear c34
                                      by_cases c41 : x3_1.length < 8796093022208
                                      · rw [if_pos c41] at H
                                        have LMc41 := Aside0.mk c41
                                        clear c41
                                        obtain ⟨y990, hy990⟩ : ∃ y_ : List ByteArray, y_ = (x3_1 ++ [t984]) := ⟨_, rfl⟩
                                        replace H : (gemotlaw1_made_p.l0 kj22 l0 y990 (wrap64 (x4_1 + 1))) = some r := by first | (rw [hy990]; with_reducible exact H) | (have H2_ := (Option.bind_some _ _).symm.trans H; rw [hy990]; with_reducible exact H2_) | (have H2_ := (Option.bind_some _ _).symm.trans H; with_reducible exact H2_) | with_reducible exact H | (rw [hy990]; exact H) | exact H
                                        have Ny990 := Aside0.mk hy990
                                        clear hy990
                                        have H' := Aside0.mk H
                                        clear H
                                        go_wp2_with (first | ((with_reducible refine gate_callee (f := 88) rfl ?_); refine goesL_ (some 65) rfl rfl Try.func88 (by kernel_rfl) rfl #[.string (rdOf ByteArray.empty x3_1 t976), .string (rdOf ByteArray.empty x3_1 t978)] rfl (by (try simp only [List.map_toArray, List.map_cons, List.map_nil]); first | done | rfl | (simp only [List.length_drop, List.length_take]; rfl)) ?_; (with_reducible refine (term_Power.calls (rdOf ByteArray.empty x3_1 t976) (rdOf ByteArray.empty x3_1 t978) t984 t985 _ A32.out).mono ?_); rintro e w42 ⟨rfl, hb⟩; refine ⟨_, rfl, ?_⟩; have n0_ := Aside0.mk (Kd.R_below (by (with_reducible repeat (first | apply Kd.R_alloc | apply Kd.R_drewN | apply Kd.R_drew)); exact HO_3.out) hb); have n1_ := Aside0.mk (blk_below (g := gb975) (o := .cells #[.int .i64 ((rd_T169 l0 x4_1).f0), .int .i64 ((rd_T169 l0 x4_1).f1), .int .i64 ((rd_T169 l0 x4_1).f2), .int .i64 ((rd_T169 l0 x4_1).f3)] 169 (0, 0)) (by (with_reducible repeat (first | refine blk_drewN ?_ _ | refine blk_drew ?_ | refine blk_alloc ?_ _)); exact BK975.out) hb); have n2_ := Aside0.mk (below_step (by repeat (first | (with_reducible first | exact HB.out | apply below_alloc | apply pw_below_drewN | apply below_drew1 | refine below_set ?_ GE975.out) | exact HB.out)) hb); clear HO_3; clear BK975; clear HB; have HO_3 := n0_; have BK975 := n1_; have HB := n2_; clear n0_ n1_ n2_; (try clear hb); (try clear hb2); (try clear hk); (try clear hi)) | ((with_reducible refine gate_builtin (b := .append) (xs := #[.tmp 118, .tmp 120]) rfl ?_); (try (refine gate_guard (by rfl) ?_; dsimp only)); at_builtin; refine Kd.R_append Kd.string (w0 := w) w.heap.size rfl (.tmp 118) (.tmp 120) 37 23 (.string ⟨#[]⟩) 16 rfl Try.underlying37 info23 rfl (by decide) (by omega) (.slice (some ad977) x3_1.length co26) x3_1 t984 [.string t984] (fun _ => True) (fun _ => False) rfl rfl ?aP (fun _ hk => hk.elim) ?aF ?aO ?aB ?aS ?aL ?_; (case aP => exact rfl); (case aB => exact (by repeat (first | (with_reducible first | exact HB.out | apply below_alloc | apply pw_below_drewN | apply below_drew1 | refine below_set ?_ GE975.out) | exact HB.out))); (case aF => exact (fun _ _ => trivial)); (case aO => exact (by (with_reducible repeat (first | apply Kd.R_alloc | apply Kd.R_drewN | apply Kd.R_drew)); exact HO_3.out)); (case aS => exact (below_size (by repeat (first | (with_reducible first | exact HB.out | apply below_alloc | apply pw_below_drewN | apply below_drew1 | refine below_set ?_ GE975.out) | exact HB.out)))); (case aL => have := LMc41.out; omega); intro v991 w43 ho hb hg hat; rw [← Ny990.out] at ho; have n0_ := Aside0.mk (blk_grown (g := gb975) (o := .cells #[.int .i64 ((rd_T169 l0 x4_1).f0), .int .i64 ((rd_T169 l0 x4_1).f1), .int .i64 ((rd_T169 l0 x4_1).f2), .int .i64 ((rd_T169 l0 x4_1).f3)] 169 (0, 0)) (by (with_reducible repeat (first | refine blk_drewN ?_ _ | refine blk_drew ?_ | refine blk_alloc ?_ _)); exact BK975.out) hg (Kd.R_ne HO_3.out BK975.out (by decide))); have n1_ := Aside0.mk (hb); have n2_ := Aside0.mk (ho); clear BK975; clear HB; clear HO_3; have BK975 := n0_; have HB := n1_; have HO992 := n2_; clear n0_ n1_ n2_; clear ho hb hg hat))
                                        go_roundg kj22
                                        case measure => have := HK1.out; have := HJ6.out; have := HJ22.out; omega
                                        case rel => exact ⟨(y990), (wrap64 (x4_1 + 1)), (by first | rfl | (simp; done) | (simp [*]; done)), H', ⟨by have := HK1.out; have := HJ6.out; have := HJ22.out; omega⟩, ⟨by (with_reducible repeat (first | apply Kd.R_alloc | apply Kd.R_drewN | apply Kd.R_drew)); exact HO992.out⟩, ⟨by repeat (first | (with_reducible first | exact HB.out | apply below_alloc | apply pw_below_drewN | apply below_drew1 | refine below_set ?_ GE975.out) | exact HB.out)⟩⟩
                                      · rw [if_neg c41] at H
                                        exact absurd H (by simp)
                                  · rw [if_neg c33] at H
                                    have c33b0 : (t985 == 0) = false := beq_eq_false_iff_ne.mpr c33
                                    have c33b1 : (t985 != 0) = true := bne_iff_ne.mpr c33
                                    replace H := Option.bind_eq_some_iff.mp H
                                    obtain ⟨t993, A440, H⟩ := H
                                    replace H : (if x3_1.length < 8796093022208 then (gemotlaw1_made_p.l0 kj22 l0 (x3_1 ++ [t993]) (wrap64 (x4_1 + 1))) else (none)) = some r := H
                                    have A44 := Aside0.mk A440
                                    clear A440
                                    by_cases c45 : x3_1.length < 8796093022208
                                    · rw [if_pos c45] at H
                                      have LMc45 := Aside0.mk c45
                                      clear c45
                                      obtain ⟨y994, hy994⟩ : ∃ y_ : List ByteArray, y_ = (x3_1 ++ [t993]) := ⟨_, rfl⟩
                                      replace H : (gemotlaw1_made_p.l0 kj22 l0 y994 (wrap64 (x4_1 + 1))) = some r := by first | (rw [hy994]; with_reducible exact H) | (have H2_ := (Option.bind_some _ _).symm.trans H; rw [hy994]; with_reducible exact H2_) | (have H2_ := (Option.bind_some _ _).symm.trans H; with_reducible exact H2_) | with_reducible exact H | (rw [hy994]; exact H) | exact H
                                      have Ny994 := Aside0.mk hy994
                                      clear hy994
                                      have H' := Aside0.mk H
                                      clear H
                                      go_wp2_with (first | ((with_reducible refine gate_callee (f := 88) rfl ?_); refine goesL_ (some 65) rfl rfl Try.func88 (by kernel_rfl) rfl #[.string (rdOf ByteArray.empty x3_1 t976), .string (rdOf ByteArray.empty x3_1 t978)] rfl (by (try simp only [List.map_toArray, List.map_cons, List.map_nil]); first | done | rfl | (simp only [List.length_drop, List.length_take]; rfl)) ?_; (with_reducible refine (term_Power.calls (rdOf ByteArray.empty x3_1 t976) (rdOf ByteArray.empty x3_1 t978) t984 t985 _ A32.out).mono ?_); rintro e w46 ⟨rfl, hb⟩; refine ⟨_, rfl, ?_⟩; have n0_ := Aside0.mk (Kd.R_below (by (with_reducible repeat (first | apply Kd.R_alloc | apply Kd.R_drewN | apply Kd.R_drew)); exact HO_3.out) hb); have n1_ := Aside0.mk (blk_below (g := gb975) (o := .cells #[.int .i64 ((rd_T169 l0 x4_1).f0), .int .i64 ((rd_T169 l0 x4_1).f1), .int .i64 ((rd_T169 l0 x4_1).f2), .int .i64 ((rd_T169 l0 x4_1).f3)] 169 (0, 0)) (by (with_reducible repeat (first | refine blk_drewN ?_ _ | refine blk_drew ?_ | refine blk_alloc ?_ _)); exact BK975.out) hb); have n2_ := Aside0.mk (below_step (by repeat (first | (with_reducible first | exact HB.out | apply below_alloc | apply pw_below_drewN | apply below_drew1 | refine below_set ?_ GE975.out) | exact HB.out)) hb); clear HO_3; clear BK975; clear HB; have HO_3 := n0_; have BK975 := n1_; have HB := n2_; clear n0_ n1_ n2_; (try clear hb); (try clear hb2); (try clear hk); (try clear hi); have hcz47_0 : w46.cell? ⟨gb975, 0, none⟩ = some (.int .i64 ((rd_T169 l0 x4_1).f0)) := (blk_cell BK975.out 0).trans rfl; have hcz47_1 : w46.cell? ⟨gb975, 1, none⟩ = some (.int .i64 ((rd_T169 l0 x4_1).f1)) := (blk_cell BK975.out 1).trans rfl; have hcz47_2 : w46.cell? ⟨gb975, 2, none⟩ = some (.int .i64 ((rd_T169 l0 x4_1).f2)) := (blk_cell BK975.out 2).trans rfl; have hcz47_3 : w46.cell? ⟨gb975, 3, none⟩ = some (.int .i64 ((rd_T169 l0 x4_1).f3)) := (blk_cell BK975.out 3).trans rfl; have hfz47_0 := blk_frozen BK975.out 0; have hfz47_1 := blk_frozen BK975.out 1; have hfz47_2 := blk_frozen BK975.out 2; have hfz47_3 := blk_frozen BK975.out 3) | ((with_reducible refine gate_callee (f := 142) rfl ?_); refine goesL_ (some 117) rfl rfl Try.func142 (by kernel_rfl) rfl #[.int .i64 ((rd_T169 l0 x4_1).f2)] rfl (by (try simp only [List.map_toArray, List.map_cons, List.map_nil]); first | done | rfl | (simp only [List.length_drop, List.length_take]; rfl)) ?_; (with_reducible refine (gemotlaw1_name.calls ((rd_T169 l0 x4_1).f2) t993 _ A44.out).mono ?_); rintro e w48 ⟨rfl, hb⟩; refine ⟨_, rfl, ?_⟩; have n0_ := Aside0.mk (Kd.R_below (by (with_reducible repeat (first | apply Kd.R_alloc | apply Kd.R_drewN | apply Kd.R_drew)); exact HO_3.out) hb); have n1_ := Aside0.mk (blk_below (g := gb975) (o := .cells #[.int .i64 ((rd_T169 l0 x4_1).f0), .int .i64 ((rd_T169 l0 x4_1).f1), .int .i64 ((rd_T169 l0 x4_1).f2), .int .i64 ((rd_T169 l0 x4_1).f3)] 169 (0, 0)) (by (with_reducible repeat (first | refine blk_drewN ?_ _ | refine blk_drew ?_ | refine blk_alloc ?_ _)); exact BK975.out) hb); have n2_ := Aside0.mk (below_step (by repeat (first | (with_reducible first | exact HB.out | apply below_alloc | apply pw_below_drewN | apply below_drew1 | refine below_set ?_ GE975.out) | exact HB.out)) hb); clear HO_3; clear BK975; clear HB; have HO_3 := n0_; have BK975 := n1_; have HB := n2_; clear n0_ n1_ n2_; (try clear hb); (try clear hb2); (try clear hk); (try clear hi)) | ((with_reducible refine gate_builtin (b := .append) (xs := #[.tmp 118, .tmp 120]) rfl ?_); (try (refine gate_guard (by rfl) ?_; dsimp only)); at_builtin; refine Kd.R_append Kd.string (w0 := w) w.heap.size rfl (.tmp 118) (.tmp 120) 37 23 (.string ⟨#[]⟩) 16 rfl Try.underlying37 info23 rfl (by decide) (by omega) (.slice (some ad977) x3_1.length co26) x3_1 t993 [.string t993] (fun _ => True) (fun _ => False) rfl rfl ?aP (fun _ hk => hk.elim) ?aF ?aO ?aB ?aS ?aL ?_; (case aP => exact rfl); (case aB => exact (by repeat (first | (with_reducible first | exact HB.out | apply below_alloc | apply pw_below_drewN | apply below_drew1 | refine below_set ?_ GE975.out) | exact HB.out))); (case aF => exact (fun _ _ => trivial)); (case aO => exact (by (with_reducible repeat (first | apply Kd.R_alloc | apply Kd.R_drewN | apply Kd.R_drew)); exact HO_3.out)); (case aS => exact (below_size (by repeat (first | (with_reducible first | exact HB.out | apply below_alloc | apply pw_below_drewN | apply below_drew1 | refine below_set ?_ GE975.out) | exact HB.out)))); (case aL => have := LMc45.out; omega); intro v995 w49 ho hb hg hat; rw [← Ny994.out] at ho; have n0_ := Aside0.mk (blk_grown (g := gb975) (o := .cells #[.int .i64 ((rd_T169 l0 x4_1).f0), .int .i64 ((rd_T169 l0 x4_1).f1), .int .i64 ((rd_T169 l0 x4_1).f2), .int .i64 ((rd_T169 l0 x4_1).f3)] 169 (0, 0)) (by (with_reducible repeat (first | refine blk_drewN ?_ _ | refine blk_drew ?_ | refine blk_alloc ?_ _)); exact BK975.out) hg (Kd.R_ne HO_3.out BK975.out (by decide))); have n1_ := Aside0.mk (hb); have n2_ := Aside0.mk (ho); clear BK975; clear HB; clear HO_3; have BK975 := n0_; have HB := n1_; have HO996 := n2_; clear n0_ n1_ n2_; clear ho hb hg hat))
                                      go_roundg kj22
                                      case measure => have := HK1.out; have := HJ6.out; have := HJ22.out; omega
                                      case rel => exact ⟨(y994), (wrap64 (x4_1 + 1)), (by first | rfl | (simp; done) | (simp [*]; done)), H', ⟨by have := HK1.out; have := HJ6.out; have := HJ22.out; omega⟩, ⟨by (with_reducible repeat (first | apply Kd.R_alloc | apply Kd.R_drewN | apply Kd.R_drew)); exact HO996.out⟩, ⟨by repeat (first | (with_reducible first | exact HB.out | apply below_alloc | apply pw_below_drewN | apply below_drew1 | refine below_set ?_ GE975.out) | exact HB.out)⟩⟩
                                    · rw [if_neg c45] at H
                                      exact absurd H (by simp)
                                · replace c31 := Bool.eq_false_iff.mpr c31
                                  subst c31
                                  have H1 : (if t983 = 4 then ((term_Key.f (rdOf ByteArray.empty x3_1 t976)).bind fun bt997 => (if bt997.2 = 0 then (if (bt997.1.size : Int) > 600 then ((gemotlaw1_name.f ((rd_T169 l0 x4_1).f2)).bind fun t999 => (if x3_1.length < 8796093022208 then (gemotlaw1_made_p.l0 kj22 l0 (x3_1 ++ [t999]) (wrap64 (x4_1 + 1))) else (none))) else (if x3_1.length < 8796093022208 then (gemotlaw1_made_p.l0 kj22 l0 (x3_1 ++ [bt997.1]) (wrap64 (x4_1 + 1))) else (none))) else ((gemotlaw1_name.f ((rd_T169 l0 x4_1).f2)).bind fun t1006 => (if x3_1.length < 8796093022208 then (gemotlaw1_made_p.l0 kj22 l0 (x3_1 ++ [t1006]) (wrap64 (x4_1 + 1))) else (none))))) else (if t983 = 5 then (gemotlaw1_made_p.j3 kj22 l0 x3_1 x4_1 (rdOf ByteArray.empty x3_1 t976) (rdOf ByteArray.empty x3_1 t978) (rdOf ByteArray.empty x3_1 t980) t982 0 t983 (t983 == 5) ((rd_T169 l0 x4_1).f0) ((rd_T169 l0 x4_1).f1) ((rd_T169 l0 x4_1).f2) ((rd_T169 l0 x4_1).f3)) else (gemotlaw1_made_p.j3 kj22 l0 x3_1 x4_1 (rdOf ByteArray.empty x3_1 t976) (rdOf ByteArray.empty x3_1 t978) (rdOf ByteArray.empty x3_1 t980) t982 0 t983 (t983 == 6) ((rd_T169 l0 x4_1).f0) ((rd_T169 l0 x4_1).f1) ((rd_T169 l0 x4_1).f2) ((rd_T169 l0 x4_1).f3)))) = some r := by rw [if_neg (show ¬ (false = true) by decide)] at H; exact H
                                  clear H
                                  have H := H1
                                  clear H1
                                  by_cases c50 : t983 = 4
                                  · rw [if_pos c50] at H
                                    have c50b0 : (t983 == 4) = true := beq_iff_eq.mpr c50
                                    have c50b1 : (t983 != 4) = false := bne_eq_false_iff_eq.mpr c50
                                    clear c50
                                    replace H := Option.bind_eq_some_iff.mp H
                                    obtain ⟨⟨t997, t998⟩, A510, H⟩ := H
                                    replace H : (if t998 = 0 then (if (t997.size : Int) > 600 then ((gemotlaw1_name.f ((rd_T169 l0 x4_1).f2)).bind fun t999 => (if x3_1.length < 8796093022208 then (gemotlaw1_made_p.l0 kj22 l0 (x3_1 ++ [t999]) (wrap64 (x4_1 + 1))) else (none))) else (if x3_1.length < 8796093022208 then (gemotlaw1_made_p.l0 kj22 l0 (x3_1 ++ [t997]) (wrap64 (x4_1 + 1))) else (none))) else ((gemotlaw1_name.f ((rd_T169 l0 x4_1).f2)).bind fun t1006 => (if x3_1.length < 8796093022208 then (gemotlaw1_made_p.l0 kj22 l0 (x3_1 ++ [t1006]) (wrap64 (x4_1 + 1))) else (none)))) = some r := H
                                    have A51 := Aside0.mk A510
                                    clear A510
                                    by_cases c52 : t998 = 0
                                    · rw [if_pos c52] at H
                                      have c52b0 : (t998 == 0) = true := beq_iff_eq.mpr c52
                                      have c52b1 : (t998 != 0) = false := bne_eq_false_iff_eq.mpr c52
                                      clear c52
                                      by_cases c53 : (t997.size : Int) > 600
                                      · rw [if_pos c53] at H
                                        have c53b0 : decide (600 < (t997.size : Int)) = true := decide_eq_true c53
                                        have c53b1 : decide (600 < t997.size) = true := decide_eq_true (by omega)
                                        clear c53
                                        replace H := Option.bind_eq_some_iff.mp H
                                        obtain ⟨t999, A540, H⟩ := H
                                        replace H : (if x3_1.length < 8796093022208 then (gemotlaw1_made_p.l0 kj22 l0 (x3_1 ++ [t999]) (wrap64 (x4_1 + 1))) else (none)) = some r := H
                                        have A54 := Aside0.mk A540
                                        clear A540
                                        by_cases c55 : x3_1.length < 8796093022208
                                        · rw [if_pos c55] at H
                                          have LMc55 := Aside0.mk c55
                                          clear c55
                                          obtain ⟨y1000, hy1000⟩ : ∃ y_ : List ByteArray, y_ = (x3_1 ++ [t999]) := ⟨_, rfl⟩
                                          replace H : (gemotlaw1_made_p.l0 kj22 l0 y1000 (wrap64 (x4_1 + 1))) = some r := by first | (rw [hy1000]; with_reducible exact H) | (have H2_ := (Option.bind_some _ _).symm.trans H; rw [hy1000]; with_reducible exact H2_) | (have H2_ := (Option.bind_some _ _).symm.trans H; with_reducible exact H2_) | with_reducible exact H | (rw [hy1000]; exact H) | exact H
                                          have Ny1000 := Aside0.mk hy1000
                                          clear hy1000
                                          have H' := Aside0.mk H
                                          clear H
                                          go_wp2_with (first | ((with_reducible refine gate_callee (f := 90) rfl ?_); refine goesL_ (some 72) rfl rfl Try.func90 (by kernel_rfl) rfl #[.string (rdOf ByteArray.empty x3_1 t976)] rfl (by (try simp only [List.map_toArray, List.map_cons, List.map_nil]); first | done | rfl | (simp only [List.length_drop, List.length_take]; rfl)) ?_; (with_reducible refine (term_Key.calls (rdOf ByteArray.empty x3_1 t976) t997 t998 _ A51.out).mono ?_); rintro e w56 ⟨rfl, hb⟩; refine ⟨_, rfl, ?_⟩; have n0_ := Aside0.mk (Kd.R_below (by (with_reducible repeat (first | apply Kd.R_alloc | apply Kd.R_drewN | apply Kd.R_drew)); exact HO_3.out) hb); have n1_ := Aside0.mk (blk_below (g := gb975) (o := .cells #[.int .i64 ((rd_T169 l0 x4_1).f0), .int .i64 ((rd_T169 l0 x4_1).f1), .int .i64 ((rd_T169 l0 x4_1).f2), .int .i64 ((rd_T169 l0 x4_1).f3)] 169 (0, 0)) (by (with_reducible repeat (first | refine blk_drewN ?_ _ | refine blk_drew ?_ | refine blk_alloc ?_ _)); exact BK975.out) hb); have n2_ := Aside0.mk (below_step (by repeat (first | (with_reducible first | exact HB.out | apply below_alloc | apply pw_below_drewN | apply below_drew1 | refine below_set ?_ GE975.out) | exact HB.out)) hb); clear HO_3; clear BK975; clear HB; have HO_3 := n0_; have BK975 := n1_; have HB := n2_; clear n0_ n1_ n2_; (try clear hb); (try clear hb2); (try clear hk); (try clear hi); have hcz57_0 : w56.cell? ⟨gb975, 0, none⟩ = some (.int .i64 ((rd_T169 l0 x4_1).f0)) := (blk_cell BK975.out 0).trans rfl; have hcz57_1 : w56.cell? ⟨gb975, 1, none⟩ = some (.int .i64 ((rd_T169 l0 x4_1).f1)) := (blk_cell BK975.out 1).trans rfl; have hcz57_2 : w56.cell? ⟨gb975, 2, none⟩ = some (.int .i64 ((rd_T169 l0 x4_1).f2)) := (blk_cell BK975.out 2).trans rfl; have hcz57_3 : w56.cell? ⟨gb975, 3, none⟩ = some (.int .i64 ((rd_T169 l0 x4_1).f3)) := (blk_cell BK975.out 3).trans rfl; have hfz57_0 := blk_frozen BK975.out 0; have hfz57_1 := blk_frozen BK975.out 1; have hfz57_2 := blk_frozen BK975.out 2; have hfz57_3 := blk_frozen BK975.out 3) | ((with_reducible refine gate_callee (f := 142) rfl ?_); refine goesL_ (some 117) rfl rfl Try.func142 (by kernel_rfl) rfl #[.int .i64 ((rd_T169 l0 x4_1).f2)] rfl (by (try simp only [List.map_toArray, List.map_cons, List.map_nil]); first | done | rfl | (simp only [List.length_drop, List.length_take]; rfl)) ?_; (with_reducible refine (gemotlaw1_name.calls ((rd_T169 l0 x4_1).f2) t999 _ A54.out).mono ?_); rintro e w58 ⟨rfl, hb⟩; refine ⟨_, rfl, ?_⟩; have n0_ := Aside0.mk (Kd.R_below (by (with_reducible repeat (first | apply Kd.R_alloc | apply Kd.R_drewN | apply Kd.R_drew)); exact HO_3.out) hb); have n1_ := Aside0.mk (blk_below (g := gb975) (o := .cells #[.int .i64 ((rd_T169 l0 x4_1).f0), .int .i64 ((rd_T169 l0 x4_1).f1), .int .i64 ((rd_T169 l0 x4_1).f2), .int .i64 ((rd_T169 l0 x4_1).f3)] 169 (0, 0)) (by (with_reducible repeat (first | refine blk_drewN ?_ _ | refine blk_drew ?_ | refine blk_alloc ?_ _)); exact BK975.out) hb); have n2_ := Aside0.mk (below_step (by repeat (first | (with_reducible first | exact HB.out | apply below_alloc | apply pw_below_drewN | apply below_drew1 | refine below_set ?_ GE975.out) | exact HB.out)) hb); clear HO_3; clear BK975; clear HB; have HO_3 := n0_; have BK975 := n1_; have HB := n2_; clear n0_ n1_ n2_; (try clear hb); (try clear hb2); (try clear hk); (try clear hi)) | ((with_reducible refine gate_builtin (b := .append) (xs := #[.tmp 118, .tmp 120]) rfl ?_); (try (refine gate_guard (by rfl) ?_; dsimp only)); at_builtin; refine Kd.R_append Kd.string (w0 := w) w.heap.size rfl (.tmp 118) (.tmp 120) 37 23 (.string ⟨#[]⟩) 16 rfl Try.underlying37 info23 rfl (by decide) (by omega) (.slice (some ad977) x3_1.length co26) x3_1 t999 [.string t999] (fun _ => True) (fun _ => False) rfl rfl ?aP (fun _ hk => hk.elim) ?aF ?aO ?aB ?aS ?aL ?_; (case aP => exact rfl); (case aB => exact (by repeat (first | (with_reducible first | exact HB.out | apply below_alloc | apply pw_below_drewN | apply below_drew1 | refine below_set ?_ GE975.out) | exact HB.out))); (case aF => exact (fun _ _ => trivial)); (case aO => exact (by (with_reducible repeat (first | apply Kd.R_alloc | apply Kd.R_drewN | apply Kd.R_drew)); exact HO_3.out)); (case aS => exact (below_size (by repeat (first | (with_reducible first | exact HB.out | apply below_alloc | apply pw_below_drewN | apply below_drew1 | refine below_set ?_ GE975.out) | exact HB.out)))); (case aL => have := LMc55.out; omega); intro v1001 w59 ho hb hg hat; rw [← Ny1000.out] at ho; have n0_ := Aside0.mk (blk_grown (g := gb975) (o := .cells #[.int .i64 ((rd_T169 l0 x4_1).f0), .int .i64 ((rd_T169 l0 x4_1).f1), .int .i64 ((rd_T169 l0 x4_1).f2), .int .i64 ((rd_T169 l0 x4_1).f3)] 169 (0, 0)) (by (with_reducible repeat (first | refine blk_drewN ?_ _ | refine blk_drew ?_ | refine blk_alloc ?_ _)); exact BK975.out) hg (Kd.R_ne HO_3.out BK975.out (by decide))); have n1_ := Aside0.mk (hb); have n2_ := Aside0.mk (ho); clear BK975; clear HB; clear HO_3; have BK975 := n0_; have HB := n1_; have HO1002 := n2_; clear n0_ n1_ n2_; clear ho hb hg hat))
                                          go_roundg kj22
                                          case measure => have := HK1.out; have := HJ6.out; have := HJ22.out; omega
                                          case rel => exact ⟨(y1000), (wrap64 (x4_1 + 1)), (by first | rfl | (simp; done) | (simp [*]; done)), H', ⟨by have := HK1.out; have := HJ6.out; have := HJ22.out; omega⟩, ⟨by (with_reducible repeat (first | apply Kd.R_alloc | apply Kd.R_drewN | apply Kd.R_drew)); exact HO1002.out⟩, ⟨by repeat (first | (with_reducible first | exact HB.out | apply below_alloc | apply pw_below_drewN | apply below_drew1 | refine below_set ?_ GE975.out) | exact HB.out)⟩⟩
                                        · rw [if_neg c55] at H
                                          exact absurd H (by simp)
                                      · rw [if_neg c53] at H
                                        have c53b0 : decide (600 < (t997.size : Int)) = false := decide_eq_false c53
                                        have c53b1 : decide (600 < t997.size) = false := decide_eq_false (by omega)
                                        clear c53
                                        by_cases c60 : x3_1.length < 8796093022208
                                        · rw [if_pos c60] at H
                                          have LMc60 := Aside0.mk c60
                                          clear c60
                                          obtain ⟨y1003, hy1003⟩ : ∃ y_ : List ByteArray, y_ = (x3_1 ++ [t997]) := ⟨_, rfl⟩
                                          replace H : (gemotlaw1_made_p.l0 kj22 l0 y1003 (wrap64 (x4_1 + 1))) = some r := by first | (rw [hy1003]; with_reducible exact H) | (have H2_ := (Option.bind_some _ _).symm.trans H; rw [hy1003]; with_reducible exact H2_) | (have H2_ := (Option.bind_some _ _).symm.trans H; with_reducible exact H2_) | with_reducible exact H | (rw [hy1003]; exact H) | exact H
                                          have Ny1003 := Aside0.mk hy1003
                                          clear hy1003
                                          have H' := Aside0.mk H
                                          clear H
                                          go_wp2_with (first | ((with_reducible refine gate_callee (f := 90) rfl ?_); refine goesL_ (some 72) rfl rfl Try.func90 (by kernel_rfl) rfl #[.string (rdOf ByteArray.empty x3_1 t976)] rfl (by (try simp only [List.map_toArray, List.map_cons, List.map_nil]); first | done | rfl | (simp only [List.length_drop, List.length_take]; rfl)) ?_; (with_reducible refine (term_Key.calls (rdOf ByteArray.empty x3_1 t976) t997 t998 _ A51.out).mono ?_); rintro e w61 ⟨rfl, hb⟩; refine ⟨_, rfl, ?_⟩; have n0_ := Aside0.mk (Kd.R_below (by (with_reducible repeat (first | apply Kd.R_alloc | apply Kd.R_drewN | apply Kd.R_drew)); exact HO_3.out) hb); have n1_ := Aside0.mk (blk_below (g := gb975) (o := .cells #[.int .i64 ((rd_T169 l0 x4_1).f0), .int .i64 ((rd_T169 l0 x4_1).f1), .int .i64 ((rd_T169 l0 x4_1).f2), .int .i64 ((rd_T169 l0 x4_1).f3)] 169 (0, 0)) (by (with_reducible repeat (first | refine blk_drewN ?_ _ | refine blk_drew ?_ | refine blk_alloc ?_ _)); exact BK975.out) hb); have n2_ := Aside0.mk (below_step (by repeat (first | (with_reducible first | exact HB.out | apply below_alloc | apply pw_below_drewN | apply below_drew1 | refine below_set ?_ GE975.out) | exact HB.out)) hb); clear HO_3; clear BK975; clear HB; have HO_3 := n0_; have BK975 := n1_; have HB := n2_; clear n0_ n1_ n2_; (try clear hb); (try clear hb2); (try clear hk); (try clear hi)) | ((with_reducible refine gate_builtin (b := .append) (xs := #[.tmp 118, .tmp 120]) rfl ?_); (try (refine gate_guard (by rfl) ?_; dsimp only)); at_builtin; refine Kd.R_append Kd.string (w0 := w) w.heap.size rfl (.tmp 118) (.tmp 120) 37 23 (.string ⟨#[]⟩) 16 rfl Try.underlying37 info23 rfl (by decide) (by omega) (.slice (some ad977) x3_1.length co26) x3_1 t997 [.string t997] (fun _ => True) (fun _ => False) rfl rfl ?aP (fun _ hk => hk.elim) ?aF ?aO ?aB ?aS ?aL ?_; (case aP => exact rfl); (case aB => exact (by repeat (first | (with_reducible first | exact HB.out | apply below_alloc | apply pw_below_drewN | apply below_drew1 | refine below_set ?_ GE975.out) | exact HB.out))); (case aF => exact (fun _ _ => trivial)); (case aO => exact (by (with_reducible repeat (first | apply Kd.R_alloc | apply Kd.R_drewN | apply Kd.R_drew)); exact HO_3.out)); (case aS => exact (below_size (by repeat (first | (with_reducible first | exact HB.out | apply below_alloc | apply pw_below_drewN | apply below_drew1 | refine below_set ?_ GE975.out) | exact HB.out)))); (case aL => have := LMc60.out; omega); intro v1004 w62 ho hb hg hat; rw [← Ny1003.out] at ho; have n0_ := Aside0.mk (blk_grown (g := gb975) (o := .cells #[.int .i64 ((rd_T169 l0 x4_1).f0), .int .i64 ((rd_T169 l0 x4_1).f1), .int .i64 ((rd_T169 l0 x4_1).f2), .int .i64 ((rd_T169 l0 x4_1).f3)] 169 (0, 0)) (by (with_reducible repeat (first | refine blk_drewN ?_ _ | refine blk_drew ?_ | refine blk_alloc ?_ _)); exact BK975.out) hg (Kd.R_ne HO_3.out BK975.out (by decide))); have n1_ := Aside0.mk (hb); have n2_ := Aside0.mk (ho); clear BK975; clear HB; clear HO_3; have BK975 := n0_; have HB := n1_; have HO1005 := n2_; clear n0_ n1_ n2_; clear ho hb hg hat))
                                          go_roundg kj22
                                          case measure => have := HK1.out; have := HJ6.out; have := HJ22.out; omega
                                          case rel => exact ⟨(y1003), (wrap64 (x4_1 + 1)), (by first | rfl | (simp; done) | (simp [*]; done)), H', ⟨by have := HK1.out; have := HJ6.out; have := HJ22.out; omega⟩, ⟨by (with_reducible repeat (first | apply Kd.R_alloc | apply Kd.R_drewN | apply Kd.R_drew)); exact HO1005.out⟩, ⟨by repeat (first | (with_reducible first | exact HB.out | apply below_alloc | apply pw_below_drewN | apply below_drew1 | refine below_set ?_ GE975.out) | exact HB.out)⟩⟩
                                        · rw [if_neg c60] at H
                                          exact absurd H (by simp)
                                    · rw [if_neg c52] at H
                                      have c52b0 : (t998 == 0) = false := beq_eq_false_iff_ne.mpr c52
                                      have c52b1 : (t998 != 0) = true := bne_iff_ne.mpr c52
                                      replace H := Option.bind_eq_some_iff.mp H
                                      obtain ⟨t1006, A630, H⟩ := H
                                      replace H : (if x3_1.length < 8796093022208 then (gemotlaw1_made_p.l0 kj22 l0 (x3_1 ++ [t1006]) (wrap64 (x4_1 + 1))) else (none)) = some r := H
                                      have A63 := Aside0.mk A630
                                      clear A630
                                      by_cases c64 : x3_1.length < 8796093022208
                                      · rw [if_pos c64] at H
                                        have LMc64 := Aside0.mk c64
                                        clear c64
                                        obtain ⟨y1007, hy1007⟩ : ∃ y_ : List ByteArray, y_ = (x3_1 ++ [t1006]) := ⟨_, rfl⟩
                                        replace H : (gemotlaw1_made_p.l0 kj22 l0 y1007 (wrap64 (x4_1 + 1))) = some r := by first | (rw [hy1007]; with_reducible exact H) | (have H2_ := (Option.bind_some _ _).symm.trans H; rw [hy1007]; with_reducible exact H2_) | (have H2_ := (Option.bind_some _ _).symm.trans H; with_reducible exact H2_) | with_reducible exact H | (rw [hy1007]; exact H) | exact H
                                        have Ny1007 := Aside0.mk hy1007
                                        clear hy1007
                                        have H' := Aside0.mk H
                                        clear H
                                        go_wp2_with (first | ((with_reducible refine gate_callee (f := 90) rfl ?_); refine goesL_ (some 72) rfl rfl Try.func90 (by kernel_rfl) rfl #[.string (rdOf ByteArray.empty x3_1 t976)] rfl (by (try simp only [List.map_toArray, List.map_cons, List.map_nil]); first | done | rfl | (simp only [List.length_drop, List.length_take]; rfl)) ?_; (with_reducible refine (term_Key.calls (rdOf ByteArray.empty x3_1 t976) t997 t998 _ A51.out).mono ?_); rintro e w65 ⟨rfl, hb⟩; refine ⟨_, rfl, ?_⟩; have n0_ := Aside0.mk (Kd.R_below (by (with_reducible repeat (first | apply Kd.R_alloc | apply Kd.R_drewN | apply Kd.R_drew)); exact HO_3.out) hb); have n1_ := Aside0.mk (blk_below (g := gb975) (o := .cells #[.int .i64 ((rd_T169 l0 x4_1).f0), .int .i64 ((rd_T169 l0 x4_1).f1), .int .i64 ((rd_T169 l0 x4_1).f2), .int .i64 ((rd_T169 l0 x4_1).f3)] 169 (0, 0)) (by (with_reducible repeat (first | refine blk_drewN ?_ _ | refine blk_drew ?_ | refine blk_alloc ?_ _)); exact BK975.out) hb); have n2_ := Aside0.mk (below_step (by repeat (first | (with_reducible first | exact HB.out | apply below_alloc | apply pw_below_drewN | apply below_drew1 | refine below_set ?_ GE975.out) | exact HB.out)) hb); clear HO_3; clear BK975; clear HB; have HO_3 := n0_; have BK975 := n1_; have HB := n2_; clear n0_ n1_ n2_; (try clear hb); (try clear hb2); (try clear hk); (try clear hi); have hcz66_0 : w65.cell? ⟨gb975, 0, none⟩ = some (.int .i64 ((rd_T169 l0 x4_1).f0)) := (blk_cell BK975.out 0).trans rfl; have hcz66_1 : w65.cell? ⟨gb975, 1, none⟩ = some (.int .i64 ((rd_T169 l0 x4_1).f1)) := (blk_cell BK975.out 1).trans rfl; have hcz66_2 : w65.cell? ⟨gb975, 2, none⟩ = some (.int .i64 ((rd_T169 l0 x4_1).f2)) := (blk_cell BK975.out 2).trans rfl; have hcz66_3 : w65.cell? ⟨gb975, 3, none⟩ = some (.int .i64 ((rd_T169 l0 x4_1).f3)) := (blk_cell BK975.out 3).trans rfl; have hfz66_0 := blk_frozen BK975.out 0; have hfz66_1 := blk_frozen BK975.out 1; have hfz66_2 := blk_frozen BK975.out 2; have hfz66_3 := blk_frozen BK975.out 3) | ((with_reducible refine gate_callee (f := 142) rfl ?_); refine goesL_ (some 117) rfl rfl Try.func142 (by kernel_rfl) rfl #[.int .i64 ((rd_T169 l0 x4_1).f2)] rfl (by (try simp only [List.map_toArray, List.map_cons, List.map_nil]); first | done | rfl | (simp only [List.length_drop, List.length_take]; rfl)) ?_; (with_reducible refine (gemotlaw1_name.calls ((rd_T169 l0 x4_1).f2) t1006 _ A63.out).mono ?_); rintro e w67 ⟨rfl, hb⟩; refine ⟨_, rfl, ?_⟩; have n0_ := Aside0.mk (Kd.R_below (by (with_reducible repeat (first | apply Kd.R_alloc | apply Kd.R_drewN | apply Kd.R_drew)); exact HO_3.out) hb); have n1_ := Aside0.mk (blk_below (g := gb975) (o := .cells #[.int .i64 ((rd_T169 l0 x4_1).f0), .int .i64 ((rd_T169 l0 x4_1).f1), .int .i64 ((rd_T169 l0 x4_1).f2), .int .i64 ((rd_T169 l0 x4_1).f3)] 169 (0, 0)) (by (with_reducible repeat (first | refine blk_drewN ?_ _ | refine blk_drew ?_ | refine blk_alloc ?_ _)); exact BK975.out) hb); have n2_ := Aside0.mk (below_step (by repeat (first | (with_reducible first | exact HB.out | apply below_alloc | apply pw_below_drewN | apply below_drew1 | refine below_set ?_ GE975.out) | exact HB.out)) hb); clear HO_3; clear BK975; clear HB; have HO_3 := n0_; have BK975 := n1_; have HB := n2_; clear n0_ n1_ n2_; (try clear hb); (try clear hb2); (try clear hk); (try clear hi)) | ((with_reducible refine gate_builtin (b := .append) (xs := #[.tmp 118, .tmp 120]) rfl ?_); (try (refine gate_guard (by rfl) ?_; dsimp only)); at_builtin; refine Kd.R_append Kd.string (w0 := w) w.heap.size rfl (.tmp 118) (.tmp 120) 37 23 (.string ⟨#[]⟩) 16 rfl Try.underlying37 info23 rfl (by decide) (by omega) (.slice (some ad977) x3_1.length co26) x3_1 t1006 [.string t1006] (fun _ => True) (fun _ => False) rfl rfl ?aP (fun _ hk => hk.elim) ?aF ?aO ?aB ?aS ?aL ?_; (case aP => exact rfl); (case aB => exact (by repeat (first | (with_reducible first | exact HB.out | apply below_alloc | apply pw_below_drewN | apply below_drew1 | refine below_set ?_ GE975.out) | exact HB.out))); (case aF => exact (fun _ _ => trivial)); (case aO => exact (by (with_reducible repeat (first | apply Kd.R_alloc | apply Kd.R_drewN | apply Kd.R_drew)); exact HO_3.out)); (case aS => exact (below_size (by repeat (first | (with_reducible first | exact HB.out | apply below_alloc | apply pw_below_drewN | apply below_drew1 | refine below_set ?_ GE975.out) | exact HB.out)))); (case aL => have := LMc64.out; omega); intro v1008 w68 ho hb hg hat; rw [← Ny1007.out] at ho; have n0_ := Aside0.mk (blk_grown (g := gb975) (o := .cells #[.int .i64 ((rd_T169 l0 x4_1).f0), .int .i64 ((rd_T169 l0 x4_1).f1), .int .i64 ((rd_T169 l0 x4_1).f2), .int .i64 ((rd_T169 l0 x4_1).f3)] 169 (0, 0)) (by (with_reducible repeat (first | refine blk_drewN ?_ _ | refine blk_drew ?_ | refine blk_alloc ?_ _)); exact BK975.out) hg (Kd.R_ne HO_3.out BK975.out (by decide))); have n1_ := Aside0.mk (hb); have n2_ := Aside0.mk (ho); clear BK975; clear HB; clear HO_3; have BK975 := n0_; have HB := n1_; have HO1009 := n2_; clear n0_ n1_ n2_; clear ho hb hg hat))
                                        go_roundg kj22
                                        case measure => have := HK1.out; have := HJ6.out; have := HJ22.out; omega
                                        case rel => exact ⟨(y1007), (wrap64 (x4_1 + 1)), (by first | rfl | (simp; done) | (simp [*]; done)), H', ⟨by have := HK1.out; have := HJ6.out; have := HJ22.out; omega⟩, ⟨by (with_reducible repeat (first | apply Kd.R_alloc | apply Kd.R_drewN | apply Kd.R_drew)); exact HO1009.out⟩, ⟨by repeat (first | (with_reducible first | exact HB.out | apply below_alloc | apply pw_below_drewN | apply below_drew1 | refine below_set ?_ GE975.out) | exact HB.out)⟩⟩
                                      · rw [if_neg c64] at H
                                        exact absurd H (by simp)
                                  · rw [if_neg c50] at H
                                    have c50b0 : (t983 == 4) = false := beq_eq_false_iff_ne.mpr c50
                                    have c50b1 : (t983 != 4) = true := bne_iff_ne.mpr c50
                                    have HC69 := Aside0.mk H
                                    clear H
                                    go_upto_if 75 with (fail)
                                    go_cut [75] (fun v75 wc => ∃ (kq : Nat) (x75_68 : Bool), v75 = .bool x75_68 ∧ Aside0 (gemotlaw1_made_p.j3 kq l0 x3_1 x4_1 (rdOf ByteArray.empty x3_1 t976) (rdOf ByteArray.empty x3_1 t978) (rdOf ByteArray.empty x3_1 t980) t982 0 t983 x75_68 ((rd_T169 l0 x4_1).f0) ((rd_T169 l0 x4_1).f1) ((rd_T169 l0 x4_1).f2) ((rd_T169 l0 x4_1).f3) = some r) ∧ Aside0 (kq ≤ kj22) ∧ Aside0 (Kd.R Kd.string 23 wc w.heap.size (fun _ => True) (.slice (some ad977) x3_1.length co26) x3_1) ∧ Aside0 (wc.heap[gb975]? = some (.cells #[.int .i64 ((rd_T169 l0 x4_1).f0), .int .i64 ((rd_T169 l0 x4_1).f1), .int .i64 ((rd_T169 l0 x4_1).f2), .int .i64 ((rd_T169 l0 x4_1).f3)] 169 (0, 0))) ∧ Aside0 (Below w.heap.size w wc))
                                    case first =>
                                      have H := HC69.out
                                      clear HC69
                                      by_cases c70 : t983 = 5
                                      · rw [if_pos c70] at H
                                        have c70b0 : (t983 == 5) = true := beq_iff_eq.mpr c70
                                        have c70b1 : (t983 != 5) = false := bne_eq_false_iff_eq.mpr c70
                                        clear c70
                                        (first | rw [c70b0] | (simp only [i64_w, i32_w]; rw [c70b0]) | skip)
                                        have H' := Aside0.mk H
                                        clear H
                                        go_wp2
                                        go_meet
                                        case rel => exact ⟨_, ((t983 == 5)), (by first | rfl | (simp; done) | (simp [*]; done)), H', ⟨by have := HK1.out; have := HJ6.out; have := HJ22.out; first | omega | exact Nat.le_refl _⟩, ⟨by (with_reducible repeat (first | apply Kd.R_alloc | apply Kd.R_drewN | apply Kd.R_drew)); exact HO_3.out⟩, ⟨by (with_reducible repeat (first | refine blk_drewN ?_ _ | refine blk_drew ?_ | refine blk_alloc ?_ _)); exact BK975.out⟩, ⟨by repeat (first | (with_reducible first | exact HB.out | apply below_alloc | apply pw_below_drewN | apply below_drew1 | refine below_set ?_ GE975.out) | exact HB.out)⟩⟩
                                      · rw [if_neg c70] at H
                                        have c70b0 : (t983 == 5) = false := beq_eq_false_iff_ne.mpr c70
                                        have c70b1 : (t983 != 5) = true := bne_iff_ne.mpr c70
                                        (first | rw [c70b0] | (simp only [i64_w, i32_w]; rw [c70b0]) | skip)
                                        have H' := Aside0.mk H
                                        clear H
                                        go_wp2
                                        go_meet
                                        case rel => exact ⟨_, ((t983 == 6)), (by first | rfl | (simp; done) | (simp [*]; done)), H', ⟨by have := HK1.out; have := HJ6.out; have := HJ22.out; first | omega | exact Nat.le_refl _⟩, ⟨by (with_reducible repeat (first | apply Kd.R_alloc | apply Kd.R_drewN | apply Kd.R_drew)); exact HO_3.out⟩, ⟨by (with_reducible repeat (first | refine blk_drewN ?_ _ | refine blk_drew ?_ | refine blk_alloc ?_ _)); exact BK975.out⟩, ⟨by repeat (first | (with_reducible first | exact HB.out | apply below_alloc | apply pw_below_drewN | apply below_drew1 | refine below_set ?_ GE975.out) | exact HB.out)⟩⟩
                                    case rest =>
                                      clear HC69
                                      try clear c1
                                      try clear c2
                                      try clear p2
                                      try clear c3
                                      try clear c4
                                      try clear c5
                                      try clear c6
                                      try clear p6
                                      try clear c7
                                      try clear c8
                                      try clear c8b0
                                      try clear c9
                                      try clear p9
                                      try clear q9
                                      try clear hx9
                                      try clear c10
                                      try clear c10b0
                                      try clear c11
                                      try clear c11b0
                                      try clear c13
                                      try clear c13b0
                                      try clear c14
                                      try clear c14b0
                                      try clear c16
                                      try clear c16b0
                                      try clear c17
                                      try clear c17b0
                                      try clear c19
                                      try clear c19b0
                                      try clear c20
                                      try clear c20b0
                                      try clear c29
                                      try clear c29b0
                                      try clear c29b1
                                      try clear c30
                                      try clear c30b0
                                      try clear c30b1
                                      try clear c31
                                      try clear c33
                                      try clear c33b0
                                      try clear c33b1
                                      try clear c34
                                      try clear c34b0
                                      try clear c34b1
                                      try clear c36
                                      try clear c41
                                      try clear c45
                                      try clear c50
                                      try clear c50b0
                                      try clear c50b1
                                      try clear c52
                                      try clear c52b0
                                      try clear c52b1
                                      try clear c53
                                      try clear c53b0
                                      try clear c53b1
                                      try clear c55
                                      try clear c60
                                      try clear c64
                                      try clear p64
                                      try clear c70
                                      try clear c70b0
                                      try clear c70b1
                                      try clear hcz25_0
                                      try clear hcz25_1
                                      try clear hcz25_2
                                      try clear hcz25_3
                                      try clear hcz28_0
                                      try clear hcz28_1
                                      try clear hcz28_2
                                      try clear hcz28_3
                                      try clear hcz38_0
                                      try clear hcz38_1
                                      try clear hcz38_2
                                      try clear hcz38_3
                                      try clear hcz47_0
                                      try clear hcz47_1
                                      try clear hcz47_2
                                      try clear hcz47_3
                                      try clear hcz57_0
                                      try clear hcz57_1
                                      try clear hcz57_2
                                      try clear hcz57_3
                                      try clear hcz66_0
                                      try clear hcz66_1
                                      try clear hcz66_2
                                      try clear hcz66_3
                                      try clear hfz25_0
                                      try clear hfz25_1
                                      try clear hfz25_2
                                      try clear hfz25_3
                                      try clear hfz28_0
                                      try clear hfz28_1
                                      try clear hfz28_2
                                      try clear hfz28_3
                                      try clear hfz38_0
                                      try clear hfz38_1
                                      try clear hfz38_2
                                      try clear hfz38_3
                                      try clear hfz47_0
                                      try clear hfz47_1
                                      try clear hfz47_2
                                      try clear hfz47_3
                                      try clear hfz57_0
                                      try clear hfz57_1
                                      try clear hfz57_2
                                      try clear hfz57_3
                                      try clear hfz66_0
                                      try clear hfz66_1
                                      try clear hfz66_2
                                      try clear hfz66_3
                                      try clear hx974_0
                                      try clear hx974_1
                                      try clear hx974_2
                                      try clear hx974_3
                                      try clear hx977_0
                                      try clear hx979_0
                                      try clear hx981_0
                                      try clear p2
                                      try clear p9
                                      try clear p974
                                      try clear p977
                                      try clear p979
                                      try clear p981
                                      try clear q9
                                      try clear q974
                                      try clear q977
                                      try clear q979
                                      try clear q981
                                      obtain ⟨kq, x75_68, rfl, HA, HJ68, HO_3, BK975, HB⟩ := hcut
                                      cases kq with
                                      | zero => exact absurd HA.out (by simp [gemotlaw1_made_p.j3])
                                      | succ kj68 =>
                                        have H := HA.out
                                        clear HA
                                        simp only [gemotlaw1_made_p.j3] at H
                                        by_cases c71 : x75_68 = true
                                        · subst c71
                                          have H1 : ((term_Pair.f (rdOf ByteArray.empty x3_1 t976) (rdOf ByteArray.empty x3_1 t978)).bind fun bt1010 => (if bt1010.2 = 0 then (if (bt1010.1.size : Int) > 600 then ((gemotlaw1_name.f ((rd_T169 l0 x4_1).f2)).bind fun t1012 => (if x3_1.length < 8796093022208 then (gemotlaw1_made_p.l0 kj68 l0 (x3_1 ++ [t1012]) (wrap64 (x4_1 + 1))) else (none))) else (if x3_1.length < 8796093022208 then (gemotlaw1_made_p.l0 kj68 l0 (x3_1 ++ [bt1010.1]) (wrap64 (x4_1 + 1))) else (none))) else ((gemotlaw1_name.f ((rd_T169 l0 x4_1).f2)).bind fun t1019 => (if x3_1.length < 8796093022208 then (gemotlaw1_made_p.l0 kj68 l0 (x3_1 ++ [t1019]) (wrap64 (x4_1 + 1))) else (none))))) = some r := by rw [if_pos rfl] at H; exact H
                                          clear H
                                          have H := H1
                                          clear H1
                                          replace H := Option.bind_eq_some_iff.mp H
                                          obtain ⟨⟨t1010, t1011⟩, A720, H⟩ := H
                                          replace H : (if t1011 = 0 then (if (t1010.size : Int) > 600 then ((gemotlaw1_name.f ((rd_T169 l0 x4_1).f2)).bind fun t1012 => (if x3_1.length < 8796093022208 then (gemotlaw1_made_p.l0 kj68 l0 (x3_1 ++ [t1012]) (wrap64 (x4_1 + 1))) else (none))) else (if x3_1.length < 8796093022208 then (gemotlaw1_made_p.l0 kj68 l0 (x3_1 ++ [t1010]) (wrap64 (x4_1 + 1))) else (none))) else ((gemotlaw1_name.f ((rd_T169 l0 x4_1).f2)).bind fun t1019 => (if x3_1.length < 8796093022208 then (gemotlaw1_made_p.l0 kj68 l0 (x3_1 ++ [t1019]) (wrap64 (x4_1 + 1))) else (none)))) = some r := H
                                          have A72 := Aside0.mk A720
                                          clear A720
                                          by_cases c73 : t1011 = 0
                                          · rw [if_pos c73] at H
                                            have c73b0 : (t1011 == 0) = true := beq_iff_eq.mpr c73
                                            have c73b1 : (t1011 != 0) = false := bne_eq_false_iff_eq.mpr c73
                                            clear c73
                                            by_cases c74 : (t1010.size : Int) > 600
                                            · rw [if_pos c74] at H
                                              have c74b0 : decide (600 < (t1010.size : Int)) = true := decide_eq_true c74
                                              have c74b1 : decide (600 < t1010.size) = true := decide_eq_true (by omega)
                                              clear c74
                                              replace H := Option.bind_eq_some_iff.mp H
                                              obtain ⟨t1012, A750, H⟩ := H
                                              replace H : (if x3_1.length < 8796093022208 then (gemotlaw1_made_p.l0 kj68 l0 (x3_1 ++ [t1012]) (wrap64 (x4_1 + 1))) else (none)) = some r := H
                                              have A75 := Aside0.mk A750
                                              clear A750
                                              by_cases c76 : x3_1.length < 8796093022208
                                              · rw [if_pos c76] at H
                                                have LMc76 := Aside0.mk c76
                                                clear c76
                                                obtain ⟨y1013, hy1013⟩ : ∃ y_ : List ByteArray, y_ = (x3_1 ++ [t1012]) := ⟨_, rfl⟩
                                                replace H : (gemotlaw1_made_p.l0 kj68 l0 y1013 (wrap64 (x4_1 + 1))) = some r := by first | (rw [hy1013]; with_reducible exact H) | (have H2_ := (Option.bind_some _ _).symm.trans H; rw [hy1013]; with_reducible exact H2_) | (have H2_ := (Option.bind_some _ _).symm.trans H; with_reducible exact H2_) | with_reducible exact H | (rw [hy1013]; exact H) | exact H
                                                have Ny1013 := Aside0.mk hy1013
                                                clear hy1013
                                                have H' := Aside0.mk H
                                                clear H
                                                go_wp2_with (first | ((with_reducible refine gate_callee (f := 92) rfl ?_); refine goesL_ (some 81) rfl rfl Try.func92 (by kernel_rfl) rfl #[.string (rdOf ByteArray.empty x3_1 t976), .string (rdOf ByteArray.empty x3_1 t978)] rfl (by (try simp only [List.map_toArray, List.map_cons, List.map_nil]); first | done | rfl | (simp only [List.length_drop, List.length_take]; rfl)) ?_; (with_reducible refine (term_Pair.calls (rdOf ByteArray.empty x3_1 t976) (rdOf ByteArray.empty x3_1 t978) t1010 t1011 _ A72.out).mono ?_); rintro e w77 ⟨rfl, hb⟩; refine ⟨_, rfl, ?_⟩; have n0_ := Aside0.mk (Kd.R_below (by (with_reducible repeat (first | apply Kd.R_alloc | apply Kd.R_drewN | apply Kd.R_drew)); exact HO_3.out) hb); have n1_ := Aside0.mk (blk_below (g := gb975) (o := .cells #[.int .i64 ((rd_T169 l0 x4_1).f0), .int .i64 ((rd_T169 l0 x4_1).f1), .int .i64 ((rd_T169 l0 x4_1).f2), .int .i64 ((rd_T169 l0 x4_1).f3)] 169 (0, 0)) (by (with_reducible repeat (first | refine blk_drewN ?_ _ | refine blk_drew ?_ | refine blk_alloc ?_ _)); exact BK975.out) hb); have n2_ := Aside0.mk (below_step (by repeat (first | (with_reducible first | exact HB.out | apply below_alloc | apply pw_below_drewN | apply below_drew1 | refine below_set ?_ GE975.out) | exact HB.out)) hb); clear HO_3; clear BK975; clear HB; have HO_3 := n0_; have BK975 := n1_; have HB := n2_; clear n0_ n1_ n2_; (try clear hb); (try clear hb2); (try clear hk); (try clear hi); have hcz78_0 : w77.cell? ⟨gb975, 0, none⟩ = some (.int .i64 ((rd_T169 l0 x4_1).f0)) := (blk_cell BK975.out 0).trans rfl; have hcz78_1 : w77.cell? ⟨gb975, 1, none⟩ = some (.int .i64 ((rd_T169 l0 x4_1).f1)) := (blk_cell BK975.out 1).trans rfl; have hcz78_2 : w77.cell? ⟨gb975, 2, none⟩ = some (.int .i64 ((rd_T169 l0 x4_1).f2)) := (blk_cell BK975.out 2).trans rfl; have hcz78_3 : w77.cell? ⟨gb975, 3, none⟩ = some (.int .i64 ((rd_T169 l0 x4_1).f3)) := (blk_cell BK975.out 3).trans rfl; have hfz78_0 := blk_frozen BK975.out 0; have hfz78_1 := blk_frozen BK975.out 1; have hfz78_2 := blk_frozen BK975.out 2; have hfz78_3 := blk_frozen BK975.out 3) | ((with_reducible refine gate_callee (f := 142) rfl ?_); refine goesL_ (some 117) rfl rfl Try.func142 (by kernel_rfl) rfl #[.int .i64 ((rd_T169 l0 x4_1).f2)] rfl (by (try simp only [List.map_toArray, List.map_cons, List.map_nil]); first | done | rfl | (simp only [List.length_drop, List.length_take]; rfl)) ?_; (with_reducible refine (gemotlaw1_name.calls ((rd_T169 l0 x4_1).f2) t1012 _ A75.out).mono ?_); rintro e w79 ⟨rfl, hb⟩; refine ⟨_, rfl, ?_⟩; have n0_ := Aside0.mk (Kd.R_below (by (with_reducible repeat (first | apply Kd.R_alloc | apply Kd.R_drewN | apply Kd.R_drew)); exact HO_3.out) hb); have n1_ := Aside0.mk (blk_below (g := gb975) (o := .cells #[.int .i64 ((rd_T169 l0 x4_1).f0), .int .i64 ((rd_T169 l0 x4_1).f1), .int .i64 ((rd_T169 l0 x4_1).f2), .int .i64 ((rd_T169 l0 x4_1).f3)] 169 (0, 0)) (by (with_reducible repeat (first | refine blk_drewN ?_ _ | refine blk_drew ?_ | refine blk_alloc ?_ _)); exact BK975.out) hb); have n2_ := Aside0.mk (below_step (by repeat (first | (with_reducible first | exact HB.out | apply below_alloc | apply pw_below_drewN | apply below_drew1 | refine below_set ?_ GE975.out) | exact HB.out)) hb); clear HO_3; clear BK975; clear HB; have HO_3 := n0_; have BK975 := n1_; have HB := n2_; clear n0_ n1_ n2_; (try clear hb); (try clear hb2); (try clear hk); (try clear hi)) | ((with_reducible refine gate_builtin (b := .append) (xs := #[.tmp 118, .tmp 120]) rfl ?_); (try (refine gate_guard (by rfl) ?_; dsimp only)); at_builtin; refine Kd.R_append Kd.string (w0 := w) w.heap.size rfl (.tmp 118) (.tmp 120) 37 23 (.string ⟨#[]⟩) 16 rfl Try.underlying37 info23 rfl (by decide) (by omega) (.slice (some ad977) x3_1.length co26) x3_1 t1012 [.string t1012] (fun _ => True) (fun _ => False) rfl rfl ?aP (fun _ hk => hk.elim) ?aF ?aO ?aB ?aS ?aL ?_; (case aP => exact rfl); (case aB => exact (by repeat (first | (with_reducible first | exact HB.out | apply below_alloc | apply pw_below_drewN | apply below_drew1 | refine below_set ?_ GE975.out) | exact HB.out))); (case aF => exact (fun _ _ => trivial)); (case aO => exact (by (with_reducible repeat (first | apply Kd.R_alloc | apply Kd.R_drewN | apply Kd.R_drew)); exact HO_3.out)); (case aS => exact (below_size (by repeat (first | (with_reducible first | exact HB.out | apply below_alloc | apply pw_below_drewN | apply below_drew1 | refine below_set ?_ GE975.out) | exact HB.out)))); (case aL => have := LMc76.out; omega); intro v1014 w80 ho hb hg hat; rw [← Ny1013.out] at ho; have n0_ := Aside0.mk (blk_grown (g := gb975) (o := .cells #[.int .i64 ((rd_T169 l0 x4_1).f0), .int .i64 ((rd_T169 l0 x4_1).f1), .int .i64 ((rd_T169 l0 x4_1).f2), .int .i64 ((rd_T169 l0 x4_1).f3)] 169 (0, 0)) (by (with_reducible repeat (first | refine blk_drewN ?_ _ | refine blk_drew ?_ | refine blk_alloc ?_ _)); exact BK975.out) hg (Kd.R_ne HO_3.out BK975.out (by decide))); have n1_ := Aside0.mk (hb); have n2_ := Aside0.mk (ho); clear BK975; clear HB; clear HO_3; have BK975 := n0_; have HB := n1_; have HO1015 := n2_; clear n0_ n1_ n2_; clear ho hb hg hat))
                                                go_roundg kj68
                                                case measure => have := HK1.out; have := HJ6.out; have := HJ22.out; have := HJ68.out; omega
                                                case rel => exact ⟨(y1013), (wrap64 (x4_1 + 1)), (by first | rfl | (simp; done) | (simp [*]; done)), H', ⟨by have := HK1.out; have := HJ6.out; have := HJ22.out; have := HJ68.out; omega⟩, ⟨by (with_reducible repeat (first | apply Kd.R_alloc | apply Kd.R_drewN | apply Kd.R_drew)); exact HO1015.out⟩, ⟨by repeat (first | (with_reducible first | exact HB.out | apply below_alloc | apply pw_below_drewN | apply below_drew1 | refine below_set ?_ GE975.out) | exact HB.out)⟩⟩
                                              · rw [if_neg c76] at H
                                                exact absurd H (by simp)
                                            · rw [if_neg c74] at H
                                              have c74b0 : decide (600 < (t1010.size : Int)) = false := decide_eq_false c74
                                              have c74b1 : decide (600 < t1010.size) = false := decide_eq_false (by omega)
                                              clear c74
                                              by_cases c81 : x3_1.length < 8796093022208
                                              · rw [if_pos c81] at H
                                                have LMc81 := Aside0.mk c81
                                                clear c81
                                                obtain ⟨y1016, hy1016⟩ : ∃ y_ : List ByteArray, y_ = (x3_1 ++ [t1010]) := ⟨_, rfl⟩
                                                replace H : (gemotlaw1_made_p.l0 kj68 l0 y1016 (wrap64 (x4_1 + 1))) = some r := by first | (rw [hy1016]; with_reducible exact H) | (have H2_ := (Option.bind_some _ _).symm.trans H; rw [hy1016]; with_reducible exact H2_) | (have H2_ := (Option.bind_some _ _).symm.trans H; with_reducible exact H2_) | with_reducible exact H | (rw [hy1016]; exact H) | exact H
                                                have Ny1016 := Aside0.mk hy1016
                                                clear hy1016
                                                have H' := Aside0.mk H
                                                clear H
                                                go_wp2_with (first | ((with_reducible refine gate_callee (f := 92) rfl ?_); refine goesL_ (some 81) rfl rfl Try.func92 (by kernel_rfl) rfl #[.string (rdOf ByteArray.empty x3_1 t976), .string (rdOf ByteArray.empty x3_1 t978)] rfl (by (try simp only [List.map_toArray, List.map_cons, List.map_nil]); first | done | rfl | (simp only [List.length_drop, List.length_take]; rfl)) ?_; (with_reducible refine (term_Pair.calls (rdOf ByteArray.empty x3_1 t976) (rdOf ByteArray.empty x3_1 t978) t1010 t1011 _ A72.out).mono ?_); rintro e w82 ⟨rfl, hb⟩; refine ⟨_, rfl, ?_⟩; have n0_ := Aside0.mk (Kd.R_below (by (with_reducible repeat (first | apply Kd.R_alloc | apply Kd.R_drewN | apply Kd.R_drew)); exact HO_3.out) hb); have n1_ := Aside0.mk (blk_below (g := gb975) (o := .cells #[.int .i64 ((rd_T169 l0 x4_1).f0), .int .i64 ((rd_T169 l0 x4_1).f1), .int .i64 ((rd_T169 l0 x4_1).f2), .int .i64 ((rd_T169 l0 x4_1).f3)] 169 (0, 0)) (by (with_reducible repeat (first | refine blk_drewN ?_ _ | refine blk_drew ?_ | refine blk_alloc ?_ _)); exact BK975.out) hb); have n2_ := Aside0.mk (below_step (by repeat (first | (with_reducible first | exact HB.out | apply below_alloc | apply pw_below_drewN | apply below_drew1 | refine below_set ?_ GE975.out) | exact HB.out)) hb); clear HO_3; clear BK975; clear HB; have HO_3 := n0_; have BK975 := n1_; have HB := n2_; clear n0_ n1_ n2_; (try clear hb); (try clear hb2); (try clear hk); (try clear hi)) | ((with_reducible refine gate_builtin (b := .append) (xs := #[.tmp 118, .tmp 120]) rfl ?_); (try (refine gate_guard (by rfl) ?_; dsimp only)); at_builtin; refine Kd.R_append Kd.string (w0 := w) w.heap.size rfl (.tmp 118) (.tmp 120) 37 23 (.string ⟨#[]⟩) 16 rfl Try.underlying37 info23 rfl (by decide) (by omega) (.slice (some ad977) x3_1.length co26) x3_1 t1010 [.string t1010] (fun _ => True) (fun _ => False) rfl rfl ?aP (fun _ hk => hk.elim) ?aF ?aO ?aB ?aS ?aL ?_; (case aP => exact rfl); (case aB => exact (by repeat (first | (with_reducible first | exact HB.out | apply below_alloc | apply pw_below_drewN | apply below_drew1 | refine below_set ?_ GE975.out) | exact HB.out))); (case aF => exact (fun _ _ => trivial)); (case aO => exact (by (with_reducible repeat (first | apply Kd.R_alloc | apply Kd.R_drewN | apply Kd.R_drew)); exact HO_3.out)); (case aS => exact (below_size (by repeat (first | (with_reducible first | exact HB.out | apply below_alloc | apply pw_below_drewN | apply below_drew1 | refine below_set ?_ GE975.out) | exact HB.out)))); (case aL => have := LMc81.out; omega); intro v1017 w83 ho hb hg hat; rw [← Ny1016.out] at ho; have n0_ := Aside0.mk (blk_grown (g := gb975) (o := .cells #[.int .i64 ((rd_T169 l0 x4_1).f0), .int .i64 ((rd_T169 l0 x4_1).f1), .int .i64 ((rd_T169 l0 x4_1).f2), .int .i64 ((rd_T169 l0 x4_1).f3)] 169 (0, 0)) (by (with_reducible repeat (first | refine blk_drewN ?_ _ | refine blk_drew ?_ | refine blk_alloc ?_ _)); exact BK975.out) hg (Kd.R_ne HO_3.out BK975.out (by decide))); have n1_ := Aside0.mk (hb); have n2_ := Aside0.mk (ho); clear BK975; clear HB; clear HO_3; have BK975 := n0_; have HB := n1_; have HO1018 := n2_; clear n0_ n1_ n2_; clear ho hb hg hat))
                                                go_roundg kj68
                                                case measure => have := HK1.out; have := HJ6.out; have := HJ22.out; have := HJ68.out; omega
                                                case rel => exact ⟨(y1016), (wrap64 (x4_1 + 1)), (by first | rfl | (simp; done) | (simp [*]; done)), H', ⟨by have := HK1.out; have := HJ6.out; have := HJ22.out; have := HJ68.out; omega⟩, ⟨by (with_reducible repeat (first | apply Kd.R_alloc | apply Kd.R_drewN | apply Kd.R_drew)); exact HO1018.out⟩, ⟨by repeat (first | (with_reducible first | exact HB.out | apply below_alloc | apply pw_below_drewN | apply below_drew1 | refine below_set ?_ GE975.out) | exact HB.out)⟩⟩
                                              · rw [if_neg c81] at H
                                                exact absurd H (by simp)
                                          · rw [if_neg c73] at H
                                            have c73b0 : (t1011 == 0) = false := beq_eq_false_iff_ne.mpr c73
                                            have c73b1 : (t1011 != 0) = true := bne_iff_ne.mpr c73
                                            replace H := Option.bind_eq_some_iff.mp H
                                            obtain ⟨t1019, A840, H⟩ := H
                                            replace H : (if x3_1.length < 8796093022208 then (gemotlaw1_made_p.l0 kj68 l0 (x3_1 ++ [t1019]) (wrap64 (x4_1 + 1))) else (none)) = some r := H
                                            have A84 := Aside0.mk A840
                                            clear A840
                                            by_cases c85 : x3_1.length < 8796093022208
                                            · rw [if_pos c85] at H
                                              have LMc85 := Aside0.mk c85
                                              clear c85
                                              obtain ⟨y1020, hy1020⟩ : ∃ y_ : List ByteArray, y_ = (x3_1 ++ [t1019]) := ⟨_, rfl⟩
                                              replace H : (gemotlaw1_made_p.l0 kj68 l0 y1020 (wrap64 (x4_1 + 1))) = some r := by first | (rw [hy1020]; with_reducible exact H) | (have H2_ := (Option.bind_some _ _).symm.trans H; rw [hy1020]; with_reducible exact H2_) | (have H2_ := (Option.bind_some _ _).symm.trans H; with_reducible exact H2_) | with_reducible exact H | (rw [hy1020]; exact H) | exact H
                                              have Ny1020 := Aside0.mk hy1020
                                              clear hy1020
                                              have H' := Aside0.mk H
                                              clear H
                                              go_wp2_with (first | ((with_reducible refine gate_callee (f := 92) rfl ?_); refine goesL_ (some 81) rfl rfl Try.func92 (by kernel_rfl) rfl #[.string (rdOf ByteArray.empty x3_1 t976), .string (rdOf ByteArray.empty x3_1 t978)] rfl (by (try simp only [List.map_toArray, List.map_cons, List.map_nil]); first | done | rfl | (simp only [List.length_drop, List.length_take]; rfl)) ?_; (with_reducible refine (term_Pair.calls (rdOf ByteArray.empty x3_1 t976) (rdOf ByteArray.empty x3_1 t978) t1010 t1011 _ A72.out).mono ?_); rintro e w86 ⟨rfl, hb⟩; refine ⟨_, rfl, ?_⟩; have n0_ := Aside0.mk (Kd.R_below (by (with_reducible repeat (first | apply Kd.R_alloc | apply Kd.R_drewN | apply Kd.R_drew)); exact HO_3.out) hb); have n1_ := Aside0.mk (blk_below (g := gb975) (o := .cells #[.int .i64 ((rd_T169 l0 x4_1).f0), .int .i64 ((rd_T169 l0 x4_1).f1), .int .i64 ((rd_T169 l0 x4_1).f2), .int .i64 ((rd_T169 l0 x4_1).f3)] 169 (0, 0)) (by (with_reducible repeat (first | refine blk_drewN ?_ _ | refine blk_drew ?_ | refine blk_alloc ?_ _)); exact BK975.out) hb); have n2_ := Aside0.mk (below_step (by repeat (first | (with_reducible first | exact HB.out | apply below_alloc | apply pw_below_drewN | apply below_drew1 | refine below_set ?_ GE975.out) | exact HB.out)) hb); clear HO_3; clear BK975; clear HB; have HO_3 := n0_; have BK975 := n1_; have HB := n2_; clear n0_ n1_ n2_; (try clear hb); (try clear hb2); (try clear hk); (try clear hi); have hcz87_0 : w86.cell? ⟨gb975, 0, none⟩ = some (.int .i64 ((rd_T169 l0 x4_1).f0)) := (blk_cell BK975.out 0).trans rfl; have hcz87_1 : w86.cell? ⟨gb975, 1, none⟩ = some (.int .i64 ((rd_T169 l0 x4_1).f1)) := (blk_cell BK975.out 1).trans rfl; have hcz87_2 : w86.cell? ⟨gb975, 2, none⟩ = some (.int .i64 ((rd_T169 l0 x4_1).f2)) := (blk_cell BK975.out 2).trans rfl; have hcz87_3 : w86.cell? ⟨gb975, 3, none⟩ = some (.int .i64 ((rd_T169 l0 x4_1).f3)) := (blk_cell BK975.out 3).trans rfl; have hfz87_0 := blk_frozen BK975.out 0; have hfz87_1 := blk_frozen BK975.out 1; have hfz87_2 := blk_frozen BK975.out 2; have hfz87_3 := blk_frozen BK975.out 3) | ((with_reducible refine gate_callee (f := 142) rfl ?_); refine goesL_ (some 117) rfl rfl Try.func142 (by kernel_rfl) rfl #[.int .i64 ((rd_T169 l0 x4_1).f2)] rfl (by (try simp only [List.map_toArray, List.map_cons, List.map_nil]); first | done | rfl | (simp only [List.length_drop, List.length_take]; rfl)) ?_; (with_reducible refine (gemotlaw1_name.calls ((rd_T169 l0 x4_1).f2) t1019 _ A84.out).mono ?_); rintro e w88 ⟨rfl, hb⟩; refine ⟨_, rfl, ?_⟩; have n0_ := Aside0.mk (Kd.R_below (by (with_reducible repeat (first | apply Kd.R_alloc | apply Kd.R_drewN | apply Kd.R_drew)); exact HO_3.out) hb); have n1_ := Aside0.mk (blk_below (g := gb975) (o := .cells #[.int .i64 ((rd_T169 l0 x4_1).f0), .int .i64 ((rd_T169 l0 x4_1).f1), .int .i64 ((rd_T169 l0 x4_1).f2), .int .i64 ((rd_T169 l0 x4_1).f3)] 169 (0, 0)) (by (with_reducible repeat (first | refine blk_drewN ?_ _ | refine blk_drew ?_ | refine blk_alloc ?_ _)); exact BK975.out) hb); have n2_ := Aside0.mk (below_step (by repeat (first | (with_reducible first | exact HB.out | apply below_alloc | apply pw_below_drewN | apply below_drew1 | refine below_set ?_ GE975.out) | exact HB.out)) hb); clear HO_3; clear BK975; clear HB; have HO_3 := n0_; have BK975 := n1_; have HB := n2_; clear n0_ n1_ n2_; (try clear hb); (try clear hb2); (try clear hk); (try clear hi)) | ((with_reducible refine gate_builtin (b := .append) (xs := #[.tmp 118, .tmp 120]) rfl ?_); (try (refine gate_guard (by rfl) ?_; dsimp only)); at_builtin; refine Kd.R_append Kd.string (w0 := w) w.heap.size rfl (.tmp 118) (.tmp 120) 37 23 (.string ⟨#[]⟩) 16 rfl Try.underlying37 info23 rfl (by decide) (by omega) (.slice (some ad977) x3_1.length co26) x3_1 t1019 [.string t1019] (fun _ => True) (fun _ => False) rfl rfl ?aP (fun _ hk => hk.elim) ?aF ?aO ?aB ?aS ?aL ?_; (case aP => exact rfl); (case aB => exact (by repeat (first | (with_reducible first | exact HB.out | apply below_alloc | apply pw_below_drewN | apply below_drew1 | refine below_set ?_ GE975.out) | exact HB.out))); (case aF => exact (fun _ _ => trivial)); (case aO => exact (by (with_reducible repeat (first | apply Kd.R_alloc | apply Kd.R_drewN | apply Kd.R_drew)); exact HO_3.out)); (case aS => exact (below_size (by repeat (first | (with_reducible first | exact HB.out | apply below_alloc | apply pw_below_drewN | apply below_drew1 | refine below_set ?_ GE975.out) | exact HB.out)))); (case aL => have := LMc85.out; omega); intro v1021 w89 ho hb hg hat; rw [← Ny1020.out] at ho; have n0_ := Aside0.mk (blk_grown (g := gb975) (o := .cells #[.int .i64 ((rd_T169 l0 x4_1).f0), .int .i64 ((rd_T169 l0 x4_1).f1), .int .i64 ((rd_T169 l0 x4_1).f2), .int .i64 ((rd_T169 l0 x4_1).f3)] 169 (0, 0)) (by (with_reducible repeat (first | refine blk_drewN ?_ _ | refine blk_drew ?_ | refine blk_alloc ?_ _)); exact BK975.out) hg (Kd.R_ne HO_3.out BK975.out (by decide))); have n1_ := Aside0.mk (hb); have n2_ := Aside0.mk (ho); clear BK975; clear HB; clear HO_3; have BK975 := n0_; have HB := n1_; have HO1022 := n2_; clear n0_ n1_ n2_; clear ho hb hg hat))
                                              go_roundg kj68
                                              case measure => have := HK1.out; have := HJ6.out; have := HJ22.out; have := HJ68.out; omega
                                              case rel => exact ⟨(y1020), (wrap64 (x4_1 + 1)), (by first | rfl | (simp; done) | (simp [*]; done)), H', ⟨by have := HK1.out; have := HJ6.out; have := HJ22.out; have := HJ68.out; omega⟩, ⟨by (with_reducible repeat (first | apply Kd.R_alloc | apply Kd.R_drewN | apply Kd.R_drew)); exact HO1022.out⟩, ⟨by repeat (first | (with_reducible first | exact HB.out | apply below_alloc | apply pw_below_drewN | apply below_drew1 | refine below_set ?_ GE975.out) | exact HB.out)⟩⟩
                                            · rw [if_neg c85] at H
                                              exact absurd H (by simp)
                                        · replace c71 := Bool.eq_false_iff.mpr c71
                                          subst c71
                                          have H1 : (if t983 = 7 then ((term_Hash.f (rdOf ByteArray.empty x3_1 t976)).bind fun bt1023 => (if bt1023.2 = 0 then (if (bt1023.1.size : Int) > 600 then ((gemotlaw1_name.f ((rd_T169 l0 x4_1).f2)).bind fun t1025 => (if x3_1.length < 8796093022208 then (gemotlaw1_made_p.l0 kj68 l0 (x3_1 ++ [t1025]) (wrap64 (x4_1 + 1))) else (none))) else (if x3_1.length < 8796093022208 then (gemotlaw1_made_p.l0 kj68 l0 (x3_1 ++ [bt1023.1]) (wrap64 (x4_1 + 1))) else (none))) else ((gemotlaw1_name.f ((rd_T169 l0 x4_1).f2)).bind fun t1032 => (if x3_1.length < 8796093022208 then (gemotlaw1_made_p.l0 kj68 l0 (x3_1 ++ [t1032]) (wrap64 (x4_1 + 1))) else (none))))) else (if t983 = 8 then ((term_Seal.f (rdOf ByteArray.empty x3_1 t976) (rdOf ByteArray.empty x3_1 t978) (rdOf ByteArray.empty x3_1 t980)).bind fun bt1036 => (if bt1036.2 = 0 then (if (bt1036.1.size : Int) > 600 then ((gemotlaw1_name.f ((rd_T169 l0 x4_1).f2)).bind fun t1038 => (if x3_1.length < 8796093022208 then (gemotlaw1_made_p.l0 kj68 l0 (x3_1 ++ [t1038]) (wrap64 (x4_1 + 1))) else (none))) else (if x3_1.length < 8796093022208 then (gemotlaw1_made_p.l0 kj68 l0 (x3_1 ++ [bt1036.1]) (wrap64 (x4_1 + 1))) else (none))) else ((gemotlaw1_name.f ((rd_T169 l0 x4_1).f2)).bind fun t1045 => (if x3_1.length < 8796093022208 then (gemotlaw1_made_p.l0 kj68 l0 (x3_1 ++ [t1045]) (wrap64 (x4_1 + 1))) else (none))))) else (if t983 = 9 then ((term_Sign.f (rdOf ByteArray.empty x3_1 t976) (rdOf ByteArray.empty x3_1 t978)).bind fun bt1049 => (if bt1049.2 = 0 then (if (bt1049.1.size : Int) > 600 then ((gemotlaw1_name.f ((rd_T169 l0 x4_1).f2)).bind fun t1051 => (if x3_1.length < 8796093022208 then (gemotlaw1_made_p.l0 kj68 l0 (x3_1 ++ [t1051]) (wrap64 (x4_1 + 1))) else (none))) else (if x3_1.length < 8796093022208 then (gemotlaw1_made_p.l0 kj68 l0 (x3_1 ++ [bt1049.1]) (wrap64 (x4_1 + 1))) else (none))) else ((gemotlaw1_name.f ((rd_T169 l0 x4_1).f2)).bind fun t1058 => (if x3_1.length < 8796093022208 then (gemotlaw1_made_p.l0 kj68 l0 (x3_1 ++ [t1058]) (wrap64 (x4_1 + 1))) else (none))))) else (if 0 = 0 then (if (t982.size : Int) > 600 then ((gemotlaw1_name.f ((rd_T169 l0 x4_1).f2)).bind fun t1062 => (if x3_1.length < 8796093022208 then (gemotlaw1_made_p.l0 kj68 l0 (x3_1 ++ [t1062]) (wrap64 (x4_1 + 1))) else (none))) else (if x3_1.length < 8796093022208 then (gemotlaw1_made_p.l0 kj68 l0 (x3_1 ++ [t982]) (wrap64 (x4_1 + 1))) else (none))) else ((gemotlaw1_name.f ((rd_T169 l0 x4_1).f2)).bind fun t1069 => (if x3_1.length < 8796093022208 then (gemotlaw1_made_p.l0 kj68 l0 (x3_1 ++ [t1069]) (wrap64 (x4_1 + 1))) else (none))))))) = some r := by rw [if_neg (show ¬ (false = true) by decide)] at H; exact H
                                          clear H
                                          have H := H1
                                          clear H1
                                          by_cases c90 : t983 = 7
                                          · rw [if_pos c90] at H
                                            have c90b0 : (t983 == 7) = true := beq_iff_eq.mpr c90
                                            have c90b1 : (t983 != 7) = false := bne_eq_false_iff_eq.mpr c90
                                            clear c90
                                            replace H := Option.bind_eq_some_iff.mp H
                                            obtain ⟨⟨t1023, t1024⟩, A910, H⟩ := H
                                            replace H : (if t1024 = 0 then (if (t1023.size : Int) > 600 then ((gemotlaw1_name.f ((rd_T169 l0 x4_1).f2)).bind fun t1025 => (if x3_1.length < 8796093022208 then (gemotlaw1_made_p.l0 kj68 l0 (x3_1 ++ [t1025]) (wrap64 (x4_1 + 1))) else (none))) else (if x3_1.length < 8796093022208 then (gemotlaw1_made_p.l0 kj68 l0 (x3_1 ++ [t1023]) (wrap64 (x4_1 + 1))) else (none))) else ((gemotlaw1_name.f ((rd_T169 l0 x4_1).f2)).bind fun t1032 => (if x3_1.length < 8796093022208 then (gemotlaw1_made_p.l0 kj68 l0 (x3_1 ++ [t1032]) (wrap64 (x4_1 + 1))) else (none)))) = some r := H
                                            have A91 := Aside0.mk A910
                                            clear A910
                                            by_cases c92 : t1024 = 0
                                            · rw [if_pos c92] at H
                                              have c92b0 : (t1024 == 0) = true := beq_iff_eq.mpr c92
                                              have c92b1 : (t1024 != 0) = false := bne_eq_false_iff_eq.mpr c92
                                              clear c92
                                              by_cases c93 : (t1023.size : Int) > 600
                                              · rw [if_pos c93] at H
                                                have c93b0 : decide (600 < (t1023.size : Int)) = true := decide_eq_true c93
                                                have c93b1 : decide (600 < t1023.size) = true := decide_eq_true (by omega)
                                                clear c93
                                                replace H := Option.bind_eq_some_iff.mp H
                                                obtain ⟨t1025, A940, H⟩ := H
                                                replace H : (if x3_1.length < 8796093022208 then (gemotlaw1_made_p.l0 kj68 l0 (x3_1 ++ [t1025]) (wrap64 (x4_1 + 1))) else (none)) = some r := H
                                                have A94 := Aside0.mk A940
                                                clear A940
                                                by_cases c95 : x3_1.length < 8796093022208
                                                · rw [if_pos c95] at H
                                                  have LMc95 := Aside0.mk c95
                                                  clear c95
                                                  obtain ⟨y1026, hy1026⟩ : ∃ y_ : List ByteArray, y_ = (x3_1 ++ [t1025]) := ⟨_, rfl⟩
                                                  replace H : (gemotlaw1_made_p.l0 kj68 l0 y1026 (wrap64 (x4_1 + 1))) = some r := by first | (rw [hy1026]; with_reducible exact H) | (have H2_ := (Option.bind_some _ _).symm.trans H; rw [hy1026]; with_reducible exact H2_) | (have H2_ := (Option.bind_some _ _).symm.trans H; with_reducible exact H2_) | with_reducible exact H | (rw [hy1026]; exact H) | exact H
                                                  have Ny1026 := Aside0.mk hy1026
                                                  clear hy1026
                                                  have H' := Aside0.mk H
                                                  clear H
                                                  go_wp2_with (first | ((with_reducible refine gate_callee (f := 94) rfl ?_); refine goesL_ (some 88) rfl rfl Try.func94 (by kernel_rfl) rfl #[.string (rdOf ByteArray.empty x3_1 t976)] rfl (by (try simp only [List.map_toArray, List.map_cons, List.map_nil]); first | done | rfl | (simp only [List.length_drop, List.length_take]; rfl)) ?_; (with_reducible refine (term_Hash.calls (rdOf ByteArray.empty x3_1 t976) t1023 t1024 _ A91.out).mono ?_); rintro e w96 ⟨rfl, hb⟩; refine ⟨_, rfl, ?_⟩; have n0_ := Aside0.mk (Kd.R_below (by (with_reducible repeat (first | apply Kd.R_alloc | apply Kd.R_drewN | apply Kd.R_drew)); exact HO_3.out) hb); have n1_ := Aside0.mk (blk_below (g := gb975) (o := .cells #[.int .i64 ((rd_T169 l0 x4_1).f0), .int .i64 ((rd_T169 l0 x4_1).f1), .int .i64 ((rd_T169 l0 x4_1).f2), .int .i64 ((rd_T169 l0 x4_1).f3)] 169 (0, 0)) (by (with_reducible repeat (first | refine blk_drewN ?_ _ | refine blk_drew ?_ | refine blk_alloc ?_ _)); exact BK975.out) hb); have n2_ := Aside0.mk (below_step (by repeat (first | (with_reducible first | exact HB.out | apply below_alloc | apply pw_below_drewN | apply below_drew1 | refine below_set ?_ GE975.out) | exact HB.out)) hb); clear HO_3; clear BK975; clear HB; have HO_3 := n0_; have BK975 := n1_; have HB := n2_; clear n0_ n1_ n2_; (try clear hb); (try clear hb2); (try clear hk); (try clear hi); have hcz97_0 : w96.cell? ⟨gb975, 0, none⟩ = some (.int .i64 ((rd_T169 l0 x4_1).f0)) := (blk_cell BK975.out 0).trans rfl; have hcz97_1 : w96.cell? ⟨gb975, 1, none⟩ = some (.int .i64 ((rd_T169 l0 x4_1).f1)) := (blk_cell BK975.out 1).trans rfl; have hcz97_2 : w96.cell? ⟨gb975, 2, none⟩ = some (.int .i64 ((rd_T169 l0 x4_1).f2)) := (blk_cell BK975.out 2).trans rfl; have hcz97_3 : w96.cell? ⟨gb975, 3, none⟩ = some (.int .i64 ((rd_T169 l0 x4_1).f3)) := (blk_cell BK975.out 3).trans rfl; have hfz97_0 := blk_frozen BK975.out 0; have hfz97_1 := blk_frozen BK975.out 1; have hfz97_2 := blk_frozen BK975.out 2; have hfz97_3 := blk_frozen BK975.out 3) | ((with_reducible refine gate_callee (f := 142) rfl ?_); refine goesL_ (some 117) rfl rfl Try.func142 (by kernel_rfl) rfl #[.int .i64 ((rd_T169 l0 x4_1).f2)] rfl (by (try simp only [List.map_toArray, List.map_cons, List.map_nil]); first | done | rfl | (simp only [List.length_drop, List.length_take]; rfl)) ?_; (with_reducible refine (gemotlaw1_name.calls ((rd_T169 l0 x4_1).f2) t1025 _ A94.out).mono ?_); rintro e w98 ⟨rfl, hb⟩; refine ⟨_, rfl, ?_⟩; have n0_ := Aside0.mk (Kd.R_below (by (with_reducible repeat (first | apply Kd.R_alloc | apply Kd.R_drewN | apply Kd.R_drew)); exact HO_3.out) hb); have n1_ := Aside0.mk (blk_below (g := gb975) (o := .cells #[.int .i64 ((rd_T169 l0 x4_1).f0), .int .i64 ((rd_T169 l0 x4_1).f1), .int .i64 ((rd_T169 l0 x4_1).f2), .int .i64 ((rd_T169 l0 x4_1).f3)] 169 (0, 0)) (by (with_reducible repeat (first | refine blk_drewN ?_ _ | refine blk_drew ?_ | refine blk_alloc ?_ _)); exact BK975.out) hb); have n2_ := Aside0.mk (below_step (by repeat (first | (with_reducible first | exact HB.out | apply below_alloc | apply pw_below_drewN | apply below_drew1 | refine below_set ?_ GE975.out) | exact HB.out)) hb); clear HO_3; clear BK975; clear HB; have HO_3 := n0_; have BK975 := n1_; have HB := n2_; clear n0_ n1_ n2_; (try clear hb); (try clear hb2); (try clear hk); (try clear hi)) | ((with_reducible refine gate_builtin (b := .append) (xs := #[.tmp 118, .tmp 120]) rfl ?_); (try (refine gate_guard (by rfl) ?_; dsimp only)); at_builtin; refine Kd.R_append Kd.string (w0 := w) w.heap.size rfl (.tmp 118) (.tmp 120) 37 23 (.string ⟨#[]⟩) 16 rfl Try.underlying37 info23 rfl (by decide) (by omega) (.slice (some ad977) x3_1.length co26) x3_1 t1025 [.string t1025] (fun _ => True) (fun _ => False) rfl rfl ?aP (fun _ hk => hk.elim) ?aF ?aO ?aB ?aS ?aL ?_; (case aP => exact rfl); (case aB => exact (by repeat (first | (with_reducible first | exact HB.out | apply below_alloc | apply pw_below_drewN | apply below_drew1 | refine below_set ?_ GE975.out) | exact HB.out))); (case aF => exact (fun _ _ => trivial)); (case aO => exact (by (with_reducible repeat (first | apply Kd.R_alloc | apply Kd.R_drewN | apply Kd.R_drew)); exact HO_3.out)); (case aS => exact (below_size (by repeat (first | (with_reducible first | exact HB.out | apply below_alloc | apply pw_below_drewN | apply below_drew1 | refine below_set ?_ GE975.out) | exact HB.out)))); (case aL => have := LMc95.out; omega); intro v1027 w99 ho hb hg hat; rw [← Ny1026.out] at ho; have n0_ := Aside0.mk (blk_grown (g := gb975) (o := .cells #[.int .i64 ((rd_T169 l0 x4_1).f0), .int .i64 ((rd_T169 l0 x4_1).f1), .int .i64 ((rd_T169 l0 x4_1).f2), .int .i64 ((rd_T169 l0 x4_1).f3)] 169 (0, 0)) (by (with_reducible repeat (first | refine blk_drewN ?_ _ | refine blk_drew ?_ | refine blk_alloc ?_ _)); exact BK975.out) hg (Kd.R_ne HO_3.out BK975.out (by decide))); have n1_ := Aside0.mk (hb); have n2_ := Aside0.mk (ho); clear BK975; clear HB; clear HO_3; have BK975 := n0_; have HB := n1_; have HO1028 := n2_; clear n0_ n1_ n2_; clear ho hb hg hat))
                                                  go_roundg kj68
                                                  case measure => have := HK1.out; have := HJ6.out; have := HJ22.out; have := HJ68.out; omega
                                                  case rel => exact ⟨(y1026), (wrap64 (x4_1 + 1)), (by first | rfl | (simp; done) | (simp [*]; done)), H', ⟨by have := HK1.out; have := HJ6.out; have := HJ22.out; have := HJ68.out; omega⟩, ⟨by (with_reducible repeat (first | apply Kd.R_alloc | apply Kd.R_drewN | apply Kd.R_drew)); exact HO1028.out⟩, ⟨by repeat (first | (with_reducible first | exact HB.out | apply below_alloc | apply pw_below_drewN | apply below_drew1 | refine below_set ?_ GE975.out) | exact HB.out)⟩⟩
                                                · rw [if_neg c95] at H
                                                  exact absurd H (by simp)
                                              · rw [if_neg c93] at H
                                                have c93b0 : decide (600 < (t1023.size : Int)) = false := decide_eq_false c93
                                                have c93b1 : decide (600 < t1023.size) = false := decide_eq_false (by omega)
                                                clear c93
                                                by_cases c100 : x3_1.length < 8796093022208
                                                · rw [if_pos c100] at H
                                                  have LMc100 := Aside0.mk c100
                                                  clear c100
                                                  obtain ⟨y1029, hy1029⟩ : ∃ y_ : List ByteArray, y_ = (x3_1 ++ [t1023]) := ⟨_, rfl⟩
                                                  replace H : (gemotlaw1_made_p.l0 kj68 l0 y1029 (wrap64 (x4_1 + 1))) = some r := by first | (rw [hy1029]; with_reducible exact H) | (have H2_ := (Option.bind_some _ _).symm.trans H; rw [hy1029]; with_reducible exact H2_) | (have H2_ := (Option.bind_some _ _).symm.trans H; with_reducible exact H2_) | with_reducible exact H | (rw [hy1029]; exact H) | exact H
                                                  have Ny1029 := Aside0.mk hy1029
                                                  clear hy1029
                                                  have H' := Aside0.mk H
                                                  clear H
                                                  go_wp2_with (first | ((with_reducible refine gate_callee (f := 94) rfl ?_); refine goesL_ (some 88) rfl rfl Try.func94 (by kernel_rfl) rfl #[.string (rdOf ByteArray.empty x3_1 t976)] rfl (by (try simp only [List.map_toArray, List.map_cons, List.map_nil]); first | done | rfl | (simp only [List.length_drop, List.length_take]; rfl)) ?_; (with_reducible refine (term_Hash.calls (rdOf ByteArray.empty x3_1 t976) t1023 t1024 _ A91.out).mono ?_); rintro e w101 ⟨rfl, hb⟩; refine ⟨_, rfl, ?_⟩; have n0_ := Aside0.mk (Kd.R_below (by (with_reducible repeat (first | apply Kd.R_alloc | apply Kd.R_drewN | apply Kd.R_drew)); exact HO_3.out) hb); have n1_ := Aside0.mk (blk_below (g := gb975) (o := .cells #[.int .i64 ((rd_T169 l0 x4_1).f0), .int .i64 ((rd_T169 l0 x4_1).f1), .int .i64 ((rd_T169 l0 x4_1).f2), .int .i64 ((rd_T169 l0 x4_1).f3)] 169 (0, 0)) (by (with_reducible repeat (first | refine blk_drewN ?_ _ | refine blk_drew ?_ | refine blk_alloc ?_ _)); exact BK975.out) hb); have n2_ := Aside0.mk (below_step (by repeat (first | (with_reducible first | exact HB.out | apply below_alloc | apply pw_below_drewN | apply below_drew1 | refine below_set ?_ GE975.out) | exact HB.out)) hb); clear HO_3; clear BK975; clear HB; have HO_3 := n0_; have BK975 := n1_; have HB := n2_; clear n0_ n1_ n2_; (try clear hb); (try clear hb2); (try clear hk); (try clear hi)) | ((with_reducible refine gate_builtin (b := .append) (xs := #[.tmp 118, .tmp 120]) rfl ?_); (try (refine gate_guard (by rfl) ?_; dsimp only)); at_builtin; refine Kd.R_append Kd.string (w0 := w) w.heap.size rfl (.tmp 118) (.tmp 120) 37 23 (.string ⟨#[]⟩) 16 rfl Try.underlying37 info23 rfl (by decide) (by omega) (.slice (some ad977) x3_1.length co26) x3_1 t1023 [.string t1023] (fun _ => True) (fun _ => False) rfl rfl ?aP (fun _ hk => hk.elim) ?aF ?aO ?aB ?aS ?aL ?_; (case aP => exact rfl); (case aB => exact (by repeat (first | (with_reducible first | exact HB.out | apply below_alloc | apply pw_below_drewN | apply below_drew1 | refine below_set ?_ GE975.out) | exact HB.out))); (case aF => exact (fun _ _ => trivial)); (case aO => exact (by (with_reducible repeat (first | apply Kd.R_alloc | apply Kd.R_drewN | apply Kd.R_drew)); exact HO_3.out)); (case aS => exact (below_size (by repeat (first | (with_reducible first | exact HB.out | apply below_alloc | apply pw_below_drewN | apply below_drew1 | refine below_set ?_ GE975.out) | exact HB.out)))); (case aL => have := LMc100.out; omega); intro v1030 w102 ho hb hg hat; rw [← Ny1029.out] at ho; have n0_ := Aside0.mk (blk_grown (g := gb975) (o := .cells #[.int .i64 ((rd_T169 l0 x4_1).f0), .int .i64 ((rd_T169 l0 x4_1).f1), .int .i64 ((rd_T169 l0 x4_1).f2), .int .i64 ((rd_T169 l0 x4_1).f3)] 169 (0, 0)) (by (with_reducible repeat (first | refine blk_drewN ?_ _ | refine blk_drew ?_ | refine blk_alloc ?_ _)); exact BK975.out) hg (Kd.R_ne HO_3.out BK975.out (by decide))); have n1_ := Aside0.mk (hb); have n2_ := Aside0.mk (ho); clear BK975; clear HB; clear HO_3; have BK975 := n0_; have HB := n1_; have HO1031 := n2_; clear n0_ n1_ n2_; clear ho hb hg hat))
                                                  go_roundg kj68
                                                  case measure => have := HK1.out; have := HJ6.out; have := HJ22.out; have := HJ68.out; omega
                                                  case rel => exact ⟨(y1029), (wrap64 (x4_1 + 1)), (by first | rfl | (simp; done) | (simp [*]; done)), H', ⟨by have := HK1.out; have := HJ6.out; have := HJ22.out; have := HJ68.out; omega⟩, ⟨by (with_reducible repeat (first | apply Kd.R_alloc | apply Kd.R_drewN | apply Kd.R_drew)); exact HO1031.out⟩, ⟨by repeat (first | (with_reducible first | exact HB.out | apply below_alloc | apply pw_below_drewN | apply below_drew1 | refine below_set ?_ GE975.out) | exact HB.out)⟩⟩
                                                · rw [if_neg c100] at H
                                                  exact absurd H (by simp)
                                            · rw [if_neg c92] at H
                                              have c92b0 : (t1024 == 0) = false := beq_eq_false_iff_ne.mpr c92
                                              have c92b1 : (t1024 != 0) = true := bne_iff_ne.mpr c92
                                              replace H := Option.bind_eq_some_iff.mp H
                                              obtain ⟨t1032, A1030, H⟩ := H
                                              replace H : (if x3_1.length < 8796093022208 then (gemotlaw1_made_p.l0 kj68 l0 (x3_1 ++ [t1032]) (wrap64 (x4_1 + 1))) else (none)) = some r := H
                                              have A103 := Aside0.mk A1030
                                              clear A1030
                                              by_cases c104 : x3_1.length < 8796093022208
                                              · rw [if_pos c104] at H
                                                have LMc104 := Aside0.mk c104
                                                clear c104
                                                obtain ⟨y1033, hy1033⟩ : ∃ y_ : List ByteArray, y_ = (x3_1 ++ [t1032]) := ⟨_, rfl⟩
                                                replace H : (gemotlaw1_made_p.l0 kj68 l0 y1033 (wrap64 (x4_1 + 1))) = some r := by first | (rw [hy1033]; with_reducible exact H) | (have H2_ := (Option.bind_some _ _).symm.trans H; rw [hy1033]; with_reducible exact H2_) | (have H2_ := (Option.bind_some _ _).symm.trans H; with_reducible exact H2_) | with_reducible exact H | (rw [hy1033]; exact H) | exact H
                                                have Ny1033 := Aside0.mk hy1033
                                                clear hy1033
                                                have H' := Aside0.mk H
                                                clear H
                                                go_wp2_with (first | ((with_reducible refine gate_callee (f := 94) rfl ?_); refine goesL_ (some 88) rfl rfl Try.func94 (by kernel_rfl) rfl #[.string (rdOf ByteArray.empty x3_1 t976)] rfl (by (try simp only [List.map_toArray, List.map_cons, List.map_nil]); first | done | rfl | (simp only [List.length_drop, List.length_take]; rfl)) ?_; (with_reducible refine (term_Hash.calls (rdOf ByteArray.empty x3_1 t976) t1023 t1024 _ A91.out).mono ?_); rintro e w105 ⟨rfl, hb⟩; refine ⟨_, rfl, ?_⟩; have n0_ := Aside0.mk (Kd.R_below (by (with_reducible repeat (first | apply Kd.R_alloc | apply Kd.R_drewN | apply Kd.R_drew)); exact HO_3.out) hb); have n1_ := Aside0.mk (blk_below (g := gb975) (o := .cells #[.int .i64 ((rd_T169 l0 x4_1).f0), .int .i64 ((rd_T169 l0 x4_1).f1), .int .i64 ((rd_T169 l0 x4_1).f2), .int .i64 ((rd_T169 l0 x4_1).f3)] 169 (0, 0)) (by (with_reducible repeat (first | refine blk_drewN ?_ _ | refine blk_drew ?_ | refine blk_alloc ?_ _)); exact BK975.out) hb); have n2_ := Aside0.mk (below_step (by repeat (first | (with_reducible first | exact HB.out | apply below_alloc | apply pw_below_drewN | apply below_drew1 | refine below_set ?_ GE975.out) | exact HB.out)) hb); clear HO_3; clear BK975; clear HB; have HO_3 := n0_; have BK975 := n1_; have HB := n2_; clear n0_ n1_ n2_; (try clear hb); (try clear hb2); (try clear hk); (try clear hi); have hcz106_0 : w105.cell? ⟨gb975, 0, none⟩ = some (.int .i64 ((rd_T169 l0 x4_1).f0)) := (blk_cell BK975.out 0).trans rfl; have hcz106_1 : w105.cell? ⟨gb975, 1, none⟩ = some (.int .i64 ((rd_T169 l0 x4_1).f1)) := (blk_cell BK975.out 1).trans rfl; have hcz106_2 : w105.cell? ⟨gb975, 2, none⟩ = some (.int .i64 ((rd_T169 l0 x4_1).f2)) := (blk_cell BK975.out 2).trans rfl; have hcz106_3 : w105.cell? ⟨gb975, 3, none⟩ = some (.int .i64 ((rd_T169 l0 x4_1).f3)) := (blk_cell BK975.out 3).trans rfl; have hfz106_0 := blk_frozen BK975.out 0; have hfz106_1 := blk_frozen BK975.out 1; have hfz106_2 := blk_frozen BK975.out 2; have hfz106_3 := blk_frozen BK975.out 3) | ((with_reducible refine gate_callee (f := 142) rfl ?_); refine goesL_ (some 117) rfl rfl Try.func142 (by kernel_rfl) rfl #[.int .i64 ((rd_T169 l0 x4_1).f2)] rfl (by (try simp only [List.map_toArray, List.map_cons, List.map_nil]); first | done | rfl | (simp only [List.length_drop, List.length_take]; rfl)) ?_; (with_reducible refine (gemotlaw1_name.calls ((rd_T169 l0 x4_1).f2) t1032 _ A103.out).mono ?_); rintro e w107 ⟨rfl, hb⟩; refine ⟨_, rfl, ?_⟩; have n0_ := Aside0.mk (Kd.R_below (by (with_reducible repeat (first | apply Kd.R_alloc | apply Kd.R_drewN | apply Kd.R_drew)); exact HO_3.out) hb); have n1_ := Aside0.mk (blk_below (g := gb975) (o := .cells #[.int .i64 ((rd_T169 l0 x4_1).f0), .int .i64 ((rd_T169 l0 x4_1).f1), .int .i64 ((rd_T169 l0 x4_1).f2), .int .i64 ((rd_T169 l0 x4_1).f3)] 169 (0, 0)) (by (with_reducible repeat (first | refine blk_drewN ?_ _ | refine blk_drew ?_ | refine blk_alloc ?_ _)); exact BK975.out) hb); have n2_ := Aside0.mk (below_step (by repeat (first | (with_reducible first | exact HB.out | apply below_alloc | apply pw_below_drewN | apply below_drew1 | refine below_set ?_ GE975.out) | exact HB.out)) hb); clear HO_3; clear BK975; clear HB; have HO_3 := n0_; have BK975 := n1_; have HB := n2_; clear n0_ n1_ n2_; (try clear hb); (try clear hb2); (try clear hk); (try clear hi)) | ((with_reducible refine gate_builtin (b := .append) (xs := #[.tmp 118, .tmp 120]) rfl ?_); (try (refine gate_guard (by rfl) ?_; dsimp only)); at_builtin; refine Kd.R_append Kd.string (w0 := w) w.heap.size rfl (.tmp 118) (.tmp 120) 37 23 (.string ⟨#[]⟩) 16 rfl Try.underlying37 info23 rfl (by decide) (by omega) (.slice (some ad977) x3_1.length co26) x3_1 t1032 [.string t1032] (fun _ => True) (fun _ => False) rfl rfl ?aP (fun _ hk => hk.elim) ?aF ?aO ?aB ?aS ?aL ?_; (case aP => exact rfl); (case aB => exact (by repeat (first | (with_reducible first | exact HB.out | apply below_alloc | apply pw_below_drewN | apply below_drew1 | refine below_set ?_ GE975.out) | exact HB.out))); (case aF => exact (fun _ _ => trivial)); (case aO => exact (by (with_reducible repeat (first | apply Kd.R_alloc | apply Kd.R_drewN | apply Kd.R_drew)); exact HO_3.out)); (case aS => exact (below_size (by repeat (first | (with_reducible first | exact HB.out | apply below_alloc | apply pw_below_drewN | apply below_drew1 | refine below_set ?_ GE975.out) | exact HB.out)))); (case aL => have := LMc104.out; omega); intro v1034 w108 ho hb hg hat; rw [← Ny1033.out] at ho; have n0_ := Aside0.mk (blk_grown (g := gb975) (o := .cells #[.int .i64 ((rd_T169 l0 x4_1).f0), .int .i64 ((rd_T169 l0 x4_1).f1), .int .i64 ((rd_T169 l0 x4_1).f2), .int .i64 ((rd_T169 l0 x4_1).f3)] 169 (0, 0)) (by (with_reducible repeat (first | refine blk_drewN ?_ _ | refine blk_drew ?_ | refine blk_alloc ?_ _)); exact BK975.out) hg (Kd.R_ne HO_3.out BK975.out (by decide))); have n1_ := Aside0.mk (hb); have n2_ := Aside0.mk (ho); clear BK975; clear HB; clear HO_3; have BK975 := n0_; have HB := n1_; have HO1035 := n2_; clear n0_ n1_ n2_; clear ho hb hg hat))
                                                go_roundg kj68
                                                case measure => have := HK1.out; have := HJ6.out; have := HJ22.out; have := HJ68.out; omega
                                                case rel => exact ⟨(y1033), (wrap64 (x4_1 + 1)), (by first | rfl | (simp; done) | (simp [*]; done)), H', ⟨by have := HK1.out; have := HJ6.out; have := HJ22.out; have := HJ68.out; omega⟩, ⟨by (with_reducible repeat (first | apply Kd.R_alloc | apply Kd.R_drewN | apply Kd.R_drew)); exact HO1035.out⟩, ⟨by repeat (first | (with_reducible first | exact HB.out | apply below_alloc | apply pw_below_drewN | apply below_drew1 | refine below_set ?_ GE975.out) | exact HB.out)⟩⟩
                                              · rw [if_neg c104] at H
                                                exact absurd H (by simp)
                                          · rw [if_neg c90] at H
                                            have c90b0 : (t983 == 7) = false := beq_eq_false_iff_ne.mpr c90
                                            have c90b1 : (t983 != 7) = true := bne_iff_ne.mpr c90
                                            by_cases c109 : t983 = 8
                                            · rw [if_pos c109] at H
                                              have c109b0 : (t983 == 8) = true := beq_iff_eq.mpr c109
                                              have c109b1 : (t983 != 8) = false := bne_eq_false_iff_eq.mpr c109
                                              clear c109
                                              replace H := Option.bind_eq_some_iff.mp H
                                              obtain ⟨⟨t1036, t1037⟩, A1100, H⟩ := H
                                              replace H : (if t1037 = 0 then (if (t1036.size : Int) > 600 then ((gemotlaw1_name.f ((rd_T169 l0 x4_1).f2)).bind fun t1038 => (if x3_1.length < 8796093022208 then (gemotlaw1_made_p.l0 kj68 l0 (x3_1 ++ [t1038]) (wrap64 (x4_1 + 1))) else (none))) else (if x3_1.length < 8796093022208 then (gemotlaw1_made_p.l0 kj68 l0 (x3_1 ++ [t1036]) (wrap64 (x4_1 + 1))) else (none))) else ((gemotlaw1_name.f ((rd_T169 l0 x4_1).f2)).bind fun t1045 => (if x3_1.length < 8796093022208 then (gemotlaw1_made_p.l0 kj68 l0 (x3_1 ++ [t1045]) (wrap64 (x4_1 + 1))) else (none)))) = some r := H
                                              have A110 := Aside0.mk A1100
                                              clear A1100
                                              by_cases c111 : t1037 = 0
                                              · rw [if_pos c111] at H
                                                have c111b0 : (t1037 == 0) = true := beq_iff_eq.mpr c111
                                                have c111b1 : (t1037 != 0) = false := bne_eq_false_iff_eq.mpr c111
                                                clear c111
                                                by_cases c112 : (t1036.size : Int) > 600
                                                · rw [if_pos c112] at H
                                                  have c112b0 : decide (600 < (t1036.size : Int)) = true := decide_eq_true c112
                                                  have c112b1 : decide (600 < t1036.size) = true := decide_eq_true (by omega)
                                                  clear c112
                                                  replace H := Option.bind_eq_some_iff.mp H
                                                  obtain ⟨t1038, A1130, H⟩ := H
                                                  replace H : (if x3_1.length < 8796093022208 then (gemotlaw1_made_p.l0 kj68 l0 (x3_1 ++ [t1038]) (wrap64 (x4_1 + 1))) else (none)) = some r := H
                                                  have A113 := Aside0.mk A1130
                                                  clear A1130
                                                  by_cases c114 : x3_1.length < 8796093022208
                                                  · rw [if_pos c114] at H
                                                    have LMc114 := Aside0.mk c114
                                                    clear c114
                                                    obtain ⟨y1039, hy1039⟩ : ∃ y_ : List ByteArray, y_ = (x3_1 ++ [t1038]) := ⟨_, rfl⟩
                                                    replace H : (gemotlaw1_made_p.l0 kj68 l0 y1039 (wrap64 (x4_1 + 1))) = some r := by first | (rw [hy1039]; with_reducible exact H) | (have H2_ := (Option.bind_some _ _).symm.trans H; rw [hy1039]; with_reducible exact H2_) | (have H2_ := (Option.bind_some _ _).symm.trans H; with_reducible exact H2_) | with_reducible exact H | (rw [hy1039]; exact H) | exact H
                                                    have Ny1039 := Aside0.mk hy1039
                                                    clear hy1039
                                                    have H' := Aside0.mk H
                                                    clear H
                                                    go_wp2_with (first | ((with_reducible refine gate_callee (f := 95) rfl ?_); refine goesL_ (some 97) rfl rfl Try.func95 (by kernel_rfl) rfl #[.string (rdOf ByteArray.empty x3_1 t976), .string (rdOf ByteArray.empty x3_1 t978), .string (rdOf ByteArray.empty x3_1 t980)] rfl (by (try simp only [List.map_toArray, List.map_cons, List.map_nil]); first | done | rfl | (simp only [List.length_drop, List.length_take]; rfl)) ?_; (with_reducible refine (term_Seal.calls (rdOf ByteArray.empty x3_1 t976) (rdOf ByteArray.empty x3_1 t978) (rdOf ByteArray.empty x3_1 t980) t1036 t1037 _ A110.out).mono ?_); rintro e w115 ⟨rfl, hb⟩; refine ⟨_, rfl, ?_⟩; have n0_ := Aside0.mk (Kd.R_below (by (with_reducible repeat (first | apply Kd.R_alloc | apply Kd.R_drewN | apply Kd.R_drew)); exact HO_3.out) hb); have n1_ := Aside0.mk (blk_below (g := gb975) (o := .cells #[.int .i64 ((rd_T169 l0 x4_1).f0), .int .i64 ((rd_T169 l0 x4_1).f1), .int .i64 ((rd_T169 l0 x4_1).f2), .int .i64 ((rd_T169 l0 x4_1).f3)] 169 (0, 0)) (by (with_reducible repeat (first | refine blk_drewN ?_ _ | refine blk_drew ?_ | refine blk_alloc ?_ _)); exact BK975.out) hb); have n2_ := Aside0.mk (below_step (by repeat (first | (with_reducible first | exact HB.out | apply below_alloc | apply pw_below_drewN | apply below_drew1 | refine below_set ?_ GE975.out) | exact HB.out)) hb); clear HO_3; clear BK975; clear HB; have HO_3 := n0_; have BK975 := n1_; have HB := n2_; clear n0_ n1_ n2_; (try clear hb); (try clear hb2); (try clear hk); (try clear hi); have hcz116_0 : w115.cell? ⟨gb975, 0, none⟩ = some (.int .i64 ((rd_T169 l0 x4_1).f0)) := (blk_cell BK975.out 0).trans rfl; have hcz116_1 : w115.cell? ⟨gb975, 1, none⟩ = some (.int .i64 ((rd_T169 l0 x4_1).f1)) := (blk_cell BK975.out 1).trans rfl; have hcz116_2 : w115.cell? ⟨gb975, 2, none⟩ = some (.int .i64 ((rd_T169 l0 x4_1).f2)) := (blk_cell BK975.out 2).trans rfl; have hcz116_3 : w115.cell? ⟨gb975, 3, none⟩ = some (.int .i64 ((rd_T169 l0 x4_1).f3)) := (blk_cell BK975.out 3).trans rfl; have hfz116_0 := blk_frozen BK975.out 0; have hfz116_1 := blk_frozen BK975.out 1; have hfz116_2 := blk_frozen BK975.out 2; have hfz116_3 := blk_frozen BK975.out 3) | ((with_reducible refine gate_callee (f := 142) rfl ?_); refine goesL_ (some 117) rfl rfl Try.func142 (by kernel_rfl) rfl #[.int .i64 ((rd_T169 l0 x4_1).f2)] rfl (by (try simp only [List.map_toArray, List.map_cons, List.map_nil]); first | done | rfl | (simp only [List.length_drop, List.length_take]; rfl)) ?_; (with_reducible refine (gemotlaw1_name.calls ((rd_T169 l0 x4_1).f2) t1038 _ A113.out).mono ?_); rintro e w117 ⟨rfl, hb⟩; refine ⟨_, rfl, ?_⟩; have n0_ := Aside0.mk (Kd.R_below (by (with_reducible repeat (first | apply Kd.R_alloc | apply Kd.R_drewN | apply Kd.R_drew)); exact HO_3.out) hb); have n1_ := Aside0.mk (blk_below (g := gb975) (o := .cells #[.int .i64 ((rd_T169 l0 x4_1).f0), .int .i64 ((rd_T169 l0 x4_1).f1), .int .i64 ((rd_T169 l0 x4_1).f2), .int .i64 ((rd_T169 l0 x4_1).f3)] 169 (0, 0)) (by (with_reducible repeat (first | refine blk_drewN ?_ _ | refine blk_drew ?_ | refine blk_alloc ?_ _)); exact BK975.out) hb); have n2_ := Aside0.mk (below_step (by repeat (first | (with_reducible first | exact HB.out | apply below_alloc | apply pw_below_drewN | apply below_drew1 | refine below_set ?_ GE975.out) | exact HB.out)) hb); clear HO_3; clear BK975; clear HB; have HO_3 := n0_; have BK975 := n1_; have HB := n2_; clear n0_ n1_ n2_; (try clear hb); (try clear hb2); (try clear hk); (try clear hi)) | ((with_reducible refine gate_builtin (b := .append) (xs := #[.tmp 118, .tmp 120]) rfl ?_); (try (refine gate_guard (by rfl) ?_; dsimp only)); at_builtin; refine Kd.R_append Kd.string (w0 := w) w.heap.size rfl (.tmp 118) (.tmp 120) 37 23 (.string ⟨#[]⟩) 16 rfl Try.underlying37 info23 rfl (by decide) (by omega) (.slice (some ad977) x3_1.length co26) x3_1 t1038 [.string t1038] (fun _ => True) (fun _ => False) rfl rfl ?aP (fun _ hk => hk.elim) ?aF ?aO ?aB ?aS ?aL ?_; (case aP => exact rfl); (case aB => exact (by repeat (first | (with_reducible first | exact HB.out | apply below_alloc | apply pw_below_drewN | apply below_drew1 | refine below_set ?_ GE975.out) | exact HB.out))); (case aF => exact (fun _ _ => trivial)); (case aO => exact (by (with_reducible repeat (first | apply Kd.R_alloc | apply Kd.R_drewN | apply Kd.R_drew)); exact HO_3.out)); (case aS => exact (below_size (by repeat (first | (with_reducible first | exact HB.out | apply below_alloc | apply pw_below_drewN | apply below_drew1 | refine below_set ?_ GE975.out) | exact HB.out)))); (case aL => have := LMc114.out; omega); intro v1040 w118 ho hb hg hat; rw [← Ny1039.out] at ho; have n0_ := Aside0.mk (blk_grown (g := gb975) (o := .cells #[.int .i64 ((rd_T169 l0 x4_1).f0), .int .i64 ((rd_T169 l0 x4_1).f1), .int .i64 ((rd_T169 l0 x4_1).f2), .int .i64 ((rd_T169 l0 x4_1).f3)] 169 (0, 0)) (by (with_reducible repeat (first | refine blk_drewN ?_ _ | refine blk_drew ?_ | refine blk_alloc ?_ _)); exact BK975.out) hg (Kd.R_ne HO_3.out BK975.out (by decide))); have n1_ := Aside0.mk (hb); have n2_ := Aside0.mk (ho); clear BK975; clear HB; clear HO_3; have BK975 := n0_; have HB := n1_; have HO1041 := n2_; clear n0_ n1_ n2_; clear ho hb hg hat))
                                                    go_roundg kj68
                                                    case measure => have := HK1.out; have := HJ6.out; have := HJ22.out; have := HJ68.out; omega
                                                    case rel => exact ⟨(y1039), (wrap64 (x4_1 + 1)), (by first | rfl | (simp; done) | (simp [*]; done)), H', ⟨by have := HK1.out; have := HJ6.out; have := HJ22.out; have := HJ68.out; omega⟩, ⟨by (with_reducible repeat (first | apply Kd.R_alloc | apply Kd.R_drewN | apply Kd.R_drew)); exact HO1041.out⟩, ⟨by repeat (first | (with_reducible first | exact HB.out | apply below_alloc | apply pw_below_drewN | apply below_drew1 | refine below_set ?_ GE975.out) | exact HB.out)⟩⟩
                                                  · rw [if_neg c114] at H
                                                    exact absurd H (by simp)
                                                · rw [if_neg c112] at H
                                                  have c112b0 : decide (600 < (t1036.size : Int)) = false := decide_eq_false c112
                                                  have c112b1 : decide (600 < t1036.size) = false := decide_eq_false (by omega)
                                                  clear c112
                                                  by_cases c119 : x3_1.length < 8796093022208
                                                  · rw [if_pos c119] at H
                                                    have LMc119 := Aside0.mk c119
                                                    clear c119
                                                    obtain ⟨y1042, hy1042⟩ : ∃ y_ : List ByteArray, y_ = (x3_1 ++ [t1036]) := ⟨_, rfl⟩
                                                    replace H : (gemotlaw1_made_p.l0 kj68 l0 y1042 (wrap64 (x4_1 + 1))) = some r := by first | (rw [hy1042]; with_reducible exact H) | (have H2_ := (Option.bind_some _ _).symm.trans H; rw [hy1042]; with_reducible exact H2_) | (have H2_ := (Option.bind_some _ _).symm.trans H; with_reducible exact H2_) | with_reducible exact H | (rw [hy1042]; exact H) | exact H
                                                    have Ny1042 := Aside0.mk hy1042
                                                    clear hy1042
                                                    have H' := Aside0.mk H
                                                    clear H
                                                    go_wp2_with (first | ((with_reducible refine gate_callee (f := 95) rfl ?_); refine goesL_ (some 97) rfl rfl Try.func95 (by kernel_rfl) rfl #[.string (rdOf ByteArray.empty x3_1 t976), .string (rdOf ByteArray.empty x3_1 t978), .string (rdOf ByteArray.empty x3_1 t980)] rfl (by (try simp only [List.map_toArray, List.map_cons, List.map_nil]); first | done | rfl | (simp only [List.length_drop, List.length_take]; rfl)) ?_; (with_reducible refine (term_Seal.calls (rdOf ByteArray.empty x3_1 t976) (rdOf ByteArray.empty x3_1 t978) (rdOf ByteArray.empty x3_1 t980) t1036 t1037 _ A110.out).mono ?_); rintro e w120 ⟨rfl, hb⟩; refine ⟨_, rfl, ?_⟩; have n0_ := Aside0.mk (Kd.R_below (by (with_reducible repeat (first | apply Kd.R_alloc | apply Kd.R_drewN | apply Kd.R_drew)); exact HO_3.out) hb); have n1_ := Aside0.mk (blk_below (g := gb975) (o := .cells #[.int .i64 ((rd_T169 l0 x4_1).f0), .int .i64 ((rd_T169 l0 x4_1).f1), .int .i64 ((rd_T169 l0 x4_1).f2), .int .i64 ((rd_T169 l0 x4_1).f3)] 169 (0, 0)) (by (with_reducible repeat (first | refine blk_drewN ?_ _ | refine blk_drew ?_ | refine blk_alloc ?_ _)); exact BK975.out) hb); have n2_ := Aside0.mk (below_step (by repeat (first | (with_reducible first | exact HB.out | apply below_alloc | apply pw_below_drewN | apply below_drew1 | refine below_set ?_ GE975.out) | exact HB.out)) hb); clear HO_3; clear BK975; clear HB; have HO_3 := n0_; have BK975 := n1_; have HB := n2_; clear n0_ n1_ n2_; (try clear hb); (try clear hb2); (try clear hk); (try clear hi)) | ((with_reducible refine gate_builtin (b := .append) (xs := #[.tmp 118, .tmp 120]) rfl ?_); (try (refine gate_guard (by rfl) ?_; dsimp only)); at_builtin; refine Kd.R_append Kd.string (w0 := w) w.heap.size rfl (.tmp 118) (.tmp 120) 37 23 (.string ⟨#[]⟩) 16 rfl Try.underlying37 info23 rfl (by decide) (by omega) (.slice (some ad977) x3_1.length co26) x3_1 t1036 [.string t1036] (fun _ => True) (fun _ => False) rfl rfl ?aP (fun _ hk => hk.elim) ?aF ?aO ?aB ?aS ?aL ?_; (case aP => exact rfl); (case aB => exact (by repeat (first | (with_reducible first | exact HB.out | apply below_alloc | apply pw_below_drewN | apply below_drew1 | refine below_set ?_ GE975.out) | exact HB.out))); (case aF => exact (fun _ _ => trivial)); (case aO => exact (by (with_reducible repeat (first | apply Kd.R_alloc | apply Kd.R_drewN | apply Kd.R_drew)); exact HO_3.out)); (case aS => exact (below_size (by repeat (first | (with_reducible first | exact HB.out | apply below_alloc | apply pw_below_drewN | apply below_drew1 | refine below_set ?_ GE975.out) | exact HB.out)))); (case aL => have := LMc119.out; omega); intro v1043 w121 ho hb hg hat; rw [← Ny1042.out] at ho; have n0_ := Aside0.mk (blk_grown (g := gb975) (o := .cells #[.int .i64 ((rd_T169 l0 x4_1).f0), .int .i64 ((rd_T169 l0 x4_1).f1), .int .i64 ((rd_T169 l0 x4_1).f2), .int .i64 ((rd_T169 l0 x4_1).f3)] 169 (0, 0)) (by (with_reducible repeat (first | refine blk_drewN ?_ _ | refine blk_drew ?_ | refine blk_alloc ?_ _)); exact BK975.out) hg (Kd.R_ne HO_3.out BK975.out (by decide))); have n1_ := Aside0.mk (hb); have n2_ := Aside0.mk (ho); clear BK975; clear HB; clear HO_3; have BK975 := n0_; have HB := n1_; have HO1044 := n2_; clear n0_ n1_ n2_; clear ho hb hg hat))
                                                    go_roundg kj68
                                                    case measure => have := HK1.out; have := HJ6.out; have := HJ22.out; have := HJ68.out; omega
                                                    case rel => exact ⟨(y1042), (wrap64 (x4_1 + 1)), (by first | rfl | (simp; done) | (simp [*]; done)), H', ⟨by have := HK1.out; have := HJ6.out; have := HJ22.out; have := HJ68.out; omega⟩, ⟨by (with_reducible repeat (first | apply Kd.R_alloc | apply Kd.R_drewN | apply Kd.R_drew)); exact HO1044.out⟩, ⟨by repeat (first | (with_reducible first | exact HB.out | apply below_alloc | apply pw_below_drewN | apply below_drew1 | refine below_set ?_ GE975.out) | exact HB.out)⟩⟩
                                                  · rw [if_neg c119] at H
                                                    exact absurd H (by simp)
                                              · rw [if_neg c111] at H
                                                have c111b0 : (t1037 == 0) = false := beq_eq_false_iff_ne.mpr c111
                                                have c111b1 : (t1037 != 0) = true := bne_iff_ne.mpr c111
                                                replace H := Option.bind_eq_some_iff.mp H
                                                obtain ⟨t1045, A1220, H⟩ := H
                                                replace H : (if x3_1.length < 8796093022208 then (gemotlaw1_made_p.l0 kj68 l0 (x3_1 ++ [t1045]) (wrap64 (x4_1 + 1))) else (none)) = some r := H
                                                have A122 := Aside0.mk A1220
                                                clear A1220
                                                by_cases c123 : x3_1.length < 8796093022208
                                                · rw [if_pos c123] at H
                                                  have LMc123 := Aside0.mk c123
                                                  clear c123
                                                  obtain ⟨y1046, hy1046⟩ : ∃ y_ : List ByteArray, y_ = (x3_1 ++ [t1045]) := ⟨_, rfl⟩
                                                  replace H : (gemotlaw1_made_p.l0 kj68 l0 y1046 (wrap64 (x4_1 + 1))) = some r := by first | (rw [hy1046]; with_reducible exact H) | (have H2_ := (Option.bind_some _ _).symm.trans H; rw [hy1046]; with_reducible exact H2_) | (have H2_ := (Option.bind_some _ _).symm.trans H; with_reducible exact H2_) | with_reducible exact H | (rw [hy1046]; exact H) | exact H
                                                  have Ny1046 := Aside0.mk hy1046
                                                  clear hy1046
                                                  have H' := Aside0.mk H
                                                  clear H
                                                  go_wp2_with (first | ((with_reducible refine gate_callee (f := 95) rfl ?_); refine goesL_ (some 97) rfl rfl Try.func95 (by kernel_rfl) rfl #[.string (rdOf ByteArray.empty x3_1 t976), .string (rdOf ByteArray.empty x3_1 t978), .string (rdOf ByteArray.empty x3_1 t980)] rfl (by (try simp only [List.map_toArray, List.map_cons, List.map_nil]); first | done | rfl | (simp only [List.length_drop, List.length_take]; rfl)) ?_; (with_reducible refine (term_Seal.calls (rdOf ByteArray.empty x3_1 t976) (rdOf ByteArray.empty x3_1 t978) (rdOf ByteArray.empty x3_1 t980) t1036 t1037 _ A110.out).mono ?_); rintro e w124 ⟨rfl, hb⟩; refine ⟨_, rfl, ?_⟩; have n0_ := Aside0.mk (Kd.R_below (by (with_reducible repeat (first | apply Kd.R_alloc | apply Kd.R_drewN | apply Kd.R_drew)); exact HO_3.out) hb); have n1_ := Aside0.mk (blk_below (g := gb975) (o := .cells #[.int .i64 ((rd_T169 l0 x4_1).f0), .int .i64 ((rd_T169 l0 x4_1).f1), .int .i64 ((rd_T169 l0 x4_1).f2), .int .i64 ((rd_T169 l0 x4_1).f3)] 169 (0, 0)) (by (with_reducible repeat (first | refine blk_drewN ?_ _ | refine blk_drew ?_ | refine blk_alloc ?_ _)); exact BK975.out) hb); have n2_ := Aside0.mk (below_step (by repeat (first | (with_reducible first | exact HB.out | apply below_alloc | apply pw_below_drewN | apply below_drew1 | refine below_set ?_ GE975.out) | exact HB.out)) hb); clear HO_3; clear BK975; clear HB; have HO_3 := n0_; have BK975 := n1_; have HB := n2_; clear n0_ n1_ n2_; (try clear hb); (try clear hb2); (try clear hk); (try clear hi); have hcz125_0 : w124.cell? ⟨gb975, 0, none⟩ = some (.int .i64 ((rd_T169 l0 x4_1).f0)) := (blk_cell BK975.out 0).trans rfl; have hcz125_1 : w124.cell? ⟨gb975, 1, none⟩ = some (.int .i64 ((rd_T169 l0 x4_1).f1)) := (blk_cell BK975.out 1).trans rfl; have hcz125_2 : w124.cell? ⟨gb975, 2, none⟩ = some (.int .i64 ((rd_T169 l0 x4_1).f2)) := (blk_cell BK975.out 2).trans rfl; have hcz125_3 : w124.cell? ⟨gb975, 3, none⟩ = some (.int .i64 ((rd_T169 l0 x4_1).f3)) := (blk_cell BK975.out 3).trans rfl; have hfz125_0 := blk_frozen BK975.out 0; have hfz125_1 := blk_frozen BK975.out 1; have hfz125_2 := blk_frozen BK975.out 2; have hfz125_3 := blk_frozen BK975.out 3) | ((with_reducible refine gate_callee (f := 142) rfl ?_); refine goesL_ (some 117) rfl rfl Try.func142 (by kernel_rfl) rfl #[.int .i64 ((rd_T169 l0 x4_1).f2)] rfl (by (try simp only [List.map_toArray, List.map_cons, List.map_nil]); first | done | rfl | (simp only [List.length_drop, List.length_take]; rfl)) ?_; (with_reducible refine (gemotlaw1_name.calls ((rd_T169 l0 x4_1).f2) t1045 _ A122.out).mono ?_); rintro e w126 ⟨rfl, hb⟩; refine ⟨_, rfl, ?_⟩; have n0_ := Aside0.mk (Kd.R_below (by (with_reducible repeat (first | apply Kd.R_alloc | apply Kd.R_drewN | apply Kd.R_drew)); exact HO_3.out) hb); have n1_ := Aside0.mk (blk_below (g := gb975) (o := .cells #[.int .i64 ((rd_T169 l0 x4_1).f0), .int .i64 ((rd_T169 l0 x4_1).f1), .int .i64 ((rd_T169 l0 x4_1).f2), .int .i64 ((rd_T169 l0 x4_1).f3)] 169 (0, 0)) (by (with_reducible repeat (first | refine blk_drewN ?_ _ | refine blk_drew ?_ | refine blk_alloc ?_ _)); exact BK975.out) hb); have n2_ := Aside0.mk (below_step (by repeat (first | (with_reducible first | exact HB.out | apply below_alloc | apply pw_below_drewN | apply below_drew1 | refine below_set ?_ GE975.out) | exact HB.out)) hb); clear HO_3; clear BK975; clear HB; have HO_3 := n0_; have BK975 := n1_; have HB := n2_; clear n0_ n1_ n2_; (try clear hb); (try clear hb2); (try clear hk); (try clear hi)) | ((with_reducible refine gate_builtin (b := .append) (xs := #[.tmp 118, .tmp 120]) rfl ?_); (try (refine gate_guard (by rfl) ?_; dsimp only)); at_builtin; refine Kd.R_append Kd.string (w0 := w) w.heap.size rfl (.tmp 118) (.tmp 120) 37 23 (.string ⟨#[]⟩) 16 rfl Try.underlying37 info23 rfl (by decide) (by omega) (.slice (some ad977) x3_1.length co26) x3_1 t1045 [.string t1045] (fun _ => True) (fun _ => False) rfl rfl ?aP (fun _ hk => hk.elim) ?aF ?aO ?aB ?aS ?aL ?_; (case aP => exact rfl); (case aB => exact (by repeat (first | (with_reducible first | exact HB.out | apply below_alloc | apply pw_below_drewN | apply below_drew1 | refine below_set ?_ GE975.out) | exact HB.out))); (case aF => exact (fun _ _ => trivial)); (case aO => exact (by (with_reducible repeat (first | apply Kd.R_alloc | apply Kd.R_drewN | apply Kd.R_drew)); exact HO_3.out)); (case aS => exact (below_size (by repeat (first | (with_reducible first | exact HB.out | apply below_alloc | apply pw_below_drewN | apply below_drew1 | refine below_set ?_ GE975.out) | exact HB.out)))); (case aL => have := LMc123.out; omega); intro v1047 w127 ho hb hg hat; rw [← Ny1046.out] at ho; have n0_ := Aside0.mk (blk_grown (g := gb975) (o := .cells #[.int .i64 ((rd_T169 l0 x4_1).f0), .int .i64 ((rd_T169 l0 x4_1).f1), .int .i64 ((rd_T169 l0 x4_1).f2), .int .i64 ((rd_T169 l0 x4_1).f3)] 169 (0, 0)) (by (with_reducible repeat (first | refine blk_drewN ?_ _ | refine blk_drew ?_ | refine blk_alloc ?_ _)); exact BK975.out) hg (Kd.R_ne HO_3.out BK975.out (by decide))); have n1_ := Aside0.mk (hb); have n2_ := Aside0.mk (ho); clear BK975; clear HB; clear HO_3; have BK975 := n0_; have HB := n1_; have HO1048 := n2_; clear n0_ n1_ n2_; clear ho hb hg hat))
                                                  go_roundg kj68
                                                  case measure => have := HK1.out; have := HJ6.out; have := HJ22.out; have := HJ68.out; omega
                                                  case rel => exact ⟨(y1046), (wrap64 (x4_1 + 1)), (by first | rfl | (simp; done) | (simp [*]; done)), H', ⟨by have := HK1.out; have := HJ6.out; have := HJ22.out; have := HJ68.out; omega⟩, ⟨by (with_reducible repeat (first | apply Kd.R_alloc | apply Kd.R_drewN | apply Kd.R_drew)); exact HO1048.out⟩, ⟨by repeat (first | (with_reducible first | exact HB.out | apply below_alloc | apply pw_below_drewN | apply below_drew1 | refine below_set ?_ GE975.out) | exact HB.out)⟩⟩
                                                · rw [if_neg c123] at H
                                                  exact absurd H (by simp)
                                            · rw [if_neg c109] at H
                                              have c109b0 : (t983 == 8) = false := beq_eq_false_iff_ne.mpr c109
                                              have c109b1 : (t983 != 8) = true := bne_iff_ne.mpr c109
                                              by_cases c128 : t983 = 9
                                              · rw [if_pos c128] at H
                                                have c128b0 : (t983 == 9) = true := beq_iff_eq.mpr c128
                                                have c128b1 : (t983 != 9) = false := bne_eq_false_iff_eq.mpr c128
                                                clear c128
                                                replace H := Option.bind_eq_some_iff.mp H
                                                obtain ⟨⟨t1049, t1050⟩, A1290, H⟩ := H
                                                replace H : (if t1050 = 0 then (if (t1049.size : Int) > 600 then ((gemotlaw1_name.f ((rd_T169 l0 x4_1).f2)).bind fun t1051 => (if x3_1.length < 8796093022208 then (gemotlaw1_made_p.l0 kj68 l0 (x3_1 ++ [t1051]) (wrap64 (x4_1 + 1))) else (none))) else (if x3_1.length < 8796093022208 then (gemotlaw1_made_p.l0 kj68 l0 (x3_1 ++ [t1049]) (wrap64 (x4_1 + 1))) else (none))) else ((gemotlaw1_name.f ((rd_T169 l0 x4_1).f2)).bind fun t1058 => (if x3_1.length < 8796093022208 then (gemotlaw1_made_p.l0 kj68 l0 (x3_1 ++ [t1058]) (wrap64 (x4_1 + 1))) else (none)))) = some r := H
                                                have A129 := Aside0.mk A1290
                                                clear A1290
                                                by_cases c130 : t1050 = 0
                                                · rw [if_pos c130] at H
                                                  have c130b0 : (t1050 == 0) = true := beq_iff_eq.mpr c130
                                                  have c130b1 : (t1050 != 0) = false := bne_eq_false_iff_eq.mpr c130
                                                  clear c130
                                                  by_cases c131 : (t1049.size : Int) > 600
                                                  · rw [if_pos c131] at H
                                                    have c131b0 : decide (600 < (t1049.size : Int)) = true := decide_eq_true c131
                                                    have c131b1 : decide (600 < t1049.size) = true := decide_eq_true (by omega)
                                                    clear c131
                                                    replace H := Option.bind_eq_some_iff.mp H
                                                    obtain ⟨t1051, A1320, H⟩ := H
                                                    replace H : (if x3_1.length < 8796093022208 then (gemotlaw1_made_p.l0 kj68 l0 (x3_1 ++ [t1051]) (wrap64 (x4_1 + 1))) else (none)) = some r := H
                                                    have A132 := Aside0.mk A1320
                                                    clear A1320
                                                    by_cases c133 : x3_1.length < 8796093022208
                                                    · rw [if_pos c133] at H
                                                      have LMc133 := Aside0.mk c133
                                                      clear c133
                                                      obtain ⟨y1052, hy1052⟩ : ∃ y_ : List ByteArray, y_ = (x3_1 ++ [t1051]) := ⟨_, rfl⟩
                                                      replace H : (gemotlaw1_made_p.l0 kj68 l0 y1052 (wrap64 (x4_1 + 1))) = some r := by first | (rw [hy1052]; with_reducible exact H) | (have H2_ := (Option.bind_some _ _).symm.trans H; rw [hy1052]; with_reducible exact H2_) | (have H2_ := (Option.bind_some _ _).symm.trans H; with_reducible exact H2_) | with_reducible exact H | (rw [hy1052]; exact H) | exact H
                                                      have Ny1052 := Aside0.mk hy1052
                                                      clear hy1052
                                                      have H' := Aside0.mk H
                                                      clear H
                                                      go_wp2_with (first | ((with_reducible refine gate_callee (f := 96) rfl ?_); refine goesL_ (some 105) rfl rfl Try.func96 (by kernel_rfl) rfl #[.string (rdOf ByteArray.empty x3_1 t976), .string (rdOf ByteArray.empty x3_1 t978)] rfl (by (try simp only [List.map_toArray, List.map_cons, List.map_nil]); first | done | rfl | (simp only [List.length_drop, List.length_take]; rfl)) ?_; (with_reducible refine (term_Sign.calls (rdOf ByteArray.empty x3_1 t976) (rdOf ByteArray.empty x3_1 t978) t1049 t1050 _ A129.out).mono ?_); rintro e w134 ⟨rfl, hb⟩; refine ⟨_, rfl, ?_⟩; have n0_ := Aside0.mk (Kd.R_below (by (with_reducible repeat (first | apply Kd.R_alloc | apply Kd.R_drewN | apply Kd.R_drew)); exact HO_3.out) hb); have n1_ := Aside0.mk (blk_below (g := gb975) (o := .cells #[.int .i64 ((rd_T169 l0 x4_1).f0), .int .i64 ((rd_T169 l0 x4_1).f1), .int .i64 ((rd_T169 l0 x4_1).f2), .int .i64 ((rd_T169 l0 x4_1).f3)] 169 (0, 0)) (by (with_reducible repeat (first | refine blk_drewN ?_ _ | refine blk_drew ?_ | refine blk_alloc ?_ _)); exact BK975.out) hb); have n2_ := Aside0.mk (below_step (by repeat (first | (with_reducible first | exact HB.out | apply below_alloc | apply pw_below_drewN | apply below_drew1 | refine below_set ?_ GE975.out) | exact HB.out)) hb); clear HO_3; clear BK975; clear HB; have HO_3 := n0_; have BK975 := n1_; have HB := n2_; clear n0_ n1_ n2_; (try clear hb); (try clear hb2); (try clear hk); (try clear hi); have hcz135_0 : w134.cell? ⟨gb975, 0, none⟩ = some (.int .i64 ((rd_T169 l0 x4_1).f0)) := (blk_cell BK975.out 0).trans rfl; have hcz135_1 : w134.cell? ⟨gb975, 1, none⟩ = some (.int .i64 ((rd_T169 l0 x4_1).f1)) := (blk_cell BK975.out 1).trans rfl; have hcz135_2 : w134.cell? ⟨gb975, 2, none⟩ = some (.int .i64 ((rd_T169 l0 x4_1).f2)) := (blk_cell BK975.out 2).trans rfl; have hcz135_3 : w134.cell? ⟨gb975, 3, none⟩ = some (.int .i64 ((rd_T169 l0 x4_1).f3)) := (blk_cell BK975.out 3).trans rfl; have hfz135_0 := blk_frozen BK975.out 0; have hfz135_1 := blk_frozen BK975.out 1; have hfz135_2 := blk_frozen BK975.out 2; have hfz135_3 := blk_frozen BK975.out 3) | ((with_reducible refine gate_callee (f := 142) rfl ?_); refine goesL_ (some 117) rfl rfl Try.func142 (by kernel_rfl) rfl #[.int .i64 ((rd_T169 l0 x4_1).f2)] rfl (by (try simp only [List.map_toArray, List.map_cons, List.map_nil]); first | done | rfl | (simp only [List.length_drop, List.length_take]; rfl)) ?_; (with_reducible refine (gemotlaw1_name.calls ((rd_T169 l0 x4_1).f2) t1051 _ A132.out).mono ?_); rintro e w136 ⟨rfl, hb⟩; refine ⟨_, rfl, ?_⟩; have n0_ := Aside0.mk (Kd.R_below (by (with_reducible repeat (first | apply Kd.R_alloc | apply Kd.R_drewN | apply Kd.R_drew)); exact HO_3.out) hb); have n1_ := Aside0.mk (blk_below (g := gb975) (o := .cells #[.int .i64 ((rd_T169 l0 x4_1).f0), .int .i64 ((rd_T169 l0 x4_1).f1), .int .i64 ((rd_T169 l0 x4_1).f2), .int .i64 ((rd_T169 l0 x4_1).f3)] 169 (0, 0)) (by (with_reducible repeat (first | refine blk_drewN ?_ _ | refine blk_drew ?_ | refine blk_alloc ?_ _)); exact BK975.out) hb); have n2_ := Aside0.mk (below_step (by repeat (first | (with_reducible first | exact HB.out | apply below_alloc | apply pw_below_drewN | apply below_drew1 | refine below_set ?_ GE975.out) | exact HB.out)) hb); clear HO_3; clear BK975; clear HB; have HO_3 := n0_; have BK975 := n1_; have HB := n2_; clear n0_ n1_ n2_; (try clear hb); (try clear hb2); (try clear hk); (try clear hi)) | ((with_reducible refine gate_builtin (b := .append) (xs := #[.tmp 118, .tmp 120]) rfl ?_); (try (refine gate_guard (by rfl) ?_; dsimp only)); at_builtin; refine Kd.R_append Kd.string (w0 := w) w.heap.size rfl (.tmp 118) (.tmp 120) 37 23 (.string ⟨#[]⟩) 16 rfl Try.underlying37 info23 rfl (by decide) (by omega) (.slice (some ad977) x3_1.length co26) x3_1 t1051 [.string t1051] (fun _ => True) (fun _ => False) rfl rfl ?aP (fun _ hk => hk.elim) ?aF ?aO ?aB ?aS ?aL ?_; (case aP => exact rfl); (case aB => exact (by repeat (first | (with_reducible first | exact HB.out | apply below_alloc | apply pw_below_drewN | apply below_drew1 | refine below_set ?_ GE975.out) | exact HB.out))); (case aF => exact (fun _ _ => trivial)); (case aO => exact (by (with_reducible repeat (first | apply Kd.R_alloc | apply Kd.R_drewN | apply Kd.R_drew)); exact HO_3.out)); (case aS => exact (below_size (by repeat (first | (with_reducible first | exact HB.out | apply below_alloc | apply pw_below_drewN | apply below_drew1 | refine below_set ?_ GE975.out) | exact HB.out)))); (case aL => have := LMc133.out; omega); intro v1053 w137 ho hb hg hat; rw [← Ny1052.out] at ho; have n0_ := Aside0.mk (blk_grown (g := gb975) (o := .cells #[.int .i64 ((rd_T169 l0 x4_1).f0), .int .i64 ((rd_T169 l0 x4_1).f1), .int .i64 ((rd_T169 l0 x4_1).f2), .int .i64 ((rd_T169 l0 x4_1).f3)] 169 (0, 0)) (by (with_reducible repeat (first | refine blk_drewN ?_ _ | refine blk_drew ?_ | refine blk_alloc ?_ _)); exact BK975.out) hg (Kd.R_ne HO_3.out BK975.out (by decide))); have n1_ := Aside0.mk (hb); have n2_ := Aside0.mk (ho); clear BK975; clear HB; clear HO_3; have BK975 := n0_; have HB := n1_; have HO1054 := n2_; clear n0_ n1_ n2_; clear ho hb hg hat))
                                                      go_roundg kj68
                                                      case measure => have := HK1.out; have := HJ6.out; have := HJ22.out; have := HJ68.out; omega
                                                      case rel => exact ⟨(y1052), (wrap64 (x4_1 + 1)), (by first | rfl | (simp; done) | (simp [*]; done)), H', ⟨by have := HK1.out; have := HJ6.out; have := HJ22.out; have := HJ68.out; omega⟩, ⟨by (with_reducible repeat (first | apply Kd.R_alloc | apply Kd.R_drewN | apply Kd.R_drew)); exact HO1054.out⟩, ⟨by repeat (first | (with_reducible first | exact HB.out | apply below_alloc | apply pw_below_drewN | apply below_drew1 | refine below_set ?_ GE975.out) | exact HB.out)⟩⟩
                                                    · rw [if_neg c133] at H
                                                      exact absurd H (by simp)
                                                  · rw [if_neg c131] at H
                                                    have c131b0 : decide (600 < (t1049.size : Int)) = false := decide_eq_false c131
                                                    have c131b1 : decide (600 < t1049.size) = false := decide_eq_false (by omega)
                                                    clear c131
                                                    by_cases c138 : x3_1.length < 8796093022208
                                                    · rw [if_pos c138] at H
                                                      have LMc138 := Aside0.mk c138
                                                      clear c138
                                                      obtain ⟨y1055, hy1055⟩ : ∃ y_ : List ByteArray, y_ = (x3_1 ++ [t1049]) := ⟨_, rfl⟩
                                                      replace H : (gemotlaw1_made_p.l0 kj68 l0 y1055 (wrap64 (x4_1 + 1))) = some r := by first | (rw [hy1055]; with_reducible exact H) | (have H2_ := (Option.bind_some _ _).symm.trans H; rw [hy1055]; with_reducible exact H2_) | (have H2_ := (Option.bind_some _ _).symm.trans H; with_reducible exact H2_) | with_reducible exact H | (rw [hy1055]; exact H) | exact H
                                                      have Ny1055 := Aside0.mk hy1055
                                                      clear hy1055
                                                      have H' := Aside0.mk H
                                                      clear H
                                                      go_wp2_with (first | ((with_reducible refine gate_callee (f := 96) rfl ?_); refine goesL_ (some 105) rfl rfl Try.func96 (by kernel_rfl) rfl #[.string (rdOf ByteArray.empty x3_1 t976), .string (rdOf ByteArray.empty x3_1 t978)] rfl (by (try simp only [List.map_toArray, List.map_cons, List.map_nil]); first | done | rfl | (simp only [List.length_drop, List.length_take]; rfl)) ?_; (with_reducible refine (term_Sign.calls (rdOf ByteArray.empty x3_1 t976) (rdOf ByteArray.empty x3_1 t978) t1049 t1050 _ A129.out).mono ?_); rintro e w139 ⟨rfl, hb⟩; refine ⟨_, rfl, ?_⟩; have n0_ := Aside0.mk (Kd.R_below (by (with_reducible repeat (first | apply Kd.R_alloc | apply Kd.R_drewN | apply Kd.R_drew)); exact HO_3.out) hb); have n1_ := Aside0.mk (blk_below (g := gb975) (o := .cells #[.int .i64 ((rd_T169 l0 x4_1).f0), .int .i64 ((rd_T169 l0 x4_1).f1), .int .i64 ((rd_T169 l0 x4_1).f2), .int .i64 ((rd_T169 l0 x4_1).f3)] 169 (0, 0)) (by (with_reducible repeat (first | refine blk_drewN ?_ _ | refine blk_drew ?_ | refine blk_alloc ?_ _)); exact BK975.out) hb); have n2_ := Aside0.mk (below_step (by repeat (first | (with_reducible first | exact HB.out | apply below_alloc | apply pw_below_drewN | apply below_drew1 | refine below_set ?_ GE975.out) | exact HB.out)) hb); clear HO_3; clear BK975; clear HB; have HO_3 := n0_; have BK975 := n1_; have HB := n2_; clear n0_ n1_ n2_; (try clear hb); (try clear hb2); (try clear hk); (try clear hi)) | ((with_reducible refine gate_builtin (b := .append) (xs := #[.tmp 118, .tmp 120]) rfl ?_); (try (refine gate_guard (by rfl) ?_; dsimp only)); at_builtin; refine Kd.R_append Kd.string (w0 := w) w.heap.size rfl (.tmp 118) (.tmp 120) 37 23 (.string ⟨#[]⟩) 16 rfl Try.underlying37 info23 rfl (by decide) (by omega) (.slice (some ad977) x3_1.length co26) x3_1 t1049 [.string t1049] (fun _ => True) (fun _ => False) rfl rfl ?aP (fun _ hk => hk.elim) ?aF ?aO ?aB ?aS ?aL ?_; (case aP => exact rfl); (case aB => exact (by repeat (first | (with_reducible first | exact HB.out | apply below_alloc | apply pw_below_drewN | apply below_drew1 | refine below_set ?_ GE975.out) | exact HB.out))); (case aF => exact (fun _ _ => trivial)); (case aO => exact (by (with_reducible repeat (first | apply Kd.R_alloc | apply Kd.R_drewN | apply Kd.R_drew)); exact HO_3.out)); (case aS => exact (below_size (by repeat (first | (with_reducible first | exact HB.out | apply below_alloc | apply pw_below_drewN | apply below_drew1 | refine below_set ?_ GE975.out) | exact HB.out)))); (case aL => have := LMc138.out; omega); intro v1056 w140 ho hb hg hat; rw [← Ny1055.out] at ho; have n0_ := Aside0.mk (blk_grown (g := gb975) (o := .cells #[.int .i64 ((rd_T169 l0 x4_1).f0), .int .i64 ((rd_T169 l0 x4_1).f1), .int .i64 ((rd_T169 l0 x4_1).f2), .int .i64 ((rd_T169 l0 x4_1).f3)] 169 (0, 0)) (by (with_reducible repeat (first | refine blk_drewN ?_ _ | refine blk_drew ?_ | refine blk_alloc ?_ _)); exact BK975.out) hg (Kd.R_ne HO_3.out BK975.out (by decide))); have n1_ := Aside0.mk (hb); have n2_ := Aside0.mk (ho); clear BK975; clear HB; clear HO_3; have BK975 := n0_; have HB := n1_; have HO1057 := n2_; clear n0_ n1_ n2_; clear ho hb hg hat))
                                                      go_roundg kj68
                                                      case measure => have := HK1.out; have := HJ6.out; have := HJ22.out; have := HJ68.out; omega
                                                      case rel => exact ⟨(y1055), (wrap64 (x4_1 + 1)), (by first | rfl | (simp; done) | (simp [*]; done)), H', ⟨by have := HK1.out; have := HJ6.out; have := HJ22.out; have := HJ68.out; omega⟩, ⟨by (with_reducible repeat (first | apply Kd.R_alloc | apply Kd.R_drewN | apply Kd.R_drew)); exact HO1057.out⟩, ⟨by repeat (first | (with_reducible first | exact HB.out | apply below_alloc | apply pw_below_drewN | apply below_drew1 | refine below_set ?_ GE975.out) | exact HB.out)⟩⟩
                                                    · rw [if_neg c138] at H
                                                      exact absurd H (by simp)
                                                · rw [if_neg c130] at H
                                                  have c130b0 : (t1050 == 0) = false := beq_eq_false_iff_ne.mpr c130
                                                  have c130b1 : (t1050 != 0) = true := bne_iff_ne.mpr c130
                                                  replace H := Option.bind_eq_some_iff.mp H
                                                  obtain ⟨t1058, A1410, H⟩ := H
                                                  replace H : (if x3_1.length < 8796093022208 then (gemotlaw1_made_p.l0 kj68 l0 (x3_1 ++ [t1058]) (wrap64 (x4_1 + 1))) else (none)) = some r := H
                                                  have A141 := Aside0.mk A1410
                                                  clear A1410
                                                  by_cases c142 : x3_1.length < 8796093022208
                                                  · rw [if_pos c142] at H
                                                    have LMc142 := Aside0.mk c142
                                                    clear c142
                                                    obtain ⟨y1059, hy1059⟩ : ∃ y_ : List ByteArray, y_ = (x3_1 ++ [t1058]) := ⟨_, rfl⟩
                                                    replace H : (gemotlaw1_made_p.l0 kj68 l0 y1059 (wrap64 (x4_1 + 1))) = some r := by first | (rw [hy1059]; with_reducible exact H) | (have H2_ := (Option.bind_some _ _).symm.trans H; rw [hy1059]; with_reducible exact H2_) | (have H2_ := (Option.bind_some _ _).symm.trans H; with_reducible exact H2_) | with_reducible exact H | (rw [hy1059]; exact H) | exact H
                                                    have Ny1059 := Aside0.mk hy1059
                                                    clear hy1059
                                                    have H' := Aside0.mk H
                                                    clear H
                                                    go_wp2_with (first | ((with_reducible refine gate_callee (f := 96) rfl ?_); refine goesL_ (some 105) rfl rfl Try.func96 (by kernel_rfl) rfl #[.string (rdOf ByteArray.empty x3_1 t976), .string (rdOf ByteArray.empty x3_1 t978)] rfl (by (try simp only [List.map_toArray, List.map_cons, List.map_nil]); first | done | rfl | (simp only [List.length_drop, List.length_take]; rfl)) ?_; (with_reducible refine (term_Sign.calls (rdOf ByteArray.empty x3_1 t976) (rdOf ByteArray.empty x3_1 t978) t1049 t1050 _ A129.out).mono ?_); rintro e w143 ⟨rfl, hb⟩; refine ⟨_, rfl, ?_⟩; have n0_ := Aside0.mk (Kd.R_below (by (with_reducible repeat (first | apply Kd.R_alloc | apply Kd.R_drewN | apply Kd.R_drew)); exact HO_3.out) hb); have n1_ := Aside0.mk (blk_below (g := gb975) (o := .cells #[.int .i64 ((rd_T169 l0 x4_1).f0), .int .i64 ((rd_T169 l0 x4_1).f1), .int .i64 ((rd_T169 l0 x4_1).f2), .int .i64 ((rd_T169 l0 x4_1).f3)] 169 (0, 0)) (by (with_reducible repeat (first | refine blk_drewN ?_ _ | refine blk_drew ?_ | refine blk_alloc ?_ _)); exact BK975.out) hb); have n2_ := Aside0.mk (below_step (by repeat (first | (with_reducible first | exact HB.out | apply below_alloc | apply pw_below_drewN | apply below_drew1 | refine below_set ?_ GE975.out) | exact HB.out)) hb); clear HO_3; clear BK975; clear HB; have HO_3 := n0_; have BK975 := n1_; have HB := n2_; clear n0_ n1_ n2_; (try clear hb); (try clear hb2); (try clear hk); (try clear hi); have hcz144_0 : w143.cell? ⟨gb975, 0, none⟩ = some (.int .i64 ((rd_T169 l0 x4_1).f0)) := (blk_cell BK975.out 0).trans rfl; have hcz144_1 : w143.cell? ⟨gb975, 1, none⟩ = some (.int .i64 ((rd_T169 l0 x4_1).f1)) := (blk_cell BK975.out 1).trans rfl; have hcz144_2 : w143.cell? ⟨gb975, 2, none⟩ = some (.int .i64 ((rd_T169 l0 x4_1).f2)) := (blk_cell BK975.out 2).trans rfl; have hcz144_3 : w143.cell? ⟨gb975, 3, none⟩ = some (.int .i64 ((rd_T169 l0 x4_1).f3)) := (blk_cell BK975.out 3).trans rfl; have hfz144_0 := blk_frozen BK975.out 0; have hfz144_1 := blk_frozen BK975.out 1; have hfz144_2 := blk_frozen BK975.out 2; have hfz144_3 := blk_frozen BK975.out 3) | ((with_reducible refine gate_callee (f := 142) rfl ?_); refine goesL_ (some 117) rfl rfl Try.func142 (by kernel_rfl) rfl #[.int .i64 ((rd_T169 l0 x4_1).f2)] rfl (by (try simp only [List.map_toArray, List.map_cons, List.map_nil]); first | done | rfl | (simp only [List.length_drop, List.length_take]; rfl)) ?_; (with_reducible refine (gemotlaw1_name.calls ((rd_T169 l0 x4_1).f2) t1058 _ A141.out).mono ?_); rintro e w145 ⟨rfl, hb⟩; refine ⟨_, rfl, ?_⟩; have n0_ := Aside0.mk (Kd.R_below (by (with_reducible repeat (first | apply Kd.R_alloc | apply Kd.R_drewN | apply Kd.R_drew)); exact HO_3.out) hb); have n1_ := Aside0.mk (blk_below (g := gb975) (o := .cells #[.int .i64 ((rd_T169 l0 x4_1).f0), .int .i64 ((rd_T169 l0 x4_1).f1), .int .i64 ((rd_T169 l0 x4_1).f2), .int .i64 ((rd_T169 l0 x4_1).f3)] 169 (0, 0)) (by (with_reducible repeat (first | refine blk_drewN ?_ _ | refine blk_drew ?_ | refine blk_alloc ?_ _)); exact BK975.out) hb); have n2_ := Aside0.mk (below_step (by repeat (first | (with_reducible first | exact HB.out | apply below_alloc | apply pw_below_drewN | apply below_drew1 | refine below_set ?_ GE975.out) | exact HB.out)) hb); clear HO_3; clear BK975; clear HB; have HO_3 := n0_; have BK975 := n1_; have HB := n2_; clear n0_ n1_ n2_; (try clear hb); (try clear hb2); (try clear hk); (try clear hi)) | ((with_reducible refine gate_builtin (b := .append) (xs := #[.tmp 118, .tmp 120]) rfl ?_); (try (refine gate_guard (by rfl) ?_; dsimp only)); at_builtin; refine Kd.R_append Kd.string (w0 := w) w.heap.size rfl (.tmp 118) (.tmp 120) 37 23 (.string ⟨#[]⟩) 16 rfl Try.underlying37 info23 rfl (by decide) (by omega) (.slice (some ad977) x3_1.length co26) x3_1 t1058 [.string t1058] (fun _ => True) (fun _ => False) rfl rfl ?aP (fun _ hk => hk.elim) ?aF ?aO ?aB ?aS ?aL ?_; (case aP => exact rfl); (case aB => exact (by repeat (first | (with_reducible first | exact HB.out | apply below_alloc | apply pw_below_drewN | apply below_drew1 | refine below_set ?_ GE975.out) | exact HB.out))); (case aF => exact (fun _ _ => trivial)); (case aO => exact (by (with_reducible repeat (first | apply Kd.R_alloc | apply Kd.R_drewN | apply Kd.R_drew)); exact HO_3.out)); (case aS => exact (below_size (by repeat (first | (with_reducible first | exact HB.out | apply below_alloc | apply pw_below_drewN | apply below_drew1 | refine below_set ?_ GE975.out) | exact HB.out)))); (case aL => have := LMc142.out; omega); intro v1060 w146 ho hb hg hat; rw [← Ny1059.out] at ho; have n0_ := Aside0.mk (blk_grown (g := gb975) (o := .cells #[.int .i64 ((rd_T169 l0 x4_1).f0), .int .i64 ((rd_T169 l0 x4_1).f1), .int .i64 ((rd_T169 l0 x4_1).f2), .int .i64 ((rd_T169 l0 x4_1).f3)] 169 (0, 0)) (by (with_reducible repeat (first | refine blk_drewN ?_ _ | refine blk_drew ?_ | refine blk_alloc ?_ _)); exact BK975.out) hg (Kd.R_ne HO_3.out BK975.out (by decide))); have n1_ := Aside0.mk (hb); have n2_ := Aside0.mk (ho); clear BK975; clear HB; clear HO_3; have BK975 := n0_; have HB := n1_; have HO1061 := n2_; clear n0_ n1_ n2_; clear ho hb hg hat))
                                                    go_roundg kj68
                                                    case measure => have := HK1.out; have := HJ6.out; have := HJ22.out; have := HJ68.out; omega
                                                    case rel => exact ⟨(y1059), (wrap64 (x4_1 + 1)), (by first | rfl | (simp; done) | (simp [*]; done)), H', ⟨by have := HK1.out; have := HJ6.out; have := HJ22.out; have := HJ68.out; omega⟩, ⟨by (with_reducible repeat (first | apply Kd.R_alloc | apply Kd.R_drewN | apply Kd.R_drew)); exact HO1061.out⟩, ⟨by repeat (first | (with_reducible first | exact HB.out | apply below_alloc | apply pw_below_drewN | apply below_drew1 | refine below_set ?_ GE975.out) | exact HB.out)⟩⟩
                                                  · rw [if_neg c142] at H
                                                    exact absurd H (by simp)
                                              · rw [if_neg c128] at H
                                                have c128b0 : (t983 == 9) = false := beq_eq_false_iff_ne.mpr c128
                                                have c128b1 : (t983 != 9) = true := bne_iff_ne.mpr c128
                                                by_cases c147 : 0 = 0
                                                · rw [if_pos c147] at H
                                                  have c147b0 : (0 == 0) = true := beq_iff_eq.mpr c147
                                                  have c147b1 : (0 != 0) = false := bne_eq_false_iff_eq.mpr c147
                                                  clear c147
                                                  by_cases c148 : (t982.size : Int) > 600
                                                  · rw [if_pos c148] at H
                                                    have c148b0 : decide (600 < (t982.size : Int)) = true := decide_eq_true c148
                                                    have c148b1 : decide (600 < t982.size) = true := decide_eq_true (by omega)
                                                    clear c148
                                                    replace H := Option.bind_eq_some_iff.mp H
                                                    obtain ⟨t1062, A1490, H⟩ := H
                                                    replace H : (if x3_1.length < 8796093022208 then (gemotlaw1_made_p.l0 kj68 l0 (x3_1 ++ [t1062]) (wrap64 (x4_1 + 1))) else (none)) = some r := H
                                                    have A149 := Aside0.mk A1490
                                                    clear A1490
                                                    by_cases c150 : x3_1.length < 8796093022208
                                                    · rw [if_pos c150] at H
                                                      have LMc150 := Aside0.mk c150
                                                      clear c150
                                                      obtain ⟨y1063, hy1063⟩ : ∃ y_ : List ByteArray, y_ = (x3_1 ++ [t1062]) := ⟨_, rfl⟩
                                                      replace H : (gemotlaw1_made_p.l0 kj68 l0 y1063 (wrap64 (x4_1 + 1))) = some r := by first | (rw [hy1063]; with_reducible exact H) | (have H2_ := (Option.bind_some _ _).symm.trans H; rw [hy1063]; with_reducible exact H2_) | (have H2_ := (Option.bind_some _ _).symm.trans H; with_reducible exact H2_) | with_reducible exact H | (rw [hy1063]; exact H) | exact H
                                                      have Ny1063 := Aside0.mk hy1063
                                                      clear hy1063
                                                      have H' := Aside0.mk H
                                                      clear H
                                                      have hcz151_0 : wc.cell? ⟨gb975, 0, none⟩ = some (.int .i64 ((rd_T169 l0 x4_1).f0)) := (blk_cell BK975.out 0).trans rfl
                                                      have hcz151_1 : wc.cell? ⟨gb975, 1, none⟩ = some (.int .i64 ((rd_T169 l0 x4_1).f1)) := (blk_cell BK975.out 1).trans rfl
                                                      have hcz151_2 : wc.cell? ⟨gb975, 2, none⟩ = some (.int .i64 ((rd_T169 l0 x4_1).f2)) := (blk_cell BK975.out 2).trans rfl
                                                      have hcz151_3 : wc.cell? ⟨gb975, 3, none⟩ = some (.int .i64 ((rd_T169 l0 x4_1).f3)) := (blk_cell BK975.out 3).trans rfl
                                                      have hfz151_0 := blk_frozen BK975.out 0
                                                      have hfz151_1 := blk_frozen BK975.out 1
                                                      have hfz151_2 := blk_frozen BK975.out 2
                                                      have hfz151_3 := blk_frozen BK975.out 3
                                                      go_wp2_with (first | ((with_reducible refine gate_callee (f := 142) rfl ?_); refine goesL_ (some 117) rfl rfl Try.func142 (by kernel_rfl) rfl #[.int .i64 ((rd_T169 l0 x4_1).f2)] rfl (by (try simp only [List.map_toArray, List.map_cons, List.map_nil]); first | done | rfl | (simp only [List.length_drop, List.length_take]; rfl)) ?_; (with_reducible refine (gemotlaw1_name.calls ((rd_T169 l0 x4_1).f2) t1062 _ A149.out).mono ?_); rintro e w152 ⟨rfl, hb⟩; refine ⟨_, rfl, ?_⟩; have n0_ := Aside0.mk (Kd.R_below (by (with_reducible repeat (first | apply Kd.R_alloc | apply Kd.R_drewN | apply Kd.R_drew)); exact HO_3.out) hb); have n1_ := Aside0.mk (blk_below (g := gb975) (o := .cells #[.int .i64 ((rd_T169 l0 x4_1).f0), .int .i64 ((rd_T169 l0 x4_1).f1), .int .i64 ((rd_T169 l0 x4_1).f2), .int .i64 ((rd_T169 l0 x4_1).f3)] 169 (0, 0)) (by (with_reducible repeat (first | refine blk_drewN ?_ _ | refine blk_drew ?_ | refine blk_alloc ?_ _)); exact BK975.out) hb); have n2_ := Aside0.mk (below_step (by repeat (first | (with_reducible first | exact HB.out | apply below_alloc | apply pw_below_drewN | apply below_drew1 | refine below_set ?_ GE975.out) | exact HB.out)) hb); clear HO_3; clear BK975; clear HB; have HO_3 := n0_; have BK975 := n1_; have HB := n2_; clear n0_ n1_ n2_; (try clear hb); (try clear hb2); (try clear hk); (try clear hi)) | ((with_reducible refine gate_builtin (b := .append) (xs := #[.tmp 118, .tmp 120]) rfl ?_); (try (refine gate_guard (by rfl) ?_; dsimp only)); at_builtin; refine Kd.R_append Kd.string (w0 := w) w.heap.size rfl (.tmp 118) (.tmp 120) 37 23 (.string ⟨#[]⟩) 16 rfl Try.underlying37 info23 rfl (by decide) (by omega) (.slice (some ad977) x3_1.length co26) x3_1 t1062 [.string t1062] (fun _ => True) (fun _ => False) rfl rfl ?aP (fun _ hk => hk.elim) ?aF ?aO ?aB ?aS ?aL ?_; (case aP => exact rfl); (case aB => exact (by repeat (first | (with_reducible first | exact HB.out | apply below_alloc | apply pw_below_drewN | apply below_drew1 | refine below_set ?_ GE975.out) | exact HB.out))); (case aF => exact (fun _ _ => trivial)); (case aO => exact (by (with_reducible repeat (first | apply Kd.R_alloc | apply Kd.R_drewN | apply Kd.R_drew)); exact HO_3.out)); (case aS => exact (below_size (by repeat (first | (with_reducible first | exact HB.out | apply below_alloc | apply pw_below_drewN | apply below_drew1 | refine below_set ?_ GE975.out) | exact HB.out)))); (case aL => have := LMc150.out; omega); intro v1064 w153 ho hb hg hat; rw [← Ny1063.out] at ho; have n0_ := Aside0.mk (blk_grown (g := gb975) (o := .cells #[.int .i64 ((rd_T169 l0 x4_1).f0), .int .i64 ((rd_T169 l0 x4_1).f1), .int .i64 ((rd_T169 l0 x4_1).f2), .int .i64 ((rd_T169 l0 x4_1).f3)] 169 (0, 0)) (by (with_reducible repeat (first | refine blk_drewN ?_ _ | refine blk_drew ?_ | refine blk_alloc ?_ _)); exact BK975.out) hg (Kd.R_ne HO_3.out BK975.out (by decide))); have n1_ := Aside0.mk (hb); have n2_ := Aside0.mk (ho); clear BK975; clear HB; clear HO_3; have BK975 := n0_; have HB := n1_; have HO1065 := n2_; clear n0_ n1_ n2_; clear ho hb hg hat))
                                                      go_roundg kj68
                                                      case measure => have := HK1.out; have := HJ6.out; have := HJ22.out; have := HJ68.out; omega
                                                      case rel => exact ⟨(y1063), (wrap64 (x4_1 + 1)), (by first | rfl | (simp; done) | (simp [*]; done)), H', ⟨by have := HK1.out; have := HJ6.out; have := HJ22.out; have := HJ68.out; omega⟩, ⟨by (with_reducible repeat (first | apply Kd.R_alloc | apply Kd.R_drewN | apply Kd.R_drew)); exact HO1065.out⟩, ⟨by repeat (first | (with_reducible first | exact HB.out | apply below_alloc | apply pw_below_drewN | apply below_drew1 | refine below_set ?_ GE975.out) | exact HB.out)⟩⟩
                                                    · rw [if_neg c150] at H
                                                      exact absurd H (by simp)
                                                  · rw [if_neg c148] at H
                                                    have c148b0 : decide (600 < (t982.size : Int)) = false := decide_eq_false c148
                                                    have c148b1 : decide (600 < t982.size) = false := decide_eq_false (by omega)
                                                    clear c148
                                                    by_cases c154 : x3_1.length < 8796093022208
                                                    · rw [if_pos c154] at H
                                                      have LMc154 := Aside0.mk c154
                                                      clear c154
                                                      obtain ⟨y1066, hy1066⟩ : ∃ y_ : List ByteArray, y_ = (x3_1 ++ [t982]) := ⟨_, rfl⟩
                                                      replace H : (gemotlaw1_made_p.l0 kj68 l0 y1066 (wrap64 (x4_1 + 1))) = some r := by first | (rw [hy1066]; with_reducible exact H) | (have H2_ := (Option.bind_some _ _).symm.trans H; rw [hy1066]; with_reducible exact H2_) | (have H2_ := (Option.bind_some _ _).symm.trans H; with_reducible exact H2_) | with_reducible exact H | (rw [hy1066]; exact H) | exact H
                                                      have Ny1066 := Aside0.mk hy1066
                                                      clear hy1066
                                                      have H' := Aside0.mk H
                                                      clear H
                                                      go_wp2_with (first | ((with_reducible refine gate_builtin (b := .append) (xs := #[.tmp 118, .tmp 120]) rfl ?_); (try (refine gate_guard (by rfl) ?_; dsimp only)); at_builtin; refine Kd.R_append Kd.string (w0 := w) w.heap.size rfl (.tmp 118) (.tmp 120) 37 23 (.string ⟨#[]⟩) 16 rfl Try.underlying37 info23 rfl (by decide) (by omega) (.slice (some ad977) x3_1.length co26) x3_1 t982 [.string t982] (fun _ => True) (fun _ => False) rfl rfl ?aP (fun _ hk => hk.elim) ?aF ?aO ?aB ?aS ?aL ?_; (case aP => exact rfl); (case aB => exact (by repeat (first | (with_reducible first | exact HB.out | apply below_alloc | apply pw_below_drewN | apply below_drew1 | refine below_set ?_ GE975.out) | exact HB.out))); (case aF => exact (fun _ _ => trivial)); (case aO => exact (by (with_reducible repeat (first | apply Kd.R_alloc | apply Kd.R_drewN | apply Kd.R_drew)); exact HO_3.out)); (case aS => exact (below_size (by repeat (first | (with_reducible first | exact HB.out | apply below_alloc | apply pw_below_drewN | apply below_drew1 | refine below_set ?_ GE975.out) | exact HB.out)))); (case aL => have := LMc154.out; omega); intro v1067 w155 ho hb hg hat; rw [← Ny1066.out] at ho; have n0_ := Aside0.mk (blk_grown (g := gb975) (o := .cells #[.int .i64 ((rd_T169 l0 x4_1).f0), .int .i64 ((rd_T169 l0 x4_1).f1), .int .i64 ((rd_T169 l0 x4_1).f2), .int .i64 ((rd_T169 l0 x4_1).f3)] 169 (0, 0)) (by (with_reducible repeat (first | refine blk_drewN ?_ _ | refine blk_drew ?_ | refine blk_alloc ?_ _)); exact BK975.out) hg (Kd.R_ne HO_3.out BK975.out (by decide))); have n1_ := Aside0.mk (hb); have n2_ := Aside0.mk (ho); clear BK975; clear HB; clear HO_3; have BK975 := n0_; have HB := n1_; have HO1068 := n2_; clear n0_ n1_ n2_; clear ho hb hg hat))
                                                      go_roundg kj68
                                                      case measure => have := HK1.out; have := HJ6.out; have := HJ22.out; have := HJ68.out; omega
                                                      case rel => exact ⟨(y1066), (wrap64 (x4_1 + 1)), (by first | rfl | (simp; done) | (simp [*]; done)), H', ⟨by have := HK1.out; have := HJ6.out; have := HJ22.out; have := HJ68.out; omega⟩, ⟨by (with_reducible repeat (first | apply Kd.R_alloc | apply Kd.R_drewN | apply Kd.R_drew)); exact HO1068.out⟩, ⟨by repeat (first | (with_reducible first | exact HB.out | apply below_alloc | apply pw_below_drewN | apply below_drew1 | refine below_set ?_ GE975.out) | exact HB.out)⟩⟩
                                                    · rw [if_neg c154] at H
                                                      exact absurd H (by simp)
                                                · exact absurd rfl c147
                          · rw [if_neg c20] at H
                            exact absurd H (by simp)
                        · rw [if_neg c19] at H
                          exact absurd H (by simp)
                      · rw [if_neg c17] at H
                        exact absurd H (by simp)
                    · rw [if_neg c16] at H
                      exact absurd H (by simp)
                  · rw [if_neg c14] at H
                    exact absurd H (by simp)
                · rw [if_neg c13] at H
                  exact absurd H (by simp)
              · rw [if_neg c11] at H
                exact absurd H (by simp)
            · rw [if_neg c10] at H
              exact absurd H (by simp)
          · replace c9 := Bool.eq_false_iff.mpr c9
            subst c9
            have H1 : (some x3_1) = some r := by rw [if_neg (show ¬ (false = true) by decide)] at H; exact H
            clear H
            have H := H1
            clear H1
            obtain rfl := Option.some.inj H
            go_wp2
            go_ret
            exact ⟨_, by first | rfl | (simp [errW_none, errW_some] <;> rfl) | (simp [*, errW_none, errW_some] <;> rfl), by (with_reducible repeat (first | apply Kd.R_alloc | apply Kd.R_drewN | apply Kd.R_drew)); exact HO_3.out, by repeat (first | (with_reducible first | exact HB.out | apply below_alloc | apply pw_below_drewN | apply below_drew1) | exact HB.out)⟩

open Go.Proofs.Ytpfpmjdifnoeoaa.Pure
def gemotlaw1_made.tup (x : S169) : Int × Int × Int × Int := (x.f0, x.f1, x.f2, x.f3)
abbrev gemotlaw1_made.rg (n : Int) : Prop := -9223372036854775808 ≤ n ∧ n ≤ 9223372036854775807
abbrev gemotlaw1_made.ok (x : S169) : Prop := gemotlaw1_made.rg x.f0 ∧ gemotlaw1_made.rg x.f1 ∧ gemotlaw1_made.rg x.f2 ∧ gemotlaw1_made.rg x.f3
def gemotlaw1_made.tmade (l : List S169) : List ByteArray := madeT (l.map gemotlaw1_made.tup)
def gemotlaw1_made.f (l : List S169) : Option (List ByteArray) :=
  if ∀ x ∈ l, gemotlaw1_made.ok x then some (gemotlaw1_made.tmade l) else none
theorem gemotlaw1_made.tail {k : Nat} {x0 : List S169} {out : List ByteArray} {i : Nat} {r : ByteArray × Int} {b : Int} {R : List ByteArray} (hb : gemotlaw1_made.rg b) (hl : out.length ≤ 100) (hi : i ≤ 100)
    (h : gemotlaw1_made_p.l0 k x0 (out ++ [pickT r b]) ((i + 1 : Nat) : Int) = some R) :
    (if r.2 = 0 then (if (r.1.size : Int) > 600 then ((gemotlaw1_name.f b).bind fun t => (if out.length < 8796093022208 then (gemotlaw1_made_p.l0 k x0 (out ++ [t]) (wrap64 ((i : Int) + 1))) else (none))) else (if out.length < 8796093022208 then (gemotlaw1_made_p.l0 k x0 (out ++ [r.1]) (wrap64 ((i : Int) + 1))) else (none))) else ((gemotlaw1_name.f b).bind fun t => (if out.length < 8796093022208 then (gemotlaw1_made_p.l0 k x0 (out ++ [t]) (wrap64 ((i : Int) + 1))) else (none)))) = some R := by
  have hw : wrap64 ((i : Int) + 1) = ((i + 1 : Nat) : Int) := by unfold wrap64; omega
  have hn : gemotlaw1_name.f b = some (nameT b) := by unfold gemotlaw1_name.f; exact if_pos hb
  have ho : out.length < 8796093022208 := by omega
  rw [hw, hn, Option.bind_some, if_pos ho]
  unfold pickT at h
  by_cases c : r.2 = 0
  · rw [if_pos c]
    by_cases d : r.1.size ≤ 600
    · rw [if_neg (by omega)]
      rw [if_pos ⟨c, d⟩] at h
      exact (if_pos ho).trans h
    · rw [if_pos (by omega)]
      rw [if_neg (fun q => d q.2)] at h
      exact h
  · rw [if_neg c]
    rw [if_neg (fun q => c q.1)] at h
    exact h
theorem gemotlaw1_made.pk {c n : Int} (hc : gemotlaw1_made.rg c) (h1 : 0 < n) (h2 : n ≤ 100) : gemotlaw1_pick.f c n = some (pickF c n) := by
  unfold gemotlaw1_pick.f
  rw [if_pos ⟨hc.1, hc.2, h1, by omega⟩]
  rfl
set_option maxHeartbeats 1000000 in
theorem gemotlaw1_made.step (x0 : List S169) (hx : ∀ x ∈ x0, gemotlaw1_made.ok x) (out : List ByteArray) (h2 : 2 ≤ out.length) (h100 : out.length ≤ 100) (hs : ∀ t ∈ out, t.size ≤ 600) (i : Nat) (hi : i < x0.length) (h40 : i < 40) (R : List ByteArray) (K : Nat)
    (hK : ∀ k, K ≤ k → gemotlaw1_made_p.l0 k x0 (mstepT out (gemotlaw1_made.tup x0[i])) ((i + 1 : Nat) : Int) = some R) : ∀ k, K + 4 ≤ k → gemotlaw1_made_p.l0 k x0 out i = some R := by
  intro k hk
  obtain ⟨k, rfl⟩ : ∃ m, k = m + 4 := ⟨k - 4, by omega⟩
  have hok := hx _ (List.getElem_mem hi)
  have hrd : rd_T169 x0 (i : Int) = x0[i] := by simp [rd_T169, List.getD_eq_getElem?_getD, hi]
  have K1 := hK k (by omega)
  have K2 := hK (k + 1) (by omega)
  clear hK
  unfold mstepT at K1 K2
  generalize hX : x0[i] = X at hok hrd K1 K2
  obtain ⟨f0, f1, f2, f3⟩ := X
  obtain ⟨o0, o1, o2, o3⟩ := hok
  simp only [gemotlaw1_made.tup] at o0 o1 o2 o3 K1 K2
  have hpos : (0 : Int) < (out.length : Int) := by omega
  have p1 := gemotlaw1_made.pk o1 hpos (by omega)
  have p2 := gemotlaw1_made.pk o2 hpos (by omega)
  have p3 := gemotlaw1_made.pk o3 hpos (by omega)
  have p0 := gemotlaw1_made.pk (n := 10) o0 (by decide) (by decide)
  have r0 := pickF_range f0 (n := 10) (by decide)
  have r1 := pickF_range f1 hpos
  have r2 := pickF_range f2 hpos
  have r3 := pickF_range f3 hpos
  have hn1 : gemotlaw1_name.f f1 = some (nameT f1) := by unfold gemotlaw1_name.f; exact if_pos o1
  unfold resT at K1 K2
  simp only at K1 K2
  have ma := hs _ (atF_mem r1.1 r1.2)
  have mb := hs _ (atF_mem r2.1 r2.2)
  have mc := hs _ (atF_mem r3.1 r3.2)
  generalize hg : pickF f0 10 = g at p0 r0 K1 K2
  generalize pickF f1 out.length = q1 at p1 r1 K1 K2 ma
  generalize pickF f2 out.length = q2 at p2 r2 K1 K2 mb
  generalize pickF f3 out.length = q3 at p3 r3 K1 K2 mc
  rw [gemotlaw1_made_p.l0, if_pos (show (i : Int) < (x0.length : Int) by omega), decide_eq_true (show (i : Int) < 40 by omega), gemotlaw1_made_p.j1, if_pos rfl, if_pos (show (0 : Int) ≤ (i : Int) by omega), if_pos (show (i : Int) < (x0.length : Int) by omega), hrd]
  simp only
  rw [p1, Option.bind_some, if_pos r1.1, if_pos r1.2, p2, Option.bind_some, if_pos r2.1, if_pos r2.2, p3, Option.bind_some, if_pos r3.1, if_pos r3.2, hn1, Option.bind_some, p0, Option.bind_some]
  rw [show rdOf ByteArray.empty out q1 = atF out q1 from rfl, show rdOf ByteArray.empty out q2 = atF out q2 from rfl, show rdOf ByteArray.empty out q3 = atF out q3 from rfl]
  generalize atF out q1 = a at K1 K2 ma ⊢
  generalize atF out q2 = b at K1 K2 mb ⊢
  generalize atF out q3 = c at K1 K2 mc ⊢
  have fp : term_Power.f a b = some (powF a b) := by unfold term_Power.f; exact if_pos ⟨by omega, by omega⟩
  have fk : term_Key.f a = some (keyF a) := by unfold term_Key.f; exact if_pos (by omega)
  have fq : term_Pair.f a b = some (pairF a b) := by unfold term_Pair.f; exact if_pos ⟨by omega, by omega⟩
  have fh : term_Hash.f a = some (hashF a) := by unfold term_Hash.f; exact if_pos (by omega)
  have fs : term_Seal.f a b c = some (sealF a b c) := by unfold term_Seal.f; exact if_pos ⟨by omega, by omega, by omega⟩
  have fx : term_Sign.f a b = some (signF a b) := by unfold term_Sign.f; exact if_pos ⟨by omega, by omega⟩
  have hc : g = 1 ∨ g = 2 ∨ g = 3 ∨ g = 4 ∨ g = 5 ∨ g = 6 ∨ g = 7 ∨ g = 8 ∨ g = 9 ∨ g = 0 := by omega
  have ht1 := fun r => gemotlaw1_made.tail (k := k) (x0 := x0) (out := out) (i := i) (r := r) (R := R) o2 h100 (by omega)
  have ht2 := fun r => gemotlaw1_made.tail (k := k + 1) (x0 := x0) (out := out) (i := i) (r := r) (R := R) o2 h100 (by omega)
  have hsel : ∀ F : Bool → Option (List ByteArray), (if g = 1 then F (g == 1) else (if g = 2 then F (g == 2) else F (g == 3))) = F (decide (g = 1 ∨ g = 2 ∨ g = 3)) := by
    intro F
    by_cases c1 : g = 1
    · rw [if_pos c1, c1]; rfl
    · rw [if_neg c1]
      by_cases c2 : g = 2
      · rw [if_pos c2, c2]; rfl
      · rw [if_neg c2]
        congr 1
        rw [Bool.eq_iff_iff, beq_iff_eq, decide_eq_true_eq]
        omega
  refine (hsel (fun v => gemotlaw1_made_p.j2 (k + 2) x0 out i a b c (nameT f1) 0 g v f0 f1 f2 f3)).trans ?_
  show gemotlaw1_made_p.j2 (k + 2) x0 out i a b c (nameT f1) 0 g (decide (g = 1 ∨ g = 2 ∨ g = 3)) f0 f1 f2 f3 = some R
  rw [gemotlaw1_made_p.j2]
  clear hsel
  rcases hc with rfl | rfl | rfl | rfl | rfl | rfl | rfl | rfl | rfl | rfl
  · rw [if_pos (by decide), fp, Option.bind_some]; exact ht2 _ K2
  · rw [if_pos (by decide), fp, Option.bind_some]; exact ht2 _ K2
  · rw [if_pos (by decide), fp, Option.bind_some]; exact ht2 _ K2
  · rw [if_neg (by decide), if_pos rfl, fk, Option.bind_some]; exact ht2 _ K2
  · rw [if_neg (by decide), if_neg (by decide), if_pos rfl, gemotlaw1_made_p.j3, if_pos (by decide), fq, Option.bind_some]; exact ht1 _ K1
  · rw [if_neg (by decide), if_neg (by decide), if_neg (by decide), gemotlaw1_made_p.j3, if_pos (by decide), fq, Option.bind_some]; exact ht1 _ K1
  · rw [if_neg (by decide), if_neg (by decide), if_neg (by decide), gemotlaw1_made_p.j3, if_neg (by decide), if_pos rfl, fh, Option.bind_some]; exact ht1 _ K1
  · rw [if_neg (by decide), if_neg (by decide), if_neg (by decide), gemotlaw1_made_p.j3, if_neg (by decide), if_neg (by decide), if_pos rfl, fs, Option.bind_some]; exact ht1 _ K1
  · rw [if_neg (by decide), if_neg (by decide), if_neg (by decide), gemotlaw1_made_p.j3, if_neg (by decide), if_neg (by decide), if_neg (by decide), if_pos rfl, fx, Option.bind_some]; exact ht1 _ K1
  · rw [if_neg (by decide), if_neg (by decide), if_neg (by decide), gemotlaw1_made_p.j3, if_neg (by decide), if_neg (by decide), if_neg (by decide), if_neg (by decide)]; exact ht1 (nameT f1, 0) K1
theorem gemotlaw1_made.run (x0 : List S169) (hx : ∀ x ∈ x0, gemotlaw1_made.ok x) : ∀ (d i : Nat) (out : List ByteArray), i + d = min 40 x0.length → MadeOk out → out.length = i + 2 →
    ∃ K, ∀ k, K ≤ k → gemotlaw1_made_p.l0 k x0 out i = some ((((x0.map gemotlaw1_made.tup).take 40).drop i).foldl mstepT out)
  | 0, i, out, hd, ho, hl => by
    refine ⟨2, fun k hk => ?_⟩
    obtain ⟨k, rfl⟩ : ∃ m, k = m + 2 := ⟨k - 2, by omega⟩
    rw [List.drop_eq_nil_of_le (by rw [List.length_take, List.length_map]; omega), List.foldl_nil, gemotlaw1_made_p.l0]
    by_cases c : (i : Int) < (x0.length : Int)
    · rw [if_pos c, decide_eq_false (by omega), gemotlaw1_made_p.j1, if_neg (by decide)]
    · rw [if_neg c, gemotlaw1_made_p.j1, if_neg (by decide)]
  | d + 1, i, out, hd, ho, hl => by
    have hi : i < x0.length := by omega
    have hlt : i < ((x0.map gemotlaw1_made.tup).take 40).length := by rw [List.length_take, List.length_map]; omega
    have hstep := mstepT_ok ho (by omega) (gemotlaw1_made.tup x0[i])
    obtain ⟨K, hK⟩ := gemotlaw1_made.run x0 hx d (i + 1) (mstepT out (gemotlaw1_made.tup x0[i])) (by omega) hstep (by unfold mstepT; rw [List.length_append, hl]; rfl)
    refine ⟨K + 4, fun k hk => ?_⟩
    rw [List.drop_eq_getElem_cons hlt, List.foldl_cons]
    have he : ((x0.map gemotlaw1_made.tup).take 40)[i] = gemotlaw1_made.tup x0[i] := by rw [List.getElem_take, List.getElem_map]
    rw [he]
    exact gemotlaw1_made.step x0 hx out ho.two (by omega) ho.small i hi (by omega) _ K hK k hk
theorem gemotlaw1_made.eq (l : List S169) (r : List ByteArray) (h : gemotlaw1_made.f l = some r) : ∃ k, gemotlaw1_made_p.f k l = some r := by
  unfold gemotlaw1_made.f at h
  split at h
  case isFalse => cases h
  rename_i hs
  rw [← h]
  obtain ⟨K, hK⟩ := gemotlaw1_made.run l hs (min 40 l.length) 0 _ (by omega) made_start rfl
  refine ⟨K, ?_⟩
  have hn : gemotlaw1_name.f 1 = some (nameT 1) := by unfold gemotlaw1_name.f; exact if_pos ⟨by decide, by decide⟩
  unfold gemotlaw1_made_p.f term_Gen.f
  rw [hn, Option.bind_some, Option.bind_some]
  exact hK K (Nat.le_refl _)
theorem gemotlaw1_made.calls (A0 : Option Addr) (c0 : Nat) (l0 : List S169) (r : List ByteArray) (w : World) (hr0 : Kd.C k169 w A0 l0.length l0) (hc0 : l0.length ≤ c0) (h : gemotlaw1_made.f l0 = some r) :
    Calls Try.prog 97 #[.slice A0 l0.length c0] w fun e w' => ∃ v0_ : Value, e = .returned (v0_) ∧ Kd.R Kd.string 23 w' w.heap.size (fun _ => True) v0_ r ∧ Below w.heap.size w w' := by
  obtain ⟨k, hk⟩ := gemotlaw1_made.eq l0 r h
  exact gemotlaw1_made_p.calls k A0 c0 l0 r w hr0 hc0 hk

end Go.Proofs.Ytpfpmjdifnoeoaa.F
