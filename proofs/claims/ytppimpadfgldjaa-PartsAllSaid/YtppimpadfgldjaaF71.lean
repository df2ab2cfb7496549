-- Laid by mk.py (a program of this session) over the seat's translation.
import Derived.Test.YtppimpadfgldjaaF0
import Derived.Test.YtppimpadfgldjaaF122
import Derived.Test.YtppimpadfgldjaaB2
import Derived.Test.YtppimpadfgldjaaF72
import Derived.Test.YtppimpadfgldjaaB1
namespace Go.Proofs.Ytppimpadfgldjaa.F
open Go.RowKit Go.Proofs.YtppimpadfgldjaaW.PrintWords Go.Proofs.YtppimpadfgldjaaW.PrintLast Go.Proofs.YtppimpadfgldjaaW.PrintMore
attribute [local go_sem] max2_int min2_int max_two min_two max_three min_three max_four min_four
set_option linter.unusedVariables false
set_option linter.unusedSimpArgs false

/-! ### gemotlaw2_made: function 71 -/
/-! #### gemotlaw2_made_p: function 71 -/
mutual
def gemotlaw2_made_p.l0 : Nat → List (S186) → List ByteArray → Int → Option (List ByteArray)
  | 0, _, _, _ => none
  | k + 1, x0, x3, x4 => if x4 < (x0.length : Int) then (gemotlaw2_made_p.j1 k x0 x3 x4 (decide (x4 < 40))) else (gemotlaw2_made_p.j1 k x0 x3 x4 false)
def gemotlaw2_made_p.j1 : Nat → List (S186) → List ByteArray → Int → Bool → Option (List ByteArray)
  | 0, _, _, _, _ => none
  | k + 1, x0, x3, x4, x21 => if x21 = true then (if 0 ≤ x4 then (if x4 < (x0.length : Int) then ((gemotlaw2_pick.f ((rd_T186 x0 x4).f1) (x3.length : Int)).bind fun t1008 => (if 0 ≤ t1008 then (if t1008 < (x3.length : Int) then ((gemotlaw2_pick.f ((rd_T186 x0 x4).f2) (x3.length : Int)).bind fun t1010 => (if 0 ≤ t1010 then (if t1010 < (x3.length : Int) then ((gemotlaw2_pick.f ((rd_T186 x0 x4).f3) (x3.length : Int)).bind fun t1012 => (if 0 ≤ t1012 then (if t1012 < (x3.length : Int) then ((gemotlaw2_name.f ((rd_T186 x0 x4).f1)).bind fun t1014 => ((gemotlaw2_pick.f ((rd_T186 x0 x4).f0) 10).bind fun t1015 => (if t1015 = 1 then (gemotlaw2_made_p.j2 k x0 x3 x4 (rdOf ByteArray.empty x3 t1008) (rdOf ByteArray.empty x3 t1010) (rdOf ByteArray.empty x3 t1012) t1014 0 t1015 (t1015 == 1) ((rd_T186 x0 x4).f0) ((rd_T186 x0 x4).f1) ((rd_T186 x0 x4).f2) ((rd_T186 x0 x4).f3)) else (if t1015 = 2 then (gemotlaw2_made_p.j2 k x0 x3 x4 (rdOf ByteArray.empty x3 t1008) (rdOf ByteArray.empty x3 t1010) (rdOf ByteArray.empty x3 t1012) t1014 0 t1015 (t1015 == 2) ((rd_T186 x0 x4).f0) ((rd_T186 x0 x4).f1) ((rd_T186 x0 x4).f2) ((rd_T186 x0 x4).f3)) else (gemotlaw2_made_p.j2 k x0 x3 x4 (rdOf ByteArray.empty x3 t1008) (rdOf ByteArray.empty x3 t1010) (rdOf ByteArray.empty x3 t1012) t1014 0 t1015 (t1015 == 3) ((rd_T186 x0 x4).f0) ((rd_T186 x0 x4).f1) ((rd_T186 x0 x4).f2) ((rd_T186 x0 x4).f3)))))) else (none)) else (none))) else (none)) else (none))) else (none)) else (none))) else (none)) else (none)) else (some x3)
def gemotlaw2_made_p.j2 : Nat → List (S186) → List ByteArray → Int → ByteArray → ByteArray → ByteArray → ByteArray → Int → Int → Bool → Int → Int → Int → Int → Option (List ByteArray)
  | 0, _, _, _, _, _, _, _, _, _, _, _, _, _, _ => none
  | k + 1, x0, x3, x4, x6, x7, x8, x9, x10, x57, x58, x1008000, x1008001, x1008002, x1008003 => if x58 = true then ((term_Power.f x6 x7).bind fun bt1016 => (if bt1016.2 = 0 then (if (bt1016.1.size : Int) > 600 then ((gemotlaw2_name.f x1008002).bind fun t1018 => (if x3.length < 8796093022208 then (gemotlaw2_made_p.l0 k x0 (x3 ++ [t1018]) (wrap64 (x4 + 1))) else (none))) else (if x3.length < 8796093022208 then (gemotlaw2_made_p.l0 k x0 (x3 ++ [bt1016.1]) (wrap64 (x4 + 1))) else (none))) else ((gemotlaw2_name.f x1008002).bind fun t1025 => (if x3.length < 8796093022208 then (gemotlaw2_made_p.l0 k x0 (x3 ++ [t1025]) (wrap64 (x4 + 1))) else (none))))) else (if x57 = 4 then ((term_Key.f x6).bind fun bt1029 => (if bt1029.2 = 0 then (if (bt1029.1.size : Int) > 600 then ((gemotlaw2_name.f x1008002).bind fun t1031 => (if x3.length < 8796093022208 then (gemotlaw2_made_p.l0 k x0 (x3 ++ [t1031]) (wrap64 (x4 + 1))) else (none))) else (if x3.length < 8796093022208 then (gemotlaw2_made_p.l0 k x0 (x3 ++ [bt1029.1]) (wrap64 (x4 + 1))) else (none))) else ((gemotlaw2_name.f x1008002).bind fun t1038 => (if x3.length < 8796093022208 then (gemotlaw2_made_p.l0 k x0 (x3 ++ [t1038]) (wrap64 (x4 + 1))) else (none))))) else (if x57 = 5 then (gemotlaw2_made_p.j3 k x0 x3 x4 x6 x7 x8 x9 x10 x57 (x57 == 5) x1008000 x1008001 x1008002 x1008003) else (gemotlaw2_made_p.j3 k x0 x3 x4 x6 x7 x8 x9 x10 x57 (x57 == 6) x1008000 x1008001 x1008002 x1008003)))
def gemotlaw2_made_p.j3 : Nat → List (S186) → List ByteArray → Int → ByteArray → ByteArray → ByteArray → ByteArray → Int → Int → Bool → Int → Int → Int → Int → Option (List ByteArray)
  | 0, _, _, _, _, _, _, _, _, _, _, _, _, _, _ => none
  | k + 1, x0, x3, x4, x6, x7, x8, x9, x10, x57, x75, x1008000, x1008001, x1008002, x1008003 => if x75 = true then ((term_Pair.f x6 x7).bind fun bt1042 => (if bt1042.2 = 0 then (if (bt1042.1.size : Int) > 600 then ((gemotlaw2_name.f x1008002).bind fun t1044 => (if x3.length < 8796093022208 then (gemotlaw2_made_p.l0 k x0 (x3 ++ [t1044]) (wrap64 (x4 + 1))) else (none))) else (if x3.length < 8796093022208 then (gemotlaw2_made_p.l0 k x0 (x3 ++ [bt1042.1]) (wrap64 (x4 + 1))) else (none))) else ((gemotlaw2_name.f x1008002).bind fun t1051 => (if x3.length < 8796093022208 then (gemotlaw2_made_p.l0 k x0 (x3 ++ [t1051]) (wrap64 (x4 + 1))) else (none))))) else (if x57 = 7 then ((term_Hash.f x6).bind fun bt1055 => (if bt1055.2 = 0 then (if (bt1055.1.size : Int) > 600 then ((gemotlaw2_name.f x1008002).bind fun t1057 => (if x3.length < 8796093022208 then (gemotlaw2_made_p.l0 k x0 (x3 ++ [t1057]) (wrap64 (x4 + 1))) else (none))) else (if x3.length < 8796093022208 then (gemotlaw2_made_p.l0 k x0 (x3 ++ [bt1055.1]) (wrap64 (x4 + 1))) else (none))) else ((gemotlaw2_name.f x1008002).bind fun t1064 => (if x3.length < 8796093022208 then (gemotlaw2_made_p.l0 k x0 (x3 ++ [t1064]) (wrap64 (x4 + 1))) else (none))))) else (if x57 = 8 then ((term_Seal.f x6 x7 x8).bind fun bt1068 => (if bt1068.2 = 0 then (if (bt1068.1.size : Int) > 600 then ((gemotlaw2_name.f x1008002).bind fun t1070 => (if x3.length < 8796093022208 then (gemotlaw2_made_p.l0 k x0 (x3 ++ [t1070]) (wrap64 (x4 + 1))) else (none))) else (if x3.length < 8796093022208 then (gemotlaw2_made_p.l0 k x0 (x3 ++ [bt1068.1]) (wrap64 (x4 + 1))) else (none))) else ((gemotlaw2_name.f x1008002).bind fun t1077 => (if x3.length < 8796093022208 then (gemotlaw2_made_p.l0 k x0 (x3 ++ [t1077]) (wrap64 (x4 + 1))) else (none))))) else (if x57 = 9 then ((term_Sign.f x6 x7).bind fun bt1081 => (if bt1081.2 = 0 then (if (bt1081.1.size : Int) > 600 then ((gemotlaw2_name.f x1008002).bind fun t1083 => (if x3.length < 8796093022208 then (gemotlaw2_made_p.l0 k x0 (x3 ++ [t1083]) (wrap64 (x4 + 1))) else (none))) else (if x3.length < 8796093022208 then (gemotlaw2_made_p.l0 k x0 (x3 ++ [bt1081.1]) (wrap64 (x4 + 1))) else (none))) else ((gemotlaw2_name.f x1008002).bind fun t1090 => (if x3.length < 8796093022208 then (gemotlaw2_made_p.l0 k x0 (x3 ++ [t1090]) (wrap64 (x4 + 1))) else (none))))) else (if x10 = 0 then (if (x9.size : Int) > 600 then ((gemotlaw2_name.f x1008002).bind fun t1094 => (if x3.length < 8796093022208 then (gemotlaw2_made_p.l0 k x0 (x3 ++ [t1094]) (wrap64 (x4 + 1))) else (none))) else (if x3.length < 8796093022208 then (gemotlaw2_made_p.l0 k x0 (x3 ++ [x9]) (wrap64 (x4 + 1))) else (none))) else ((gemotlaw2_name.f x1008002).bind fun t1101 => (if x3.length < 8796093022208 then (gemotlaw2_made_p.l0 k x0 (x3 ++ [t1101]) (wrap64 (x4 + 1))) else (none)))))))
end
def gemotlaw2_made_p.f (k : Nat) (l0 : List (S186)) : Option (List ByteArray) := (term_Gen.f).bind fun t1001 => ((gemotlaw2_name.f 1).bind fun t1002 => (gemotlaw2_made_p.l0 k l0 (([t1001, t1002] : List ByteArray)) 0))
theorem gemotlaw2_made_p.mono_l : ∀ k, (∀ y0 y1 y2, LeO (gemotlaw2_made_p.l0 k y0 y1 y2) (gemotlaw2_made_p.l0 (k + 1) y0 y1 y2)) ∧ (∀ y0 y1 y2 y3, LeO (gemotlaw2_made_p.j1 k y0 y1 y2 y3) (gemotlaw2_made_p.j1 (k + 1) y0 y1 y2 y3)) ∧ (∀ y0 y1 y2 y3 y4 y5 y6 y7 y8 y9 y10 y11 y12 y13, LeO (gemotlaw2_made_p.j2 k y0 y1 y2 y3 y4 y5 y6 y7 y8 y9 y10 y11 y12 y13) (gemotlaw2_made_p.j2 (k + 1) y0 y1 y2 y3 y4 y5 y6 y7 y8 y9 y10 y11 y12 y13)) ∧ (∀ y0 y1 y2 y3 y4 y5 y6 y7 y8 y9 y10 y11 y12 y13, LeO (gemotlaw2_made_p.j3 k y0 y1 y2 y3 y4 y5 y6 y7 y8 y9 y10 y11 y12 y13) (gemotlaw2_made_p.j3 (k + 1) y0 y1 y2 y3 y4 y5 y6 y7 y8 y9 y10 y11 y12 y13))
  | 0 => ⟨fun _ _ _ r h => by simp [gemotlaw2_made_p.l0] at h, fun _ _ _ _ r h => by simp [gemotlaw2_made_p.j1] at h, fun _ _ _ _ _ _ _ _ _ _ _ _ _ _ r h => by simp [gemotlaw2_made_p.j2] at h, fun _ _ _ _ _ _ _ _ _ _ _ _ _ _ r h => by simp [gemotlaw2_made_p.j3] at h⟩
  | k + 1 => by
    obtain ⟨ih0, ih1, ih2, ih3⟩ := gemotlaw2_made_p.mono_l k; refine ⟨?_, ?_, ?_, ?_⟩
    · intro y0 y1 y2; unfold gemotlaw2_made_p.l0
      repeat' first
      | (with_reducible exact ih0 _ _ _)
      | (with_reducible exact ih1 _ _ _ _)
      | (with_reducible exact ih2 _ _ _ _ _ _ _ _ _ _ _ _ _ _)
      | (with_reducible exact ih3 _ _ _ _ _ _ _ _ _ _ _ _ _ _)
      | (with_reducible exact LeO.refl _)
      | (with_reducible exact LeO.none _)
      | (with_reducible refine LeO.ite ?_ ?_)
      | (with_reducible refine LeO.bind ?_ (fun _ => ?_))
      | exact ih0 _ _ _
      | exact ih1 _ _ _ _
      | exact ih2 _ _ _ _ _ _ _ _ _ _ _ _ _ _
      | exact ih3 _ _ _ _ _ _ _ _ _ _ _ _ _ _
      | exact LeO.none _
      | refine LeO.ite ?_ ?_
      | refine LeO.bind ?_ (fun _ => ?_)
    · intro y0 y1 y2 y3; unfold gemotlaw2_made_p.j1
      repeat' first
      | (with_reducible exact ih0 _ _ _)
      | (with_reducible exact ih1 _ _ _ _)
      | (with_reducible exact ih2 _ _ _ _ _ _ _ _ _ _ _ _ _ _)
      | (with_reducible exact ih3 _ _ _ _ _ _ _ _ _ _ _ _ _ _)
      | (with_reducible exact LeO.refl _)
      | (with_reducible exact LeO.none _)
      | (with_reducible refine LeO.ite ?_ ?_)
      | (with_reducible refine LeO.bind ?_ (fun _ => ?_))
      | exact ih0 _ _ _
      | exact ih1 _ _ _ _
      | exact ih2 _ _ _ _ _ _ _ _ _ _ _ _ _ _
      | exact ih3 _ _ _ _ _ _ _ _ _ _ _ _ _ _
      | exact LeO.none _
      | refine LeO.ite ?_ ?_
      | refine LeO.bind ?_ (fun _ => ?_)
    · intro y0 y1 y2 y3 y4 y5 y6 y7 y8 y9 y10 y11 y12 y13; unfold gemotlaw2_made_p.j2
      repeat' first
      | (with_reducible exact ih0 _ _ _)
      | (with_reducible exact ih1 _ _ _ _)
      | (with_reducible exact ih2 _ _ _ _ _ _ _ _ _ _ _ _ _ _)
      | (with_reducible exact ih3 _ _ _ _ _ _ _ _ _ _ _ _ _ _)
      | (with_reducible exact LeO.refl _)
      | (with_reducible exact LeO.none _)
      | (with_reducible refine LeO.ite ?_ ?_)
      | (with_reducible refine LeO.bind ?_ (fun _ => ?_))
      | exact ih0 _ _ _
      | exact ih1 _ _ _ _
      | exact ih2 _ _ _ _ _ _ _ _ _ _ _ _ _ _
      | exact ih3 _ _ _ _ _ _ _ _ _ _ _ _ _ _
      | exact LeO.none _
      | refine LeO.ite ?_ ?_
      | refine LeO.bind ?_ (fun _ => ?_)
    · intro y0 y1 y2 y3 y4 y5 y6 y7 y8 y9 y10 y11 y12 y13; unfold gemotlaw2_made_p.j3
      repeat' first
      | (with_reducible exact ih0 _ _ _)
      | (with_reducible exact ih1 _ _ _ _)
      | (with_reducible exact ih2 _ _ _ _ _ _ _ _ _ _ _ _ _ _)
      | (with_reducible exact ih3 _ _ _ _ _ _ _ _ _ _ _ _ _ _)
      | (with_reducible exact LeO.refl _)
      | (with_reducible exact LeO.none _)
      | (with_reducible refine LeO.ite ?_ ?_)
      | (with_reducible refine LeO.bind ?_ (fun _ => ?_))
      | exact ih0 _ _ _
      | exact ih1 _ _ _ _
      | exact ih2 _ _ _ _ _ _ _ _ _ _ _ _ _ _
      | exact ih3 _ _ _ _ _ _ _ _ _ _ _ _ _ _
      | exact LeO.none _
      | refine LeO.ite ?_ ?_
      | refine LeO.bind ?_ (fun _ => ?_)
theorem gemotlaw2_made_p.mono : ∀ a0 k, LeO (gemotlaw2_made_p.f k a0) (gemotlaw2_made_p.f (k + 1) a0) := by
  intro a0 k; obtain ⟨ih0, ih1, ih2, ih3⟩ := gemotlaw2_made_p.mono_l k; unfold gemotlaw2_made_p.f
  repeat' first
      | (with_reducible exact ih0 _ _ _)
      | (with_reducible exact ih1 _ _ _ _)
      | (with_reducible exact ih2 _ _ _ _ _ _ _ _ _ _ _ _ _ _)
      | (with_reducible exact ih3 _ _ _ _ _ _ _ _ _ _ _ _ _ _)
      | (with_reducible exact LeO.refl _)
      | (with_reducible exact LeO.none _)
      | (with_reducible refine LeO.ite ?_ ?_)
      | (with_reducible refine LeO.bind ?_ (fun _ => ?_))
      | exact ih0 _ _ _
      | exact ih1 _ _ _ _
      | exact ih2 _ _ _ _ _ _ _ _ _ _ _ _ _ _
      | exact ih3 _ _ _ _ _ _ _ _ _ _ _ _ _ _
      | exact LeO.none _
      | refine LeO.ite ?_ ?_
      | refine LeO.bind ?_ (fun _ => ?_)
set_option maxHeartbeats 8000000 in
set_option maxRecDepth 100000 in
theorem gemotlaw2_made_p.calls (k : Nat) (A0 : Option Addr) (c0 : Nat) (l0 : List (S186)) (r : List ByteArray) (w : World) (hr0 : Kd.C k186 w A0 l0.length l0) (hc0 : l0.length ≤ c0) (h : gemotlaw2_made_p.f k l0 = some r) :
    Calls Try.prog 71 #[.slice A0 l0.length c0] w fun e w' => ∃ v0_ : Value, e = .returned (v0_) ∧ Kd.R Kd.string 48 w' w.heap.size (fun _ => True) v0_ r ∧ Below w.heap.size w w' := by
  have hu186 := Try.underlying186; have HR0 := Aside0.mk hr0
  have HC0 := Aside0.mk hc0
  clear hr0 hc0; have HB := Aside0.mk (Below.refl w.heap.size w)
  have H : ((term_Gen.f).bind fun t1001 => ((gemotlaw2_name.f 1).bind fun t1002 => (gemotlaw2_made_p.l0 k l0 (([t1001, t1002] : List ByteArray)) 0))) = some r := h
  clear h; replace H := Option.bind_eq_some_iff.mp H
  obtain ⟨t1001, A20, H⟩ := H; replace H : ((gemotlaw2_name.f 1).bind fun t1002 => (gemotlaw2_made_p.l0 k l0 (([t1001, t1002] : List ByteArray)) 0)) = some r := H
  have A2 := Aside0.mk A20
  clear A20; replace H := Option.bind_eq_some_iff.mp H
  obtain ⟨t1002, A30, H⟩ := H; replace H : (gemotlaw2_made_p.l0 k l0 (([t1001, t1002] : List ByteArray)) 0) = some r := H
  have A3 := Aside0.mk A30
  clear A30; obtain ⟨y1003, hy1003⟩ : ∃ y_ : List ByteArray, y_ = (([t1001, t1002] : List ByteArray)) := ⟨_, rfl⟩
  replace H : (gemotlaw2_made_p.l0 k l0 y1003 0) = some r := by first | (rw [hy1003]; with_reducible exact H) | (have H2_ := (Option.bind_some _ _).symm.trans H; rw [hy1003]; with_reducible exact H2_) | (have H2_ := (Option.bind_some _ _).symm.trans H; with_reducible exact H2_) | with_reducible exact H | (rw [hy1003]; exact H) | exact H
  have Ny1003 := Aside0.mk hy1003
  clear hy1003; have H' := Aside0.mk H
  clear H; go_enter Try.func71, Try.ntmps71
  go_wp2_with (first | ((with_reducible refine gate_callee (f := 79) rfl ?_); refine goesL_ (some 11) rfl rfl Try.func79 (by kernel_rfl) rfl #[] rfl (by simp only [List.map_toArray, List.map_cons, List.map_nil] <;> rfl) ?_; (with_reducible refine (term_Gen.calls  t1001 _ A2.out).mono ?_); rintro e w' ⟨rfl, ⟨nd, rfl⟩⟩; refine ⟨_, rfl, ?_⟩) | ((with_reducible refine gate_callee (f := 122) rfl ?_); refine goesL_ (some 12) rfl rfl Try.func122 (by kernel_rfl) rfl #[.int .i64 1] rfl (by simp only [List.map_toArray, List.map_cons, List.map_nil] <;> rfl) ?_; (with_reducible refine (gemotlaw2_name.calls 1 t1002 _ A3.out).mono ?_); rintro e w4 ⟨rfl, hb⟩; refine ⟨_, rfl, ?_⟩; have n0_ := Aside0.mk (below_step (by repeat with_reducible first | exact HB.out | apply below_alloc | apply pw_below_drewN | apply below_drew1) hb); clear HB; have HB := n0_; clear n0_; (try clear hb)) | ((with_reducible refine gate_dst (N := 13) rfl ?_); (try (refine gate_guard (by rfl) ?_; dsimp only)); refine Kd.R_lit Kd.string _ 48 ?hg (N := 13) ?hd (xs := ([t1001, t1002] : List ByteArray)) (inner := [.string t1001, .string t1002]) (ok := fun _ => True) (okp := fun _ => True) ?hr ?hp (fun _ hk => hk) trivial (Below.refl _ _) (Nat.le_refl _) (by simp) ?_; (case hd => rfl); (case hg => rfl); (case hr => first | (go_simp; done) | (go_simp; rfl)); (case hp => exact (Reps.one (show Kd.M Kd.string _ _ _ t1001 [.string t1001] from rfl) (Reps.one (show Kd.M Kd.string _ _ _ t1002 [.string t1002] from rfl) (Reps.none _ _)))); intro v1004 w5 ho6 hb hg_ hnew_; clear hg_ hnew_; (first | rw [← Ny1003.out] at ho6 | (simp only [Int.reduceToNat] at ho6; rw [← Ny1003.out] at ho6)); have n0_ := Aside0.mk (Kd.R_lower ho6 (below_size (by repeat with_reducible first | exact HB.out | apply below_alloc | apply pw_below_drewN | apply below_drew1))); have n1_ := Aside0.mk (below_step (by repeat with_reducible first | exact HB.out | apply below_alloc | apply pw_below_drewN | apply below_drew1) hb); clear HB; have HO1005 := n0_; have HB := n1_; clear n0_ n1_; clear hb ho6))
  go_loopg [3, 4] k (fun kq v3 v4 w' => ∃ (x3_1 : List ByteArray) (x4_1 : Int), v4 = .int .i64 x4_1 ∧ Aside0 (gemotlaw2_made_p.l0 kq l0 x3_1 x4_1 = some r) ∧ Aside0 (kq ≤ k) ∧ Aside0 (Kd.R Kd.string 48 w' w.heap.size (fun _ => True) v3 x3_1) ∧ Aside0 (Below w.heap.size w w'))
  case atStart => exact ⟨(y1003), (0), (by first | rfl | (simp; done) | (simp [*]; done)), H', ⟨Nat.le_refl _⟩, ⟨by (with_reducible repeat (first | apply Kd.R_alloc | apply Kd.R_drewN | apply Kd.R_drew)); exact HO1005.out⟩, ⟨by repeat (first | (with_reducible first | exact HB.out | apply below_alloc | apply pw_below_drewN | apply below_drew1) | exact HB.out)⟩⟩
  case round =>
    clear H'; try clear c1
    try clear p2
    obtain ⟨x3_1, x4_1, rfl, HA, HK1, HO_3, HB⟩ := hrel; cases gk with
    | zero => exact absurd HA.out (by simp [gemotlaw2_made_p.l0])
    | succ k1 =>
      have H := HA.out; clear HA; simp only [gemotlaw2_made_p.l0] at H; have HC7 := Aside0.mk H
      clear H; go_upto_region 3 with (fail)
      go_cut [21] (fun v21 wc => ∃ (kq : Nat) (x21_6 : Bool), v21 = .bool x21_6 ∧ Aside0 (gemotlaw2_made_p.j1 kq l0 x3_1 x4_1 x21_6 = some r) ∧ Aside0 (kq ≤ k1) ∧ Aside0 (Kd.R Kd.string 48 wc w.heap.size (fun _ => True) u3 x3_1) ∧ Aside0 (Below w.heap.size w wc))
      case first =>
        have H := HC7.out; clear HC7; by_cases c8 : x4_1 < (l0.length : Int)
        · rw [if_pos c8] at H
          have c8b0 : decide (x4_1 < (l0.length : Int)) = true := decide_eq_true c8
          clear c8; (first | rw [c8b0] | (simp only [i64_w, i32_w]; rw [c8b0]) | skip); have H' := Aside0.mk H
          clear H; go_wp2; go_meet
          case rel => exact ⟨_, (decide (x4_1 < 40)), (by first | rfl | (simp; done) | (simp [*]; done)), H', ⟨by have := HK1.out; first | omega | exact Nat.le_refl _⟩, ⟨by (with_reducible repeat (first | apply Kd.R_alloc | apply Kd.R_drewN | apply Kd.R_drew)); exact HO_3.out⟩, ⟨by repeat (first | (with_reducible first | exact HB.out | apply below_alloc | apply pw_below_drewN | apply below_drew1) | exact HB.out)⟩⟩
        · rw [if_neg c8] at H
          have c8b0 : decide (x4_1 < (l0.length : Int)) = false := decide_eq_false c8
          clear c8; (first | rw [c8b0] | (simp only [i64_w, i32_w]; rw [c8b0]) | skip); have H' := Aside0.mk H
          clear H; go_wp2; go_meet
          case rel => exact ⟨_, (false), (by first | rfl | (simp; done) | (simp [*]; done)), H', ⟨by have := HK1.out; first | omega | exact Nat.le_refl _⟩, ⟨by (with_reducible repeat (first | apply Kd.R_alloc | apply Kd.R_drewN | apply Kd.R_drew)); exact HO_3.out⟩, ⟨by repeat (first | (with_reducible first | exact HB.out | apply below_alloc | apply pw_below_drewN | apply below_drew1) | exact HB.out)⟩⟩
      case rest =>
        clear HC7; try clear c1
        try clear p2
        try clear c7
        try clear c8
        try clear c8b0
        try clear p2
        obtain ⟨kq, x21_6, rfl, HA, HJ6, HO_3, HB⟩ := hcut; cases kq with
        | zero => exact absurd HA.out (by simp [gemotlaw2_made_p.j1])
        | succ kj6 =>
          have H := HA.out; clear HA; simp only [gemotlaw2_made_p.j1] at H; by_cases c9 : x21_6 = true
          · subst c9; have H1 : (if 0 ≤ x4_1 then (if x4_1 < (l0.length : Int) then ((gemotlaw2_pick.f ((rd_T186 l0 x4_1).f1) (x3_1.length : Int)).bind fun t1008 => (if 0 ≤ t1008 then (if t1008 < (x3_1.length : Int) then ((gemotlaw2_pick.f ((rd_T186 l0 x4_1).f2) (x3_1.length : Int)).bind fun t1010 => (if 0 ≤ t1010 then (if t1010 < (x3_1.length : Int) then ((gemotlaw2_pick.f ((rd_T186 l0 x4_1).f3) (x3_1.length : Int)).bind fun t1012 => (if 0 ≤ t1012 then (if t1012 < (x3_1.length : Int) then ((gemotlaw2_name.f ((rd_T186 l0 x4_1).f1)).bind fun t1014 => ((gemotlaw2_pick.f ((rd_T186 l0 x4_1).f0) 10).bind fun t1015 => (if t1015 = 1 then (gemotlaw2_made_p.j2 kj6 l0 x3_1 x4_1 (rdOf ByteArray.empty x3_1 t1008) (rdOf ByteArray.empty x3_1 t1010) (rdOf ByteArray.empty x3_1 t1012) t1014 0 t1015 (t1015 == 1) ((rd_T186 l0 x4_1).f0) ((rd_T186 l0 x4_1).f1) ((rd_T186 l0 x4_1).f2) ((rd_T186 l0 x4_1).f3)) else (if t1015 = 2 then (gemotlaw2_made_p.j2 kj6 l0 x3_1 x4_1 (rdOf ByteArray.empty x3_1 t1008) (rdOf ByteArray.empty x3_1 t1010) (rdOf ByteArray.empty x3_1 t1012) t1014 0 t1015 (t1015 == 2) ((rd_T186 l0 x4_1).f0) ((rd_T186 l0 x4_1).f1) ((rd_T186 l0 x4_1).f2) ((rd_T186 l0 x4_1).f3)) else (gemotlaw2_made_p.j2 kj6 l0 x3_1 x4_1 (rdOf ByteArray.empty x3_1 t1008) (rdOf ByteArray.empty x3_1 t1010) (rdOf ByteArray.empty x3_1 t1012) t1014 0 t1015 (t1015 == 3) ((rd_T186 l0 x4_1).f0) ((rd_T186 l0 x4_1).f1) ((rd_T186 l0 x4_1).f2) ((rd_T186 l0 x4_1).f3)))))) else (none)) else (none))) else (none)) else (none))) else (none)) else (none))) else (none)) else (none)) = some r := by rw [if_pos rfl] at H; exact H
            clear H; have H := H1; clear H1; by_cases c10 : 0 ≤ x4_1
            · rw [if_pos c10] at H
              have c10b0 : decide (0 ≤ x4_1) = true := decide_eq_true c10
              clear c10; by_cases c11 : x4_1 < (l0.length : Int)
              · rw [if_pos c11] at H
                have c11b0 : decide (x4_1 < (l0.length : Int)) = true := decide_eq_true c11
                clear c11; replace H := Option.bind_eq_some_iff.mp H
                obtain ⟨t1008, A120, H⟩ := H; replace H : (if 0 ≤ t1008 then (if t1008 < (x3_1.length : Int) then ((gemotlaw2_pick.f ((rd_T186 l0 x4_1).f2) (x3_1.length : Int)).bind fun t1010 => (if 0 ≤ t1010 then (if t1010 < (x3_1.length : Int) then ((gemotlaw2_pick.f ((rd_T186 l0 x4_1).f3) (x3_1.length : Int)).bind fun t1012 => (if 0 ≤ t1012 then (if t1012 < (x3_1.length : Int) then ((gemotlaw2_name.f ((rd_T186 l0 x4_1).f1)).bind fun t1014 => ((gemotlaw2_pick.f ((rd_T186 l0 x4_1).f0) 10).bind fun t1015 => (if t1015 = 1 then (gemotlaw2_made_p.j2 kj6 l0 x3_1 x4_1 (rdOf ByteArray.empty x3_1 t1008) (rdOf ByteArray.empty x3_1 t1010) (rdOf ByteArray.empty x3_1 t1012) t1014 0 t1015 (t1015 == 1) ((rd_T186 l0 x4_1).f0) ((rd_T186 l0 x4_1).f1) ((rd_T186 l0 x4_1).f2) ((rd_T186 l0 x4_1).f3)) else (if t1015 = 2 then (gemotlaw2_made_p.j2 kj6 l0 x3_1 x4_1 (rdOf ByteArray.empty x3_1 t1008) (rdOf ByteArray.empty x3_1 t1010) (rdOf ByteArray.empty x3_1 t1012) t1014 0 t1015 (t1015 == 2) ((rd_T186 l0 x4_1).f0) ((rd_T186 l0 x4_1).f1) ((rd_T186 l0 x4_1).f2) ((rd_T186 l0 x4_1).f3)) else (gemotlaw2_made_p.j2 kj6 l0 x3_1 x4_1 (rdOf ByteArray.empty x3_1 t1008) (rdOf ByteArray.empty x3_1 t1010) (rdOf ByteArray.empty x3_1 t1012) t1014 0 t1015 (t1015 == 3) ((rd_T186 l0 x4_1).f0) ((rd_T186 l0 x4_1).f1) ((rd_T186 l0 x4_1).f2) ((rd_T186 l0 x4_1).f3)))))) else (none)) else (none))) else (none)) else (none))) else (none)) else (none)) = some r := H
                have A12 := Aside0.mk A120
                clear A120; by_cases c13 : 0 ≤ t1008
                · rw [if_pos c13] at H
                  have c13b0 : decide (0 ≤ t1008) = true := decide_eq_true c13
                  clear c13; by_cases c14 : t1008 < (x3_1.length : Int)
                  · rw [if_pos c14] at H
                    have c14b0 : decide (t1008 < (x3_1.length : Int)) = true := decide_eq_true c14
                    clear c14; replace H := Option.bind_eq_some_iff.mp H
                    obtain ⟨t1010, A150, H⟩ := H; replace H : (if 0 ≤ t1010 then (if t1010 < (x3_1.length : Int) then ((gemotlaw2_pick.f ((rd_T186 l0 x4_1).f3) (x3_1.length : Int)).bind fun t1012 => (if 0 ≤ t1012 then (if t1012 < (x3_1.length : Int) then ((gemotlaw2_name.f ((rd_T186 l0 x4_1).f1)).bind fun t1014 => ((gemotlaw2_pick.f ((rd_T186 l0 x4_1).f0) 10).bind fun t1015 => (if t1015 = 1 then (gemotlaw2_made_p.j2 kj6 l0 x3_1 x4_1 (rdOf ByteArray.empty x3_1 t1008) (rdOf ByteArray.empty x3_1 t1010) (rdOf ByteArray.empty x3_1 t1012) t1014 0 t1015 (t1015 == 1) ((rd_T186 l0 x4_1).f0) ((rd_T186 l0 x4_1).f1) ((rd_T186 l0 x4_1).f2) ((rd_T186 l0 x4_1).f3)) else (if t1015 = 2 then (gemotlaw2_made_p.j2 kj6 l0 x3_1 x4_1 (rdOf ByteArray.empty x3_1 t1008) (rdOf ByteArray.empty x3_1 t1010) (rdOf ByteArray.empty x3_1 t1012) t1014 0 t1015 (t1015 == 2) ((rd_T186 l0 x4_1).f0) ((rd_T186 l0 x4_1).f1) ((rd_T186 l0 x4_1).f2) ((rd_T186 l0 x4_1).f3)) else (gemotlaw2_made_p.j2 kj6 l0 x3_1 x4_1 (rdOf ByteArray.empty x3_1 t1008) (rdOf ByteArray.empty x3_1 t1010) (rdOf ByteArray.empty x3_1 t1012) t1014 0 t1015 (t1015 == 3) ((rd_T186 l0 x4_1).f0) ((rd_T186 l0 x4_1).f1) ((rd_T186 l0 x4_1).f2) ((rd_T186 l0 x4_1).f3)))))) else (none)) else (none))) else (none)) else (none)) = some r := H
                    have A15 := Aside0.mk A150
                    clear A150; by_cases c16 : 0 ≤ t1010
                    · rw [if_pos c16] at H
                      have c16b0 : decide (0 ≤ t1010) = true := decide_eq_true c16
                      clear c16; by_cases c17 : t1010 < (x3_1.length : Int)
                      · rw [if_pos c17] at H
                        have c17b0 : decide (t1010 < (x3_1.length : Int)) = true := decide_eq_true c17
                        clear c17; replace H := Option.bind_eq_some_iff.mp H
                        obtain ⟨t1012, A180, H⟩ := H; replace H : (if 0 ≤ t1012 then (if t1012 < (x3_1.length : Int) then ((gemotlaw2_name.f ((rd_T186 l0 x4_1).f1)).bind fun t1014 => ((gemotlaw2_pick.f ((rd_T186 l0 x4_1).f0) 10).bind fun t1015 => (if t1015 = 1 then (gemotlaw2_made_p.j2 kj6 l0 x3_1 x4_1 (rdOf ByteArray.empty x3_1 t1008) (rdOf ByteArray.empty x3_1 t1010) (rdOf ByteArray.empty x3_1 t1012) t1014 0 t1015 (t1015 == 1) ((rd_T186 l0 x4_1).f0) ((rd_T186 l0 x4_1).f1) ((rd_T186 l0 x4_1).f2) ((rd_T186 l0 x4_1).f3)) else (if t1015 = 2 then (gemotlaw2_made_p.j2 kj6 l0 x3_1 x4_1 (rdOf ByteArray.empty x3_1 t1008) (rdOf ByteArray.empty x3_1 t1010) (rdOf ByteArray.empty x3_1 t1012) t1014 0 t1015 (t1015 == 2) ((rd_T186 l0 x4_1).f0) ((rd_T186 l0 x4_1).f1) ((rd_T186 l0 x4_1).f2) ((rd_T186 l0 x4_1).f3)) else (gemotlaw2_made_p.j2 kj6 l0 x3_1 x4_1 (rdOf ByteArray.empty x3_1 t1008) (rdOf ByteArray.empty x3_1 t1010) (rdOf ByteArray.empty x3_1 t1012) t1014 0 t1015 (t1015 == 3) ((rd_T186 l0 x4_1).f0) ((rd_T186 l0 x4_1).f1) ((rd_T186 l0 x4_1).f2) ((rd_T186 l0 x4_1).f3)))))) else (none)) else (none)) = some r := H
                        have A18 := Aside0.mk A180
                        clear A180; by_cases c19 : 0 ≤ t1012
                        · rw [if_pos c19] at H
                          have c19b0 : decide (0 ≤ t1012) = true := decide_eq_true c19
                          clear c19; by_cases c20 : t1012 < (x3_1.length : Int)
                          · rw [if_pos c20] at H
                            have c20b0 : decide (t1012 < (x3_1.length : Int)) = true := decide_eq_true c20
                            clear c20; replace H := Option.bind_eq_some_iff.mp H
                            obtain ⟨t1014, A210, H⟩ := H; replace H : ((gemotlaw2_pick.f ((rd_T186 l0 x4_1).f0) 10).bind fun t1015 => (if t1015 = 1 then (gemotlaw2_made_p.j2 kj6 l0 x3_1 x4_1 (rdOf ByteArray.empty x3_1 t1008) (rdOf ByteArray.empty x3_1 t1010) (rdOf ByteArray.empty x3_1 t1012) t1014 0 t1015 (t1015 == 1) ((rd_T186 l0 x4_1).f0) ((rd_T186 l0 x4_1).f1) ((rd_T186 l0 x4_1).f2) ((rd_T186 l0 x4_1).f3)) else (if t1015 = 2 then (gemotlaw2_made_p.j2 kj6 l0 x3_1 x4_1 (rdOf ByteArray.empty x3_1 t1008) (rdOf ByteArray.empty x3_1 t1010) (rdOf ByteArray.empty x3_1 t1012) t1014 0 t1015 (t1015 == 2) ((rd_T186 l0 x4_1).f0) ((rd_T186 l0 x4_1).f1) ((rd_T186 l0 x4_1).f2) ((rd_T186 l0 x4_1).f3)) else (gemotlaw2_made_p.j2 kj6 l0 x3_1 x4_1 (rdOf ByteArray.empty x3_1 t1008) (rdOf ByteArray.empty x3_1 t1010) (rdOf ByteArray.empty x3_1 t1012) t1014 0 t1015 (t1015 == 3) ((rd_T186 l0 x4_1).f0) ((rd_T186 l0 x4_1).f1) ((rd_T186 l0 x4_1).f2) ((rd_T186 l0 x4_1).f3))))) = some r := H
                            have A21 := Aside0.mk A210
                            clear A210; replace H := Option.bind_eq_some_iff.mp H
                            obtain ⟨t1015, A220, H⟩ := H; replace H : (if t1015 = 1 then (gemotlaw2_made_p.j2 kj6 l0 x3_1 x4_1 (rdOf ByteArray.empty x3_1 t1008) (rdOf ByteArray.empty x3_1 t1010) (rdOf ByteArray.empty x3_1 t1012) t1014 0 t1015 (t1015 == 1) ((rd_T186 l0 x4_1).f0) ((rd_T186 l0 x4_1).f1) ((rd_T186 l0 x4_1).f2) ((rd_T186 l0 x4_1).f3)) else (if t1015 = 2 then (gemotlaw2_made_p.j2 kj6 l0 x3_1 x4_1 (rdOf ByteArray.empty x3_1 t1008) (rdOf ByteArray.empty x3_1 t1010) (rdOf ByteArray.empty x3_1 t1012) t1014 0 t1015 (t1015 == 2) ((rd_T186 l0 x4_1).f0) ((rd_T186 l0 x4_1).f1) ((rd_T186 l0 x4_1).f2) ((rd_T186 l0 x4_1).f3)) else (gemotlaw2_made_p.j2 kj6 l0 x3_1 x4_1 (rdOf ByteArray.empty x3_1 t1008) (rdOf ByteArray.empty x3_1 t1010) (rdOf ByteArray.empty x3_1 t1012) t1014 0 t1015 (t1015 == 3) ((rd_T186 l0 x4_1).f0) ((rd_T186 l0 x4_1).f1) ((rd_T186 l0 x4_1).f2) ((rd_T186 l0 x4_1).f3)))) = some r := H
                            have A22 := Aside0.mk A220
                            clear A220; have HC23 := Aside0.mk H
                            clear H; have p1006 : 0 ≤ (x4_1 : Int) := of_decide_eq_true (by first | (with_reducible assumption) | assumption)
                            have q1006 : x4_1 < (l0.length : Int) := of_decide_eq_true (by first | (with_reducible assumption) | assumption)
                            obtain ⟨ad1006, e1006, hx1006_0, hx1006_1, hx1006_2, hx1006_3⟩ := at_T186 HR0.out x4_1 p1006 q1006
                            cases e1006
                            replace hx1006_0 := (HB.out.cell (World.block_lt_of_cell? w _ hx1006_0)).trans hx1006_0
                            replace hx1006_1 := (HB.out.cell (World.block_lt_of_cell? w _ hx1006_1)).trans hx1006_1
                            replace hx1006_2 := (HB.out.cell (World.block_lt_of_cell? w _ hx1006_2)).trans hx1006_2
                            replace hx1006_3 := (HB.out.cell (World.block_lt_of_cell? w _ hx1006_3)).trans hx1006_3
                            replace p1006 := eq_true p1006
                            replace q1006 := eq_true q1006
                            go_upto_if 58 with (first | ((with_reducible refine gate_dst (N := 5) rfl ?_); (try (refine gate_guard (by rfl) ?_; dsimp only)); refine box_event ?hg (N := 5) ?hd (cs := #[.int .i64 0, .int .i64 0, .int .i64 0, .int .i64 0]) (t := 186) ?hr ?_; (case hd => rfl); (case hg => rfl); (case hr => first | (go_simp; done) | (go_simp; rfl)); intro gb1007 hg w24 hbox hb; have n0_ := Aside0.mk (Kd.R_below (by (with_reducible repeat (first | apply Kd.R_alloc | apply Kd.R_drewN | apply Kd.R_drew)); exact HO_3.out) hb); have n1_ := Aside0.mk (below_step (by repeat with_reducible first | exact HB.out | apply below_alloc | apply pw_below_drewN | apply below_drew1) hb); have n2_ := Aside0.mk (hbox); have n3_ := Aside0.mk ((by rw [hg]; exact (below_size (by repeat with_reducible first | exact HB.out | apply below_alloc | apply pw_below_drewN | apply below_drew1)) : w.heap.size ≤ gb1007)); have n4_ := Aside0.mk ((by rw [hg]; exact (below_size (by repeat with_reducible first | exact HB.out | apply below_alloc | apply pw_below_drewN | apply below_drew1)) : w.heap.size ≤ gb1007)); clear HO_3; clear HB; have HO_3 := n0_; have HB := n1_; have BK1007 := n2_; have GW1007 := n3_; have GE1007 := n4_; clear n0_ n1_ n2_ n3_ n4_; clear hb hbox hg; have hcz25_0 : w24.cell? ⟨gb1007, 0, none⟩ = some (.int .i64 0) := (blk_cell BK1007.out 0).trans rfl; have hcz25_1 : w24.cell? ⟨gb1007, 1, none⟩ = some (.int .i64 0) := (blk_cell BK1007.out 1).trans rfl; have hcz25_2 : w24.cell? ⟨gb1007, 2, none⟩ = some (.int .i64 0) := (blk_cell BK1007.out 2).trans rfl; have hcz25_3 : w24.cell? ⟨gb1007, 3, none⟩ = some (.int .i64 0) := (blk_cell BK1007.out 3).trans rfl; have hfz25_0 := blk_frozen BK1007.out 0; have hfz25_1 := blk_frozen BK1007.out 1; have hfz25_2 := blk_frozen BK1007.out 2; have hfz25_3 := blk_frozen BK1007.out 3; obtain ⟨Ao26, co26, eo26⟩ := Kd.R_slice HO_3.out; subst eo26) | ((with_reducible refine gate_callee (f := 72) rfl ?_); refine goesL_ (some 33) rfl rfl Try.func72 (by kernel_rfl) rfl #[.int .i64 ((rd_T186 l0 x4_1).f1), .int .i64 (x3_1.length : Int)] rfl (by simp only [List.map_toArray, List.map_cons, List.map_nil] <;> rfl) ?_; (with_reducible refine (gemotlaw2_pick.calls ((rd_T186 l0 x4_1).f1) (x3_1.length : Int) t1008 _ A12.out).mono ?_); rintro e w' ⟨rfl, ⟨nd, rfl⟩⟩; refine ⟨_, rfl, ?_⟩; have p1009 : 0 ≤ (t1008 : Int) := of_decide_eq_true (by assumption); have q1009 : t1008 < (x3_1.length : Int) := of_decide_eq_true (by assumption); obtain ⟨ad1009, e1009, hx1009_0⟩ := Kd.at_string (Kd.R_reads' HO_3.out).2.2 t1008 p1009 q1009; cases e1009; have hn1009_0 : ad1009.block ≠ gb1007 := Kd.own_blk (Kd.R_ne HO_3.out BK1007.out (by decide)); have hn1009_1 : ad1009.block ≠ gb1007 := Kd.own_blk (Kd.R_ne HO_3.out BK1007.out (by decide)); have hn1009_2 : ad1009.block ≠ gb1007 := Kd.own_blk (Kd.R_ne HO_3.out BK1007.out (by decide)); have hn1009_3 : ad1009.block ≠ gb1007 := Kd.own_blk (Kd.R_ne HO_3.out BK1007.out (by decide)); replace hx1009_0 := (cell_far (p := ⟨gb1007, 0, none⟩) (by first | (rw [add_block]; exact hn1009_0) | (show (Addr.add _ _).block ≠ _; rw [add_block]; exact hn1009_0) | exact hn1009_0) (.int .i64 ((rd_T186 l0 x4_1).f0))).trans hx1009_0; replace hx1009_0 := (cell_far (p := ⟨gb1007, 1, none⟩) (by first | (rw [add_block]; exact hn1009_1) | (show (Addr.add _ _).block ≠ _; rw [add_block]; exact hn1009_1) | exact hn1009_1) (.int .i64 ((rd_T186 l0 x4_1).f1))).trans hx1009_0; replace hx1009_0 := (cell_far (p := ⟨gb1007, 2, none⟩) (by first | (rw [add_block]; exact hn1009_2) | (show (Addr.add _ _).block ≠ _; rw [add_block]; exact hn1009_2) | exact hn1009_2) (.int .i64 ((rd_T186 l0 x4_1).f2))).trans hx1009_0; replace hx1009_0 := (cell_far (p := ⟨gb1007, 3, none⟩) (by first | (rw [add_block]; exact hn1009_3) | (show (Addr.add _ _).block ≠ _; rw [add_block]; exact hn1009_3) | exact hn1009_3) (.int .i64 ((rd_T186 l0 x4_1).f3))).trans hx1009_0; clear hn1009_0; clear hn1009_1; clear hn1009_2; clear hn1009_3; replace p1009 := eq_true p1009; replace q1009 := eq_true q1009) | ((with_reducible refine gate_callee (f := 72) rfl ?_); refine goesL_ (some 41) rfl rfl Try.func72 (by kernel_rfl) rfl #[.int .i64 ((rd_T186 l0 x4_1).f2), .int .i64 (x3_1.length : Int)] rfl (by simp only [List.map_toArray, List.map_cons, List.map_nil] <;> rfl) ?_; (with_reducible refine (gemotlaw2_pick.calls ((rd_T186 l0 x4_1).f2) (x3_1.length : Int) t1010 _ A15.out).mono ?_); rintro e w' ⟨rfl, ⟨nd, rfl⟩⟩; refine ⟨_, rfl, ?_⟩; have p1011 : 0 ≤ (t1010 : Int) := of_decide_eq_true (by assumption); have q1011 : t1010 < (x3_1.length : Int) := of_decide_eq_true (by assumption); obtain ⟨ad1011, e1011, hx1011_0⟩ := Kd.at_string (Kd.R_reads' HO_3.out).2.2 t1010 p1011 q1011; obtain rfl : ad1009 = ad1011 := (by injection e1011); have hn1011_0 : ad1009.block ≠ gb1007 := Kd.own_blk (Kd.R_ne HO_3.out BK1007.out (by decide)); have hn1011_1 : ad1009.block ≠ gb1007 := Kd.own_blk (Kd.R_ne HO_3.out BK1007.out (by decide)); have hn1011_2 : ad1009.block ≠ gb1007 := Kd.own_blk (Kd.R_ne HO_3.out BK1007.out (by decide)); have hn1011_3 : ad1009.block ≠ gb1007 := Kd.own_blk (Kd.R_ne HO_3.out BK1007.out (by decide)); replace hx1011_0 := (cell_far (p := ⟨gb1007, 0, none⟩) (by first | (rw [add_block]; exact hn1011_0) | (show (Addr.add _ _).block ≠ _; rw [add_block]; exact hn1011_0) | exact hn1011_0) (.int .i64 ((rd_T186 l0 x4_1).f0))).trans hx1011_0; replace hx1011_0 := (cell_far (p := ⟨gb1007, 1, none⟩) (by first | (rw [add_block]; exact hn1011_1) | (show (Addr.add _ _).block ≠ _; rw [add_block]; exact hn1011_1) | exact hn1011_1) (.int .i64 ((rd_T186 l0 x4_1).f1))).trans hx1011_0; replace hx1011_0 := (cell_far (p := ⟨gb1007, 2, none⟩) (by first | (rw [add_block]; exact hn1011_2) | (show (Addr.add _ _).block ≠ _; rw [add_block]; exact hn1011_2) | exact hn1011_2) (.int .i64 ((rd_T186 l0 x4_1).f2))).trans hx1011_0; replace hx1011_0 := (cell_far (p := ⟨gb1007, 3, none⟩) (by first | (rw [add_block]; exact hn1011_3) | (show (Addr.add _ _).block ≠ _; rw [add_block]; exact hn1011_3) | exact hn1011_3) (.int .i64 ((rd_T186 l0 x4_1).f3))).trans hx1011_0; clear hn1011_0; clear hn1011_1; clear hn1011_2; clear hn1011_3; replace p1011 := eq_true p1011; replace q1011 := eq_true q1011) | ((with_reducible refine gate_callee (f := 72) rfl ?_); refine goesL_ (some 49) rfl rfl Try.func72 (by kernel_rfl) rfl #[.int .i64 ((rd_T186 l0 x4_1).f3), .int .i64 (x3_1.length : Int)] rfl (by simp only [List.map_toArray, List.map_cons, List.map_nil] <;> rfl) ?_; (with_reducible refine (gemotlaw2_pick.calls ((rd_T186 l0 x4_1).f3) (x3_1.length : Int) t1012 _ A18.out).mono ?_); rintro e w' ⟨rfl, ⟨nd, rfl⟩⟩; refine ⟨_, rfl, ?_⟩; have p1013 : 0 ≤ (t1012 : Int) := of_decide_eq_true (by assumption); have q1013 : t1012 < (x3_1.length : Int) := of_decide_eq_true (by assumption); obtain ⟨ad1013, e1013, hx1013_0⟩ := Kd.at_string (Kd.R_reads' HO_3.out).2.2 t1012 p1013 q1013; obtain rfl : ad1009 = ad1013 := (by injection e1013); have hn1013_0 : ad1009.block ≠ gb1007 := Kd.own_blk (Kd.R_ne HO_3.out BK1007.out (by decide)); have hn1013_1 : ad1009.block ≠ gb1007 := Kd.own_blk (Kd.R_ne HO_3.out BK1007.out (by decide)); have hn1013_2 : ad1009.block ≠ gb1007 := Kd.own_blk (Kd.R_ne HO_3.out BK1007.out (by decide)); have hn1013_3 : ad1009.block ≠ gb1007 := Kd.own_blk (Kd.R_ne HO_3.out BK1007.out (by decide)); replace hx1013_0 := (cell_far (p := ⟨gb1007, 0, none⟩) (by first | (rw [add_block]; exact hn1013_0) | (show (Addr.add _ _).block ≠ _; rw [add_block]; exact hn1013_0) | exact hn1013_0) (.int .i64 ((rd_T186 l0 x4_1).f0))).trans hx1013_0; replace hx1013_0 := (cell_far (p := ⟨gb1007, 1, none⟩) (by first | (rw [add_block]; exact hn1013_1) | (show (Addr.add _ _).block ≠ _; rw [add_block]; exact hn1013_1) | exact hn1013_1) (.int .i64 ((rd_T186 l0 x4_1).f1))).trans hx1013_0; replace hx1013_0 := (cell_far (p := ⟨gb1007, 2, none⟩) (by first | (rw [add_block]; exact hn1013_2) | (show (Addr.add _ _).block ≠ _; rw [add_block]; exact hn1013_2) | exact hn1013_2) (.int .i64 ((rd_T186 l0 x4_1).f2))).trans hx1013_0; replace hx1013_0 := (cell_far (p := ⟨gb1007, 3, none⟩) (by first | (rw [add_block]; exact hn1013_3) | (show (Addr.add _ _).block ≠ _; rw [add_block]; exact hn1013_3) | exact hn1013_3) (.int .i64 ((rd_T186 l0 x4_1).f3))).trans hx1013_0; clear hn1013_0; clear hn1013_1; clear hn1013_2; clear hn1013_3; replace p1013 := eq_true p1013; replace q1013 := eq_true q1013) | ((with_reducible refine gate_callee (f := 122) rfl ?_); refine goesL_ (some 54) rfl rfl Try.func122 (by kernel_rfl) rfl #[.int .i64 ((rd_T186 l0 x4_1).f1)] rfl (by simp only [List.map_toArray, List.map_cons, List.map_nil] <;> rfl) ?_; (with_reducible refine (gemotlaw2_name.calls ((rd_T186 l0 x4_1).f1) t1014 _ A21.out).mono ?_); rintro e w27 ⟨rfl, hb⟩; refine ⟨_, rfl, ?_⟩; have n0_ := Aside0.mk (Kd.R_below (by (with_reducible repeat (first | apply Kd.R_alloc | apply Kd.R_drewN | apply Kd.R_drew)); exact (Kd.R_mono (Kd.R_far (p := ⟨gb1007, 3, none⟩) (Kd.R_far (p := ⟨gb1007, 2, none⟩) (Kd.R_far (p := ⟨gb1007, 1, none⟩) (Kd.R_far (p := ⟨gb1007, 0, none⟩) (Kd.R_types HO_3.out BK1007.out (by decide)) (fun _ hk => hk.2) (.int .i64 ((rd_T186 l0 x4_1).f0))) (fun _ hk => hk.2) (.int .i64 ((rd_T186 l0 x4_1).f1))) (fun _ hk => hk.2) (.int .i64 ((rd_T186 l0 x4_1).f2))) (fun _ hk => hk.2) (.int .i64 ((rd_T186 l0 x4_1).f3))) (fun _ h_ => h_.1))) hb); have n1_ := Aside0.mk (blk_below (g := gb1007) (o := .cells #[.int .i64 ((rd_T186 l0 x4_1).f0), .int .i64 ((rd_T186 l0 x4_1).f1), .int .i64 ((rd_T186 l0 x4_1).f2), .int .i64 ((rd_T186 l0 x4_1).f3)] 186 (0, 0)) (by (with_reducible repeat (first | refine blk_drewN ?_ _ | refine blk_drew ?_ | refine blk_alloc ?_ _)); refine blk_put (cs := #[.int .i64 ((rd_T186 l0 x4_1).f0), .int .i64 ((rd_T186 l0 x4_1).f1), .int .i64 ((rd_T186 l0 x4_1).f2), .int .i64 0]) ?_ 3 _ rfl; (with_reducible repeat (first | refine blk_drewN ?_ _ | refine blk_drew ?_ | refine blk_alloc ?_ _)); refine blk_put (cs := #[.int .i64 ((rd_T186 l0 x4_1).f0), .int .i64 ((rd_T186 l0 x4_1).f1), .int .i64 0, .int .i64 0]) ?_ 2 _ rfl; (with_reducible repeat (first | refine blk_drewN ?_ _ | refine blk_drew ?_ | refine blk_alloc ?_ _)); refine blk_put (cs := #[.int .i64 ((rd_T186 l0 x4_1).f0), .int .i64 0, .int .i64 0, .int .i64 0]) ?_ 1 _ rfl; (with_reducible repeat (first | refine blk_drewN ?_ _ | refine blk_drew ?_ | refine blk_alloc ?_ _)); refine blk_put (cs := #[.int .i64 0, .int .i64 0, .int .i64 0, .int .i64 0]) ?_ 0 _ rfl; (with_reducible repeat (first | refine blk_drewN ?_ _ | refine blk_drew ?_ | refine blk_alloc ?_ _)); exact BK1007.out) hb); have n2_ := Aside0.mk (below_step (by repeat (with_reducible first | exact HB.out | apply below_alloc | apply pw_below_drewN | apply below_drew1 | refine below_set ?_ GE1007.out)) hb); clear HO_3; clear BK1007; clear HB; have HO_3 := n0_; have BK1007 := n1_; have HB := n2_; clear n0_ n1_ n2_; (try clear hb); have hcz28_0 : w27.cell? ⟨gb1007, 0, none⟩ = some (.int .i64 ((rd_T186 l0 x4_1).f0)) := (blk_cell BK1007.out 0).trans rfl; have hcz28_1 : w27.cell? ⟨gb1007, 1, none⟩ = some (.int .i64 ((rd_T186 l0 x4_1).f1)) := (blk_cell BK1007.out 1).trans rfl; have hcz28_2 : w27.cell? ⟨gb1007, 2, none⟩ = some (.int .i64 ((rd_T186 l0 x4_1).f2)) := (blk_cell BK1007.out 2).trans rfl; have hcz28_3 : w27.cell? ⟨gb1007, 3, none⟩ = some (.int .i64 ((rd_T186 l0 x4_1).f3)) := (blk_cell BK1007.out 3).trans rfl; have hfz28_0 := blk_frozen BK1007.out 0; have hfz28_1 := blk_frozen BK1007.out 1; have hfz28_2 := blk_frozen BK1007.out 2; have hfz28_3 := blk_frozen BK1007.out 3) | ((with_reducible refine gate_callee (f := 72) rfl ?_); refine goesL_ (some 57) rfl rfl Try.func72 (by kernel_rfl) rfl #[.int .i64 ((rd_T186 l0 x4_1).f0), .int .i64 10] rfl (by simp only [List.map_toArray, List.map_cons, List.map_nil] <;> rfl) ?_; (with_reducible refine (gemotlaw2_pick.calls ((rd_T186 l0 x4_1).f0) 10 t1015 _ A22.out).mono ?_); rintro e w' ⟨rfl, ⟨nd, rfl⟩⟩; refine ⟨_, rfl, ?_⟩))
                            (try simp only [Act.put, List.setIfInBounds_toArray, List.set_cons_zero, List.set_cons_succ]); go_cut [58] (fun v58 wc => ∃ (kq : Nat) (x58_22 : Bool), v58 = .bool x58_22 ∧ Aside0 (gemotlaw2_made_p.j2 kq l0 x3_1 x4_1 (rdOf ByteArray.empty x3_1 t1008) (rdOf ByteArray.empty x3_1 t1010) (rdOf ByteArray.empty x3_1 t1012) t1014 0 t1015 x58_22 ((rd_T186 l0 x4_1).f0) ((rd_T186 l0 x4_1).f1) ((rd_T186 l0 x4_1).f2) ((rd_T186 l0 x4_1).f3) = some r) ∧ Aside0 (kq ≤ kj6) ∧ Aside0 (Kd.R Kd.string 48 wc w.heap.size (fun _ => True) (.slice (some ad1009) x3_1.length co26) x3_1) ∧ Aside0 (wc.heap[gb1007]? = some (.cells #[.int .i64 ((rd_T186 l0 x4_1).f0), .int .i64 ((rd_T186 l0 x4_1).f1), .int .i64 ((rd_T186 l0 x4_1).f2), .int .i64 ((rd_T186 l0 x4_1).f3)] 186 (0, 0))) ∧ Aside0 (Below w.heap.size w wc))
                            case first =>
                              have H := HC23.out; clear HC23; by_cases c29 : t1015 = 1
                              · rw [if_pos c29] at H
                                have c29b0 : (t1015 == 1) = true := beq_iff_eq.mpr c29
                                have c29b1 : (t1015 != 1) = false := bne_eq_false_iff_eq.mpr c29
                                clear c29; (first | rw [c29b0] | (simp only [i64_w, i32_w]; rw [c29b0]) | skip); have H' := Aside0.mk H
                                clear H; go_wp2; go_meet
                                case rel => exact ⟨_, ((t1015 == 1)), (by first | rfl | (simp; done) | (simp [*]; done)), H', ⟨by have := HK1.out; have := HJ6.out; first | omega | exact Nat.le_refl _⟩, ⟨by (with_reducible repeat (first | apply Kd.R_alloc | apply Kd.R_drewN | apply Kd.R_drew)); exact HO_3.out⟩, ⟨by (with_reducible repeat (first | refine blk_drewN ?_ _ | refine blk_drew ?_ | refine blk_alloc ?_ _)); exact BK1007.out⟩, ⟨by repeat (first | (with_reducible first | exact HB.out | apply below_alloc | apply pw_below_drewN | apply below_drew1 | refine below_set ?_ GE1007.out) | exact HB.out)⟩⟩
                              · rw [if_neg c29] at H
                                have c29b0 : (t1015 == 1) = false := beq_eq_false_iff_ne.mpr c29
                                have c29b1 : (t1015 != 1) = true := bne_iff_ne.mpr c29
                                (first | rw [c29b0] | (simp only [i64_w, i32_w]; rw [c29b0]) | skip); by_cases c30 : t1015 = 2
                                · rw [if_pos c30] at H
                                  have c30b0 : (t1015 == 2) = true := beq_iff_eq.mpr c30
                                  have c30b1 : (t1015 != 2) = false := bne_eq_false_iff_eq.mpr c30
                                  clear c30; have H' := Aside0.mk H
                                  clear H; go_wp2; go_meet
                                  case rel => exact ⟨_, ((t1015 == 2)), (by first | rfl | (simp; done) | (simp [*]; done)), H', ⟨by have := HK1.out; have := HJ6.out; first | omega | exact Nat.le_refl _⟩, ⟨by (with_reducible repeat (first | apply Kd.R_alloc | apply Kd.R_drewN | apply Kd.R_drew)); exact HO_3.out⟩, ⟨by (with_reducible repeat (first | refine blk_drewN ?_ _ | refine blk_drew ?_ | refine blk_alloc ?_ _)); exact BK1007.out⟩, ⟨by repeat (first | (with_reducible first | exact HB.out | apply below_alloc | apply pw_below_drewN | apply below_drew1 | refine below_set ?_ GE1007.out) | exact HB.out)⟩⟩
                                · rw [if_neg c30] at H
                                  have c30b0 : (t1015 == 2) = false := beq_eq_false_iff_ne.mpr c30
                                  have c30b1 : (t1015 != 2) = true := bne_iff_ne.mpr c30
                                  have H' := Aside0.mk H
                                  clear H; go_wp2; go_meet
                                  case rel => exact ⟨_, ((t1015 == 3)), (by first | rfl | (simp; done) | (simp [*]; done)), H', ⟨by have := HK1.out; have := HJ6.out; first | omega | exact Nat.le_refl _⟩, ⟨by (with_reducible repeat (first | apply Kd.R_alloc | apply Kd.R_drewN | apply Kd.R_drew)); exact HO_3.out⟩, ⟨by (with_reducible repeat (first | refine blk_drewN ?_ _ | refine blk_drew ?_ | refine blk_alloc ?_ _)); exact BK1007.out⟩, ⟨by repeat (first | (with_reducible first | exact HB.out | apply below_alloc | apply pw_below_drewN | apply below_drew1 | refine below_set ?_ GE1007.out) | exact HB.out)⟩⟩
                            case rest =>
                              clear HC23; try clear c1
                              try clear p1
                              try clear q1
                              try clear hx1
                              try clear c2
                              try clear p2
                              try clear c3
                              try clear c7
                              try clear c8
                              try clear c8b0
                              try clear c9
                              try clear c10
                              try clear c10b0
                              try clear p10
                              try clear q10
                              try clear hx10
                              try clear c11
                              try clear c11b0
                              try clear c12
                              try clear c13
                              try clear c13b0
                              try clear c14
                              try clear c14b0
                              try clear c16
                              try clear c16b0
                              try clear c17
                              try clear c17b0
                              try clear c19
                              try clear c19b0
                              try clear c20
                              try clear c20b0
                              try clear c29
                              try clear c29b0
                              try clear c29b1
                              try clear c30
                              try clear c30b0
                              try clear c30b1
                              try clear hcz25_0
                              try clear hcz25_1
                              try clear hcz25_2
                              try clear hcz25_3
                              try clear hcz28_0
                              try clear hcz28_1
                              try clear hcz28_2
                              try clear hcz28_3
                              try clear hfz25_0
                              try clear hfz25_1
                              try clear hfz25_2
                              try clear hfz25_3
                              try clear hfz28_0
                              try clear hfz28_1
                              try clear hfz28_2
                              try clear hfz28_3
                              try clear hx1006_0
                              try clear hx1006_1
                              try clear hx1006_2
                              try clear hx1006_3
                              try clear hx1009_0
                              try clear hx1011_0
                              try clear hx1013_0
                              try clear p1006
                              try clear p1009
                              try clear p1011
                              try clear p1013
                              try clear p2
                              try clear q1006
                              try clear q1009
                              try clear q1011
                              try clear q1013
                              obtain ⟨kq, x58_22, rfl, HA, HJ22, HO_3, BK1007, HB⟩ := hcut; cases kq with
                              | zero => exact absurd HA.out (by simp [gemotlaw2_made_p.j2])
                              | succ kj22 =>
                                have H := HA.out; clear HA; simp only [gemotlaw2_made_p.j2] at H; by_cases c31 : x58_22 = true
                                · subst c31; have H1 : ((term_Power.f (rdOf ByteArray.empty x3_1 t1008) (rdOf ByteArray.empty x3_1 t1010)).bind fun bt1016 => (if bt1016.2 = 0 then (if (bt1016.1.size : Int) > 600 then ((gemotlaw2_name.f ((rd_T186 l0 x4_1).f2)).bind fun t1018 => (if x3_1.length < 8796093022208 then (gemotlaw2_made_p.l0 kj22 l0 (x3_1 ++ [t1018]) (wrap64 (x4_1 + 1))) else (none))) else (if x3_1.length < 8796093022208 then (gemotlaw2_made_p.l0 kj22 l0 (x3_1 ++ [bt1016.1]) (wrap64 (x4_1 + 1))) else (none))) else ((gemotlaw2_name.f ((rd_T186 l0 x4_1).f2)).bind fun t1025 => (if x3_1.length < 8796093022208 then (gemotlaw2_made_p.l0 kj22 l0 (x3_1 ++ [t1025]) (wrap64 (x4_1 + 1))) else (none))))) = some r := by rw [if_pos rfl] at H; exact H
                                  clear H; have H := H1; clear H1; replace H := Option.bind_eq_some_iff.mp H
                                  obtain ⟨⟨t1016, t1017⟩, A320, H⟩ := H
                                  replace H : (if t1017 = 0 then (if (t1016.size : Int) > 600 then ((gemotlaw2_name.f ((rd_T186 l0 x4_1).f2)).bind fun t1018 => (if x3_1.length < 8796093022208 then (gemotlaw2_made_p.l0 kj22 l0 (x3_1 ++ [t1018]) (wrap64 (x4_1 + 1))) else (none))) else (if x3_1.length < 8796093022208 then (gemotlaw2_made_p.l0 kj22 l0 (x3_1 ++ [t1016]) (wrap64 (x4_1 + 1))) else (none))) else ((gemotlaw2_name.f ((rd_T186 l0 x4_1).f2)).bind fun t1025 => (if x3_1.length < 8796093022208 then (gemotlaw2_made_p.l0 kj22 l0 (x3_1 ++ [t1025]) (wrap64 (x4_1 + 1))) else (none)))) = some r := H
                                  have A32 := Aside0.mk A320
                                  clear A320; by_cases c33 : t1017 = 0
                                  · rw [if_pos c33] at H
                                    have c33b0 : (t1017 == 0) = true := beq_iff_eq.mpr c33
                                    have c33b1 : (t1017 != 0) = false := bne_eq_false_iff_eq.mpr c33
                                    clear c33; by_cases c34 : (t1016.size : Int) > 600
                                    · rw [if_pos c34] at H
                                      have c34b0 : decide (600 < (t1016.size : Int)) = true := decide_eq_true c34
                                      have c34b1 : decide (600 < t1016.size) = true := decide_eq_true (by omega)
                                      clear c34; replace H := Option.bind_eq_some_iff.mp H
                                      obtain ⟨t1018, A350, H⟩ := H; replace H : (if x3_1.length < 8796093022208 then (gemotlaw2_made_p.l0 kj22 l0 (x3_1 ++ [t1018]) (wrap64 (x4_1 + 1))) else (none)) = some r := H
                                      have A35 := Aside0.mk A350
                                      clear A350; by_cases c36 : x3_1.length < 8796093022208
                                      · rw [if_pos c36] at H
                                        have LMc36 := Aside0.mk c36
                                        clear c36; obtain ⟨y1019, hy1019⟩ : ∃ y_ : List ByteArray, y_ = (x3_1 ++ [t1018]) := ⟨_, rfl⟩
                                        replace H : (gemotlaw2_made_p.l0 kj22 l0 y1019 (wrap64 (x4_1 + 1))) = some r := by first | (rw [hy1019]; with_reducible exact H) | (have H2_ := (Option.bind_some _ _).symm.trans H; rw [hy1019]; with_reducible exact H2_) | (have H2_ := (Option.bind_some _ _).symm.trans H; with_reducible exact H2_) | with_reducible exact H | (rw [hy1019]; exact H) | exact H
                                        have Ny1019 := Aside0.mk hy1019
                                        clear hy1019; have H' := Aside0.mk H
                                        clear H; go_wp2_with (first | ((with_reducible refine gate_callee (f := 81) rfl ?_); refine goesL_ (some 65) rfl rfl Try.func81 (by kernel_rfl) rfl #[.string (rdOf ByteArray.empty x3_1 t1008), .string (rdOf ByteArray.empty x3_1 t1010)] rfl (by simp only [List.map_toArray, List.map_cons, List.map_nil] <;> rfl) ?_; (with_reducible refine (term_Power.calls (rdOf ByteArray.empty x3_1 t1008) (rdOf ByteArray.empty x3_1 t1010) t1016 t1017 _ A32.out).mono ?_); rintro e w37 ⟨rfl, hb⟩; refine ⟨_, rfl, ?_⟩; have n0_ := Aside0.mk (Kd.R_below (by (with_reducible repeat (first | apply Kd.R_alloc | apply Kd.R_drewN | apply Kd.R_drew)); exact HO_3.out) hb); have n1_ := Aside0.mk (blk_below (g := gb1007) (o := .cells #[.int .i64 ((rd_T186 l0 x4_1).f0), .int .i64 ((rd_T186 l0 x4_1).f1), .int .i64 ((rd_T186 l0 x4_1).f2), .int .i64 ((rd_T186 l0 x4_1).f3)] 186 (0, 0)) (by (with_reducible repeat (first | refine blk_drewN ?_ _ | refine blk_drew ?_ | refine blk_alloc ?_ _)); exact BK1007.out) hb); have n2_ := Aside0.mk (below_step (by repeat (with_reducible first | exact HB.out | apply below_alloc | apply pw_below_drewN | apply below_drew1 | refine below_set ?_ GE1007.out)) hb); clear HO_3; clear BK1007; clear HB; have HO_3 := n0_; have BK1007 := n1_; have HB := n2_; clear n0_ n1_ n2_; (try clear hb); have hcz38_0 : w37.cell? ⟨gb1007, 0, none⟩ = some (.int .i64 ((rd_T186 l0 x4_1).f0)) := (blk_cell BK1007.out 0).trans rfl; have hcz38_1 : w37.cell? ⟨gb1007, 1, none⟩ = some (.int .i64 ((rd_T186 l0 x4_1).f1)) := (blk_cell BK1007.out 1).trans rfl; have hcz38_2 : w37.cell? ⟨gb1007, 2, none⟩ = some (.int .i64 ((rd_T186 l0 x4_1).f2)) := (blk_cell BK1007.out 2).trans rfl; have hcz38_3 : w37.cell? ⟨gb1007, 3, none⟩ = some (.int .i64 ((rd_T186 l0 x4_1).f3)) := (blk_cell BK1007.out 3).trans rfl; have hfz38_0 := blk_frozen BK1007.out 0; have hfz38_1 := blk_frozen BK1007.out 1; have hfz38_2 := blk_frozen BK1007.out 2; have hfz38_3 := blk_frozen BK1007.out 3) | ((with_reducible refine gate_callee (f := 122) rfl ?_); refine goesL_ (some 117) rfl rfl Try.func122 (by kernel_rfl) rfl #[.int .i64 ((rd_T186 l0 x4_1).f2)] rfl (by simp only [List.map_toArray, List.map_cons, List.map_nil] <;> rfl) ?_; (with_reducible refine (gemotlaw2_name.calls ((rd_T186 l0 x4_1).f2) t1018 _ A35.out).mono ?_); rintro e w39 ⟨rfl, hb⟩; refine ⟨_, rfl, ?_⟩; have n0_ := Aside0.mk (Kd.R_below (by (with_reducible repeat (first | apply Kd.R_alloc | apply Kd.R_drewN | apply Kd.R_drew)); exact HO_3.out) hb); have n1_ := Aside0.mk (blk_below (g := gb1007) (o := .cells #[.int .i64 ((rd_T186 l0 x4_1).f0), .int .i64 ((rd_T186 l0 x4_1).f1), .int .i64 ((rd_T186 l0 x4_1).f2), .int .i64 ((rd_T186 l0 x4_1).f3)] 186 (0, 0)) (by (with_reducible repeat (first | refine blk_drewN ?_ _ | refine blk_drew ?_ | refine blk_alloc ?_ _)); exact BK1007.out) hb); have n2_ := Aside0.mk (below_step (by repeat (with_reducible first | exact HB.out | apply below_alloc | apply pw_below_drewN | apply below_drew1 | refine below_set ?_ GE1007.out)) hb); clear HO_3; clear BK1007; clear HB; have HO_3 := n0_; have BK1007 := n1_; have HB := n2_; clear n0_ n1_ n2_; (try clear hb)) | ((with_reducible refine gate_builtin (b := .append) (xs := #[.tmp 118, .tmp 120]) rfl ?_); (try (refine gate_guard (by rfl) ?_; dsimp only)); at_builtin; refine Kd.R_append Kd.string (w0 := w) w.heap.size rfl (.tmp 118) (.tmp 120) 44 48 (.string ⟨#[]⟩) 16 rfl Try.underlying44 info48 rfl (by decide) (by omega) (.slice (some ad1009) x3_1.length co26) x3_1 t1018 [.string t1018] (fun _ => True) (fun _ => False) rfl rfl ?aP (fun _ hk => hk.elim) ?aF ?aO ?aB ?aS ?aL ?_; (case aP => exact rfl); (case aB => exact (by repeat (with_reducible first | exact HB.out | apply below_alloc | apply pw_below_drewN | apply below_drew1 | refine below_set ?_ GE1007.out))); (case aF => exact (fun _ _ => trivial)); (case aO => exact (by (with_reducible repeat (first | apply Kd.R_alloc | apply Kd.R_drewN | apply Kd.R_drew)); exact HO_3.out)); (case aS => exact (below_size (by repeat (with_reducible first | exact HB.out | apply below_alloc | apply pw_below_drewN | apply below_drew1 | refine below_set ?_ GE1007.out)))); (case aL => have := LMc36.out; omega); intro v1020 w40 ho hb hg hat; rw [← Ny1019.out] at ho; have n0_ := Aside0.mk (blk_grown (g := gb1007) (o := .cells #[.int .i64 ((rd_T186 l0 x4_1).f0), .int .i64 ((rd_T186 l0 x4_1).f1), .int .i64 ((rd_T186 l0 x4_1).f2), .int .i64 ((rd_T186 l0 x4_1).f3)] 186 (0, 0)) (by (with_reducible repeat (first | refine blk_drewN ?_ _ | refine blk_drew ?_ | refine blk_alloc ?_ _)); exact BK1007.out) hg (Kd.R_ne HO_3.out BK1007.out (by decide))); have n1_ := Aside0.mk (hb); have n2_ := Aside0.mk (ho); clear BK1007; clear HB; clear HO_3; have BK1007 := n0_; have HB := n1_; have HO1021 := n2_; clear n0_ n1_ n2_; clear ho hb hg hat))
                                        go_roundg kj22
                                        case measure => have := HK1.out; have := HJ6.out; have := HJ22.out; omega
                                        case rel => exact ⟨(y1019), (wrap64 (x4_1 + 1)), (by first | rfl | (simp; done) | (simp [*]; done)), H', ⟨by have := HK1.out; have := HJ6.out; have := HJ22.out; omega⟩, ⟨by (with_reducible repeat (first | apply Kd.R_alloc | apply Kd.R_drewN | apply Kd.R_drew)); exact HO1021.out⟩, ⟨by repeat (first | (with_reducible first | exact HB.out | apply below_alloc | apply pw_below_drewN | apply below_drew1 | refine below_set ?_ GE1007.out) | exact HB.out)⟩⟩
                                      · rw [if_neg c36] at H
                                        exact absurd H (by simp)
                                    · rw [if_neg c34] at H
                                      have c34b0 : decide (600 < (t1016.size : Int)) = false := decide_eq_false c34
                                      have c34b1 : decide (600 < t1016.size) = false := decide_eq_false (by omega)
                                      clear c34; by_cases c41 : x3_1.length < 8796093022208
                                      · rw [if_pos c41] at H
                                        have LMc41 := Aside0.mk c41
                                        clear c41; obtain ⟨y1022, hy1022⟩ : ∃ y_ : List ByteArray, y_ = (x3_1 ++ [t1016]) := ⟨_, rfl⟩
                                        replace H : (gemotlaw2_made_p.l0 kj22 l0 y1022 (wrap64 (x4_1 + 1))) = some r := by first | (rw [hy1022]; with_reducible exact H) | (have H2_ := (Option.bind_some _ _).symm.trans H; rw [hy1022]; with_reducible exact H2_) | (have H2_ := (Option.bind_some _ _).symm.trans H; with_reducible exact H2_) | with_reducible exact H | (rw [hy1022]; exact H) | exact H
                                        have Ny1022 := Aside0.mk hy1022
                                        clear hy1022; have H' := Aside0.mk H
                                        clear H; go_wp2_with (first | ((with_reducible refine gate_callee (f := 81) rfl ?_); refine goesL_ (some 65) rfl rfl Try.func81 (by kernel_rfl) rfl #[.string (rdOf ByteArray.empty x3_1 t1008), .string (rdOf ByteArray.empty x3_1 t1010)] rfl (by simp only [List.map_toArray, List.map_cons, List.map_nil] <;> rfl) ?_; (with_reducible refine (term_Power.calls (rdOf ByteArray.empty x3_1 t1008) (rdOf ByteArray.empty x3_1 t1010) t1016 t1017 _ A32.out).mono ?_); rintro e w42 ⟨rfl, hb⟩; refine ⟨_, rfl, ?_⟩; have n0_ := Aside0.mk (Kd.R_below (by (with_reducible repeat (first | apply Kd.R_alloc | apply Kd.R_drewN | apply Kd.R_drew)); exact HO_3.out) hb); have n1_ := Aside0.mk (blk_below (g := gb1007) (o := .cells #[.int .i64 ((rd_T186 l0 x4_1).f0), .int .i64 ((rd_T186 l0 x4_1).f1), .int .i64 ((rd_T186 l0 x4_1).f2), .int .i64 ((rd_T186 l0 x4_1).f3)] 186 (0, 0)) (by (with_reducible repeat (first | refine blk_drewN ?_ _ | refine blk_drew ?_ | refine blk_alloc ?_ _)); exact BK1007.out) hb); have n2_ := Aside0.mk (below_step (by repeat (with_reducible first | exact HB.out | apply below_alloc | apply pw_below_drewN | apply below_drew1 | refine below_set ?_ GE1007.out)) hb); clear HO_3; clear BK1007; clear HB; have HO_3 := n0_; have BK1007 := n1_; have HB := n2_; clear n0_ n1_ n2_; (try clear hb)) | ((with_reducible refine gate_builtin (b := .append) (xs := #[.tmp 118, .tmp 120]) rfl ?_); (try (refine gate_guard (by rfl) ?_; dsimp only)); at_builtin; refine Kd.R_append Kd.string (w0 := w) w.heap.size rfl (.tmp 118) (.tmp 120) 44 48 (.string ⟨#[]⟩) 16 rfl Try.underlying44 info48 rfl (by decide) (by omega) (.slice (some ad1009) x3_1.length co26) x3_1 t1016 [.string t1016] (fun _ => True) (fun _ => False) rfl rfl ?aP (fun _ hk => hk.elim) ?aF ?aO ?aB ?aS ?aL ?_; (case aP => exact rfl); (case aB => exact (by repeat (with_reducible first | exact HB.out | apply below_alloc | apply pw_below_drewN | apply below_drew1 | refine below_set ?_ GE1007.out))); (case aF => exact (fun _ _ => trivial)); (case aO => exact (by (with_reducible repeat (first | apply Kd.R_alloc | apply Kd.R_drewN | apply Kd.R_drew)); exact HO_3.out)); (case aS => exact (below_size (by repeat (with_reducible first | exact HB.out | apply below_alloc | apply pw_below_drewN | apply below_drew1 | refine below_set ?_ GE1007.out)))); (case aL => have := LMc41.out; omega); intro v1023 w43 ho hb hg hat; rw [← Ny1022.out] at ho; have n0_ := Aside0.mk (blk_grown (g := gb1007) (o := .cells #[.int .i64 ((rd_T186 l0 x4_1).f0), .int .i64 ((rd_T186 l0 x4_1).f1), .int .i64 ((rd_T186 l0 x4_1).f2), .int .i64 ((rd_T186 l0 x4_1).f3)] 186 (0, 0)) (by (with_reducible repeat (first | refine blk_drewN ?_ _ | refine blk_drew ?_ | refine blk_alloc ?_ _)); exact BK1007.out) hg (Kd.R_ne HO_3.out BK1007.out (by decide))); have n1_ := Aside0.mk (hb); have n2_ := Aside0.mk (ho); clear BK1007; clear HB; clear HO_3; have BK1007 := n0_; have HB := n1_; have HO1024 := n2_; clear n0_ n1_ n2_; clear ho hb hg hat))
                                        go_roundg kj22
                                        case measure => have := HK1.out; have := HJ6.out; have := HJ22.out; omega
                                        case rel => exact ⟨(y1022), (wrap64 (x4_1 + 1)), (by first | rfl | (simp; done) | (simp [*]; done)), H', ⟨by have := HK1.out; have := HJ6.out; have := HJ22.out; omega⟩, ⟨by (with_reducible repeat (first | apply Kd.R_alloc | apply Kd.R_drewN | apply Kd.R_drew)); exact HO1024.out⟩, ⟨by repeat (first | (with_reducible first | exact HB.out | apply below_alloc | apply pw_below_drewN | apply below_drew1 | refine below_set ?_ GE1007.out) | exact HB.out)⟩⟩
                                      · rw [if_neg c41] at H
                                        exact absurd H (by simp)
                                  · rw [if_neg c33] at H
                                    have c33b0 : (t1017 == 0) = false := beq_eq_false_iff_ne.mpr c33
                                    have c33b1 : (t1017 != 0) = true := bne_iff_ne.mpr c33
                                    replace H := Option.bind_eq_some_iff.mp H
                                    obtain ⟨t1025, A440, H⟩ := H; replace H : (if x3_1.length < 8796093022208 then (gemotlaw2_made_p.l0 kj22 l0 (x3_1 ++ [t1025]) (wrap64 (x4_1 + 1))) else (none)) = some r := H
                                    have A44 := Aside0.mk A440
                                    clear A440; by_cases c45 : x3_1.length < 8796093022208
                                    · rw [if_pos c45] at H
                                      have LMc45 := Aside0.mk c45
                                      clear c45; obtain ⟨y1026, hy1026⟩ : ∃ y_ : List ByteArray, y_ = (x3_1 ++ [t1025]) := ⟨_, rfl⟩
                                      replace H : (gemotlaw2_made_p.l0 kj22 l0 y1026 (wrap64 (x4_1 + 1))) = some r := by first | (rw [hy1026]; with_reducible exact H) | (have H2_ := (Option.bind_some _ _).symm.trans H; rw [hy1026]; with_reducible exact H2_) | (have H2_ := (Option.bind_some _ _).symm.trans H; with_reducible exact H2_) | with_reducible exact H | (rw [hy1026]; exact H) | exact H
                                      have Ny1026 := Aside0.mk hy1026
                                      clear hy1026; have H' := Aside0.mk H
                                      clear H; go_wp2_with (first | ((with_reducible refine gate_callee (f := 81) rfl ?_); refine goesL_ (some 65) rfl rfl Try.func81 (by kernel_rfl) rfl #[.string (rdOf ByteArray.empty x3_1 t1008), .string (rdOf ByteArray.empty x3_1 t1010)] rfl (by simp only [List.map_toArray, List.map_cons, List.map_nil] <;> rfl) ?_; (with_reducible refine (term_Power.calls (rdOf ByteArray.empty x3_1 t1008) (rdOf ByteArray.empty x3_1 t1010) t1016 t1017 _ A32.out).mono ?_); rintro e w46 ⟨rfl, hb⟩; refine ⟨_, rfl, ?_⟩; have n0_ := Aside0.mk (Kd.R_below (by (with_reducible repeat (first | apply Kd.R_alloc | apply Kd.R_drewN | apply Kd.R_drew)); exact HO_3.out) hb); have n1_ := Aside0.mk (blk_below (g := gb1007) (o := .cells #[.int .i64 ((rd_T186 l0 x4_1).f0), .int .i64 ((rd_T186 l0 x4_1).f1), .int .i64 ((rd_T186 l0 x4_1).f2), .int .i64 ((rd_T186 l0 x4_1).f3)] 186 (0, 0)) (by (with_reducible repeat (first | refine blk_drewN ?_ _ | refine blk_drew ?_ | refine blk_alloc ?_ _)); exact BK1007.out) hb); have n2_ := Aside0.mk (below_step (by repeat (with_reducible first | exact HB.out | apply below_alloc | apply pw_below_drewN | apply below_drew1 | refine below_set ?_ GE1007.out)) hb); clear HO_3; clear BK1007; clear HB; have HO_3 := n0_; have BK1007 := n1_; have HB := n2_; clear n0_ n1_ n2_; (try clear hb); have hcz47_0 : w46.cell? ⟨gb1007, 0, none⟩ = some (.int .i64 ((rd_T186 l0 x4_1).f0)) := (blk_cell BK1007.out 0).trans rfl; have hcz47_1 : w46.cell? ⟨gb1007, 1, none⟩ = some (.int .i64 ((rd_T186 l0 x4_1).f1)) := (blk_cell BK1007.out 1).trans rfl; have hcz47_2 : w46.cell? ⟨gb1007, 2, none⟩ = some (.int .i64 ((rd_T186 l0 x4_1).f2)) := (blk_cell BK1007.out 2).trans rfl; have hcz47_3 : w46.cell? ⟨gb1007, 3, none⟩ = some (.int .i64 ((rd_T186 l0 x4_1).f3)) := (blk_cell BK1007.out 3).trans rfl; have hfz47_0 := blk_frozen BK1007.out 0; have hfz47_1 := blk_frozen BK1007.out 1; have hfz47_2 := blk_frozen BK1007.out 2; have hfz47_3 := blk_frozen BK1007.out 3) | ((with_reducible refine gate_callee (f := 122) rfl ?_); refine goesL_ (some 117) rfl rfl Try.func122 (by kernel_rfl) rfl #[.int .i64 ((rd_T186 l0 x4_1).f2)] rfl (by simp only [List.map_toArray, List.map_cons, List.map_nil] <;> rfl) ?_; (with_reducible refine (gemotlaw2_name.calls ((rd_T186 l0 x4_1).f2) t1025 _ A44.out).mono ?_); rintro e w48 ⟨rfl, hb⟩; refine ⟨_, rfl, ?_⟩; have n0_ := Aside0.mk (Kd.R_below (by (with_reducible repeat (first | apply Kd.R_alloc | apply Kd.R_drewN | apply Kd.R_drew)); exact HO_3.out) hb); have n1_ := Aside0.mk (blk_below (g := gb1007) (o := .cells #[.int .i64 ((rd_T186 l0 x4_1).f0), .int .i64 ((rd_T186 l0 x4_1).f1), .int .i64 ((rd_T186 l0 x4_1).f2), .int .i64 ((rd_T186 l0 x4_1).f3)] 186 (0, 0)) (by (with_reducible repeat (first | refine blk_drewN ?_ _ | refine blk_drew ?_ | refine blk_alloc ?_ _)); exact BK1007.out) hb); have n2_ := Aside0.mk (below_step (by repeat (with_reducible first | exact HB.out | apply below_alloc | apply pw_below_drewN | apply below_drew1 | refine below_set ?_ GE1007.out)) hb); clear HO_3; clear BK1007; clear HB; have HO_3 := n0_; have BK1007 := n1_; have HB := n2_; clear n0_ n1_ n2_; (try clear hb)) | ((with_reducible refine gate_builtin (b := .append) (xs := #[.tmp 118, .tmp 120]) rfl ?_); (try (refine gate_guard (by rfl) ?_; dsimp only)); at_builtin; refine Kd.R_append Kd.string (w0 := w) w.heap.size rfl (.tmp 118) (.tmp 120) 44 48 (.string ⟨#[]⟩) 16 rfl Try.underlying44 info48 rfl (by decide) (by omega) (.slice (some ad1009) x3_1.length co26) x3_1 t1025 [.string t1025] (fun _ => True) (fun _ => False) rfl rfl ?aP (fun _ hk => hk.elim) ?aF ?aO ?aB ?aS ?aL ?_; (case aP => exact rfl); (case aB => exact (by repeat (with_reducible first | exact HB.out | apply below_alloc | apply pw_below_drewN | apply below_drew1 | refine below_set ?_ GE1007.out))); (case aF => exact (fun _ _ => trivial)); (case aO => exact (by (with_reducible repeat (first | apply Kd.R_alloc | apply Kd.R_drewN | apply Kd.R_drew)); exact HO_3.out)); (case aS => exact (below_size (by repeat (with_reducible first | exact HB.out | apply below_alloc | apply pw_below_drewN | apply below_drew1 | refine below_set ?_ GE1007.out)))); (case aL => have := LMc45.out; omega); intro v1027 w49 ho hb hg hat; rw [← Ny1026.out] at ho; have n0_ := Aside0.mk (blk_grown (g := gb1007) (o := .cells #[.int .i64 ((rd_T186 l0 x4_1).f0), .int .i64 ((rd_T186 l0 x4_1).f1), .int .i64 ((rd_T186 l0 x4_1).f2), .int .i64 ((rd_T186 l0 x4_1).f3)] 186 (0, 0)) (by (with_reducible repeat (first | refine blk_drewN ?_ _ | refine blk_drew ?_ | refine blk_alloc ?_ _)); exact BK1007.out) hg (Kd.R_ne HO_3.out BK1007.out (by decide))); have n1_ := Aside0.mk (hb); have n2_ := Aside0.mk (ho); clear BK1007; clear HB; clear HO_3; have BK1007 := n0_; have HB := n1_; have HO1028 := n2_; clear n0_ n1_ n2_; clear ho hb hg hat))
                                      go_roundg kj22
                                      case measure => have := HK1.out; have := HJ6.out; have := HJ22.out; omega
                                      case rel => exact ⟨(y1026), (wrap64 (x4_1 + 1)), (by first | rfl | (simp; done) | (simp [*]; done)), H', ⟨by have := HK1.out; have := HJ6.out; have := HJ22.out; omega⟩, ⟨by (with_reducible repeat (first | apply Kd.R_alloc | apply Kd.R_drewN | apply Kd.R_drew)); exact HO1028.out⟩, ⟨by repeat (first | (with_reducible first | exact HB.out | apply below_alloc | apply pw_below_drewN | apply below_drew1 | refine below_set ?_ GE1007.out) | exact HB.out)⟩⟩
                                    · rw [if_neg c45] at H
                                      exact absurd H (by simp)
                                · replace c31 := Bool.eq_false_iff.mpr c31
                                  subst c31; have H1 : (if t1015 = 4 then ((term_Key.f (rdOf ByteArray.empty x3_1 t1008)).bind fun bt1029 => (if bt1029.2 = 0 then (if (bt1029.1.size : Int) > 600 then ((gemotlaw2_name.f ((rd_T186 l0 x4_1).f2)).bind fun t1031 => (if x3_1.length < 8796093022208 then (gemotlaw2_made_p.l0 kj22 l0 (x3_1 ++ [t1031]) (wrap64 (x4_1 + 1))) else (none))) else (if x3_1.length < 8796093022208 then (gemotlaw2_made_p.l0 kj22 l0 (x3_1 ++ [bt1029.1]) (wrap64 (x4_1 + 1))) else (none))) else ((gemotlaw2_name.f ((rd_T186 l0 x4_1).f2)).bind fun t1038 => (if x3_1.length < 8796093022208 then (gemotlaw2_made_p.l0 kj22 l0 (x3_1 ++ [t1038]) (wrap64 (x4_1 + 1))) else (none))))) else (if t1015 = 5 then (gemotlaw2_made_p.j3 kj22 l0 x3_1 x4_1 (rdOf ByteArray.empty x3_1 t1008) (rdOf ByteArray.empty x3_1 t1010) (rdOf ByteArray.empty x3_1 t1012) t1014 0 t1015 (t1015 == 5) ((rd_T186 l0 x4_1).f0) ((rd_T186 l0 x4_1).f1) ((rd_T186 l0 x4_1).f2) ((rd_T186 l0 x4_1).f3)) else (gemotlaw2_made_p.j3 kj22 l0 x3_1 x4_1 (rdOf ByteArray.empty x3_1 t1008) (rdOf ByteArray.empty x3_1 t1010) (rdOf ByteArray.empty x3_1 t1012) t1014 0 t1015 (t1015 == 6) ((rd_T186 l0 x4_1).f0) ((rd_T186 l0 x4_1).f1) ((rd_T186 l0 x4_1).f2) ((rd_T186 l0 x4_1).f3)))) = some r := by rw [if_neg (show ¬ (false = true) by decide)] at H; exact H
                                  clear H; have H := H1; clear H1; by_cases c50 : t1015 = 4
                                  · rw [if_pos c50] at H
                                    have c50b0 : (t1015 == 4) = true := beq_iff_eq.mpr c50
                                    have c50b1 : (t1015 != 4) = false := bne_eq_false_iff_eq.mpr c50
                                    clear c50; replace H := Option.bind_eq_some_iff.mp H
                                    obtain ⟨⟨t1029, t1030⟩, A510, H⟩ := H
                                    replace H : (if t1030 = 0 then (if (t1029.size : Int) > 600 then ((gemotlaw2_name.f ((rd_T186 l0 x4_1).f2)).bind fun t1031 => (if x3_1.length < 8796093022208 then (gemotlaw2_made_p.l0 kj22 l0 (x3_1 ++ [t1031]) (wrap64 (x4_1 + 1))) else (none))) else (if x3_1.length < 8796093022208 then (gemotlaw2_made_p.l0 kj22 l0 (x3_1 ++ [t1029]) (wrap64 (x4_1 + 1))) else (none))) else ((gemotlaw2_name.f ((rd_T186 l0 x4_1).f2)).bind fun t1038 => (if x3_1.length < 8796093022208 then (gemotlaw2_made_p.l0 kj22 l0 (x3_1 ++ [t1038]) (wrap64 (x4_1 + 1))) else (none)))) = some r := H
                                    have A51 := Aside0.mk A510
                                    clear A510; by_cases c52 : t1030 = 0
                                    · rw [if_pos c52] at H
                                      have c52b0 : (t1030 == 0) = true := beq_iff_eq.mpr c52
                                      have c52b1 : (t1030 != 0) = false := bne_eq_false_iff_eq.mpr c52
                                      clear c52; by_cases c53 : (t1029.size : Int) > 600
                                      · rw [if_pos c53] at H
                                        have c53b0 : decide (600 < (t1029.size : Int)) = true := decide_eq_true c53
                                        have c53b1 : decide (600 < t1029.size) = true := decide_eq_true (by omega)
                                        clear c53; replace H := Option.bind_eq_some_iff.mp H
                                        obtain ⟨t1031, A540, H⟩ := H; replace H : (if x3_1.length < 8796093022208 then (gemotlaw2_made_p.l0 kj22 l0 (x3_1 ++ [t1031]) (wrap64 (x4_1 + 1))) else (none)) = some r := H
                                        have A54 := Aside0.mk A540
                                        clear A540; by_cases c55 : x3_1.length < 8796093022208
                                        · rw [if_pos c55] at H
                                          have LMc55 := Aside0.mk c55
                                          clear c55; obtain ⟨y1032, hy1032⟩ : ∃ y_ : List ByteArray, y_ = (x3_1 ++ [t1031]) := ⟨_, rfl⟩
                                          replace H : (gemotlaw2_made_p.l0 kj22 l0 y1032 (wrap64 (x4_1 + 1))) = some r := by first | (rw [hy1032]; with_reducible exact H) | (have H2_ := (Option.bind_some _ _).symm.trans H; rw [hy1032]; with_reducible exact H2_) | (have H2_ := (Option.bind_some _ _).symm.trans H; with_reducible exact H2_) | with_reducible exact H | (rw [hy1032]; exact H) | exact H
                                          have Ny1032 := Aside0.mk hy1032
                                          clear hy1032; have H' := Aside0.mk H
                                          clear H; go_wp2_with (first | ((with_reducible refine gate_callee (f := 83) rfl ?_); refine goesL_ (some 72) rfl rfl Try.func83 (by kernel_rfl) rfl #[.string (rdOf ByteArray.empty x3_1 t1008)] rfl (by simp only [List.map_toArray, List.map_cons, List.map_nil] <;> rfl) ?_; (with_reducible refine (term_Key.calls (rdOf ByteArray.empty x3_1 t1008) t1029 t1030 _ A51.out).mono ?_); rintro e w56 ⟨rfl, hb⟩; refine ⟨_, rfl, ?_⟩; have n0_ := Aside0.mk (Kd.R_below (by (with_reducible repeat (first | apply Kd.R_alloc | apply Kd.R_drewN | apply Kd.R_drew)); exact HO_3.out) hb); have n1_ := Aside0.mk (blk_below (g := gb1007) (o := .cells #[.int .i64 ((rd_T186 l0 x4_1).f0), .int .i64 ((rd_T186 l0 x4_1).f1), .int .i64 ((rd_T186 l0 x4_1).f2), .int .i64 ((rd_T186 l0 x4_1).f3)] 186 (0, 0)) (by (with_reducible repeat (first | refine blk_drewN ?_ _ | refine blk_drew ?_ | refine blk_alloc ?_ _)); exact BK1007.out) hb); have n2_ := Aside0.mk (below_step (by repeat (with_reducible first | exact HB.out | apply below_alloc | apply pw_below_drewN | apply below_drew1 | refine below_set ?_ GE1007.out)) hb); clear HO_3; clear BK1007; clear HB; have HO_3 := n0_; have BK1007 := n1_; have HB := n2_; clear n0_ n1_ n2_; (try clear hb); have hcz57_0 : w56.cell? ⟨gb1007, 0, none⟩ = some (.int .i64 ((rd_T186 l0 x4_1).f0)) := (blk_cell BK1007.out 0).trans rfl; have hcz57_1 : w56.cell? ⟨gb1007, 1, none⟩ = some (.int .i64 ((rd_T186 l0 x4_1).f1)) := (blk_cell BK1007.out 1).trans rfl; have hcz57_2 : w56.cell? ⟨gb1007, 2, none⟩ = some (.int .i64 ((rd_T186 l0 x4_1).f2)) := (blk_cell BK1007.out 2).trans rfl; have hcz57_3 : w56.cell? ⟨gb1007, 3, none⟩ = some (.int .i64 ((rd_T186 l0 x4_1).f3)) := (blk_cell BK1007.out 3).trans rfl; have hfz57_0 := blk_frozen BK1007.out 0; have hfz57_1 := blk_frozen BK1007.out 1; have hfz57_2 := blk_frozen BK1007.out 2; have hfz57_3 := blk_frozen BK1007.out 3) | ((with_reducible refine gate_callee (f := 122) rfl ?_); refine goesL_ (some 117) rfl rfl Try.func122 (by kernel_rfl) rfl #[.int .i64 ((rd_T186 l0 x4_1).f2)] rfl (by simp only [List.map_toArray, List.map_cons, List.map_nil] <;> rfl) ?_; (with_reducible refine (gemotlaw2_name.calls ((rd_T186 l0 x4_1).f2) t1031 _ A54.out).mono ?_); rintro e w58 ⟨rfl, hb⟩; refine ⟨_, rfl, ?_⟩; have n0_ := Aside0.mk (Kd.R_below (by (with_reducible repeat (first | apply Kd.R_alloc | apply Kd.R_drewN | apply Kd.R_drew)); exact HO_3.out) hb); have n1_ := Aside0.mk (blk_below (g := gb1007) (o := .cells #[.int .i64 ((rd_T186 l0 x4_1).f0), .int .i64 ((rd_T186 l0 x4_1).f1), .int .i64 ((rd_T186 l0 x4_1).f2), .int .i64 ((rd_T186 l0 x4_1).f3)] 186 (0, 0)) (by (with_reducible repeat (first | refine blk_drewN ?_ _ | refine blk_drew ?_ | refine blk_alloc ?_ _)); exact BK1007.out) hb); have n2_ := Aside0.mk (below_step (by repeat (with_reducible first | exact HB.out | apply below_alloc | apply pw_below_drewN | apply below_drew1 | refine below_set ?_ GE1007.out)) hb); clear HO_3; clear BK1007; clear HB; have HO_3 := n0_; have BK1007 := n1_; have HB := n2_; clear n0_ n1_ n2_; (try clear hb)) | ((with_reducible refine gate_builtin (b := .append) (xs := #[.tmp 118, .tmp 120]) rfl ?_); (try (refine gate_guard (by rfl) ?_; dsimp only)); at_builtin; refine Kd.R_append Kd.string (w0 := w) w.heap.size rfl (.tmp 118) (.tmp 120) 44 48 (.string ⟨#[]⟩) 16 rfl Try.underlying44 info48 rfl (by decide) (by omega) (.slice (some ad1009) x3_1.length co26) x3_1 t1031 [.string t1031] (fun _ => True) (fun _ => False) rfl rfl ?aP (fun _ hk => hk.elim) ?aF ?aO ?aB ?aS ?aL ?_; (case aP => exact rfl); (case aB => exact (by repeat (with_reducible first | exact HB.out | apply below_alloc | apply pw_below_drewN | apply below_drew1 | refine below_set ?_ GE1007.out))); (case aF => exact (fun _ _ => trivial)); (case aO => exact (by (with_reducible repeat (first | apply Kd.R_alloc | apply Kd.R_drewN | apply Kd.R_drew)); exact HO_3.out)); (case aS => exact (below_size (by repeat (with_reducible first | exact HB.out | apply below_alloc | apply pw_below_drewN | apply below_drew1 | refine below_set ?_ GE1007.out)))); (case aL => have := LMc55.out; omega); intro v1033 w59 ho hb hg hat; rw [← Ny1032.out] at ho; have n0_ := Aside0.mk (blk_grown (g := gb1007) (o := .cells #[.int .i64 ((rd_T186 l0 x4_1).f0), .int .i64 ((rd_T186 l0 x4_1).f1), .int .i64 ((rd_T186 l0 x4_1).f2), .int .i64 ((rd_T186 l0 x4_1).f3)] 186 (0, 0)) (by (with_reducible repeat (first | refine blk_drewN ?_ _ | refine blk_drew ?_ | refine blk_alloc ?_ _)); exact BK1007.out) hg (Kd.R_ne HO_3.out BK1007.out (by decide))); have n1_ := Aside0.mk (hb); have n2_ := Aside0.mk (ho); clear BK1007; clear HB; clear HO_3; have BK1007 := n0_; have HB := n1_; have HO1034 := n2_; clear n0_ n1_ n2_; clear ho hb hg hat))
                                          go_roundg kj22
                                          case measure => have := HK1.out; have := HJ6.out; have := HJ22.out; omega
                                          case rel => exact ⟨(y1032), (wrap64 (x4_1 + 1)), (by first | rfl | (simp; done) | (simp [*]; done)), H', ⟨by have := HK1.out; have := HJ6.out; have := HJ22.out; omega⟩, ⟨by (with_reducible repeat (first | apply Kd.R_alloc | apply Kd.R_drewN | apply Kd.R_drew)); exact HO1034.out⟩, ⟨by repeat (first | (with_reducible first | exact HB.out | apply below_alloc | apply pw_below_drewN | apply below_drew1 | refine below_set ?_ GE1007.out) | exact HB.out)⟩⟩
                                        · rw [if_neg c55] at H
                                          exact absurd H (by simp)
                                      · rw [if_neg c53] at H
                                        have c53b0 : decide (600 < (t1029.size : Int)) = false := decide_eq_false c53
                                        have c53b1 : decide (600 < t1029.size) = false := decide_eq_false (by omega)
                                        clear c53; by_cases c60 : x3_1.length < 8796093022208
                                        · rw [if_pos c60] at H
                                          have LMc60 := Aside0.mk c60
                                          clear c60; obtain ⟨y1035, hy1035⟩ : ∃ y_ : List ByteArray, y_ = (x3_1 ++ [t1029]) := ⟨_, rfl⟩
                                          replace H : (gemotlaw2_made_p.l0 kj22 l0 y1035 (wrap64 (x4_1 + 1))) = some r := by first | (rw [hy1035]; with_reducible exact H) | (have H2_ := (Option.bind_some _ _).symm.trans H; rw [hy1035]; with_reducible exact H2_) | (have H2_ := (Option.bind_some _ _).symm.trans H; with_reducible exact H2_) | with_reducible exact H | (rw [hy1035]; exact H) | exact H
                                          have Ny1035 := Aside0.mk hy1035
                                          clear hy1035; have H' := Aside0.mk H
                                          clear H; go_wp2_with (first | ((with_reducible refine gate_callee (f := 83) rfl ?_); refine goesL_ (some 72) rfl rfl Try.func83 (by kernel_rfl) rfl #[.string (rdOf ByteArray.empty x3_1 t1008)] rfl (by simp only [List.map_toArray, List.map_cons, List.map_nil] <;> rfl) ?_; (with_reducible refine (term_Key.calls (rdOf ByteArray.empty x3_1 t1008) t1029 t1030 _ A51.out).mono ?_); rintro e w61 ⟨rfl, hb⟩; refine ⟨_, rfl, ?_⟩; have n0_ := Aside0.mk (Kd.R_below (by (with_reducible repeat (first | apply Kd.R_alloc | apply Kd.R_drewN | apply Kd.R_drew)); exact HO_3.out) hb); have n1_ := Aside0.mk (blk_below (g := gb1007) (o := .cells #[.int .i64 ((rd_T186 l0 x4_1).f0), .int .i64 ((rd_T186 l0 x4_1).f1), .int .i64 ((rd_T186 l0 x4_1).f2), .int .i64 ((rd_T186 l0 x4_1).f3)] 186 (0, 0)) (by (with_reducible repeat (first | refine blk_drewN ?_ _ | refine blk_drew ?_ | refine blk_alloc ?_ _)); exact BK1007.out) hb); have n2_ := Aside0.mk (below_step (by repeat (with_reducible first | exact HB.out | apply below_alloc | apply pw_below_drewN | apply below_drew1 | refine below_set ?_ GE1007.out)) hb); clear HO_3; clear BK1007; clear HB; have HO_3 := n0_; have BK1007 := n1_; have HB := n2_; clear n0_ n1_ n2_; (try clear hb)) | ((with_reducible refine gate_builtin (b := .append) (xs := #[.tmp 118, .tmp 120]) rfl ?_); (try (refine gate_guard (by rfl) ?_; dsimp only)); at_builtin; refine Kd.R_append Kd.string (w0 := w) w.heap.size rfl (.tmp 118) (.tmp 120) 44 48 (.string ⟨#[]⟩) 16 rfl Try.underlying44 info48 rfl (by decide) (by omega) (.slice (some ad1009) x3_1.length co26) x3_1 t1029 [.string t1029] (fun _ => True) (fun _ => False) rfl rfl ?aP (fun _ hk => hk.elim) ?aF ?aO ?aB ?aS ?aL ?_; (case aP => exact rfl); (case aB => exact (by repeat (with_reducible first | exact HB.out | apply below_alloc | apply pw_below_drewN | apply below_drew1 | refine below_set ?_ GE1007.out))); (case aF => exact (fun _ _ => trivial)); (case aO => exact (by (with_reducible repeat (first | apply Kd.R_alloc | apply Kd.R_drewN | apply Kd.R_drew)); exact HO_3.out)); (case aS => exact (below_size (by repeat (with_reducible first | exact HB.out | apply below_alloc | apply pw_below_drewN | apply below_drew1 | refine below_set ?_ GE1007.out)))); (case aL => have := LMc60.out; omega); intro v1036 w62 ho hb hg hat; rw [← Ny1035.out] at ho; have n0_ := Aside0.mk (blk_grown (g := gb1007) (o := .cells #[.int .i64 ((rd_T186 l0 x4_1).f0), .int .i64 ((rd_T186 l0 x4_1).f1), .int .i64 ((rd_T186 l0 x4_1).f2), .int .i64 ((rd_T186 l0 x4_1).f3)] 186 (0, 0)) (by (with_reducible repeat (first | refine blk_drewN ?_ _ | refine blk_drew ?_ | refine blk_alloc ?_ _)); exact BK1007.out) hg (Kd.R_ne HO_3.out BK1007.out (by decide))); have n1_ := Aside0.mk (hb); have n2_ := Aside0.mk (ho); clear BK1007; clear HB; clear HO_3; have BK1007 := n0_; have HB := n1_; have HO1037 := n2_; clear n0_ n1_ n2_; clear ho hb hg hat))
                                          go_roundg kj22
                                          case measure => have := HK1.out; have := HJ6.out; have := HJ22.out; omega
                                          case rel => exact ⟨(y1035), (wrap64 (x4_1 + 1)), (by first | rfl | (simp; done) | (simp [*]; done)), H', ⟨by have := HK1.out; have := HJ6.out; have := HJ22.out; omega⟩, ⟨by (with_reducible repeat (first | apply Kd.R_alloc | apply Kd.R_drewN | apply Kd.R_drew)); exact HO1037.out⟩, ⟨by repeat (first | (with_reducible first | exact HB.out | apply below_alloc | apply pw_below_drewN | apply below_drew1 | refine below_set ?_ GE1007.out) | exact HB.out)⟩⟩
                                        · rw [if_neg c60] at H
                                          exact absurd H (by simp)
                                    · rw [if_neg c52] at H
                                      have c52b0 : (t1030 == 0) = false := beq_eq_false_iff_ne.mpr c52
                                      have c52b1 : (t1030 != 0) = true := bne_iff_ne.mpr c52
                                      replace H := Option.bind_eq_some_iff.mp H
                                      obtain ⟨t1038, A630, H⟩ := H; replace H : (if x3_1.length < 8796093022208 then (gemotlaw2_made_p.l0 kj22 l0 (x3_1 ++ [t1038]) (wrap64 (x4_1 + 1))) else (none)) = some r := H
                                      have A63 := Aside0.mk A630
                                      clear A630; by_cases c64 : x3_1.length < 8796093022208
                                      · rw [if_pos c64] at H
                                        have LMc64 := Aside0.mk c64
                                        clear c64; obtain ⟨y1039, hy1039⟩ : ∃ y_ : List ByteArray, y_ = (x3_1 ++ [t1038]) := ⟨_, rfl⟩
                                        replace H : (gemotlaw2_made_p.l0 kj22 l0 y1039 (wrap64 (x4_1 + 1))) = some r := by first | (rw [hy1039]; with_reducible exact H) | (have H2_ := (Option.bind_some _ _).symm.trans H; rw [hy1039]; with_reducible exact H2_) | (have H2_ := (Option.bind_some _ _).symm.trans H; with_reducible exact H2_) | with_reducible exact H | (rw [hy1039]; exact H) | exact H
                                        have Ny1039 := Aside0.mk hy1039
                                        clear hy1039; have H' := Aside0.mk H
                                        clear H; go_wp2_with (first | ((with_reducible refine gate_callee (f := 83) rfl ?_); refine goesL_ (some 72) rfl rfl Try.func83 (by kernel_rfl) rfl #[.string (rdOf ByteArray.empty x3_1 t1008)] rfl (by simp only [List.map_toArray, List.map_cons, List.map_nil] <;> rfl) ?_; (with_reducible refine (term_Key.calls (rdOf ByteArray.empty x3_1 t1008) t1029 t1030 _ A51.out).mono ?_); rintro e w65 ⟨rfl, hb⟩; refine ⟨_, rfl, ?_⟩; have n0_ := Aside0.mk (Kd.R_below (by (with_reducible repeat (first | apply Kd.R_alloc | apply Kd.R_drewN | apply Kd.R_drew)); exact HO_3.out) hb); have n1_ := Aside0.mk (blk_below (g := gb1007) (o := .cells #[.int .i64 ((rd_T186 l0 x4_1).f0), .int .i64 ((rd_T186 l0 x4_1).f1), .int .i64 ((rd_T186 l0 x4_1).f2), .int .i64 ((rd_T186 l0 x4_1).f3)] 186 (0, 0)) (by (with_reducible repeat (first | refine blk_drewN ?_ _ | refine blk_drew ?_ | refine blk_alloc ?_ _)); exact BK1007.out) hb); have n2_ := Aside0.mk (below_step (by repeat (with_reducible first | exact HB.out | apply below_alloc | apply pw_below_drewN | apply below_drew1 | refine below_set ?_ GE1007.out)) hb); clear HO_3; clear BK1007; clear HB; have HO_3 := n0_; have BK1007 := n1_; have HB := n2_; clear n0_ n1_ n2_; (try clear hb); have hcz66_0 : w65.cell? ⟨gb1007, 0, none⟩ = some (.int .i64 ((rd_T186 l0 x4_1).f0)) := (blk_cell BK1007.out 0).trans rfl; have hcz66_1 : w65.cell? ⟨gb1007, 1, none⟩ = some (.int .i64 ((rd_T186 l0 x4_1).f1)) := (blk_cell BK1007.out 1).trans rfl; have hcz66_2 : w65.cell? ⟨gb1007, 2, none⟩ = some (.int .i64 ((rd_T186 l0 x4_1).f2)) := (blk_cell BK1007.out 2).trans rfl; have hcz66_3 : w65.cell? ⟨gb1007, 3, none⟩ = some (.int .i64 ((rd_T186 l0 x4_1).f3)) := (blk_cell BK1007.out 3).trans rfl; have hfz66_0 := blk_frozen BK1007.out 0; have hfz66_1 := blk_frozen BK1007.out 1; have hfz66_2 := blk_frozen BK1007.out 2; have hfz66_3 := blk_frozen BK1007.out 3) | ((with_reducible refine gate_callee (f := 122) rfl ?_); refine goesL_ (some 117) rfl rfl Try.func122 (by kernel_rfl) rfl #[.int .i64 ((rd_T186 l0 x4_1).f2)] rfl (by simp only [List.map_toArray, List.map_cons, List.map_nil] <;> rfl) ?_; (with_reducible refine (gemotlaw2_name.calls ((rd_T186 l0 x4_1).f2) t1038 _ A63.out).mono ?_); rintro e w67 ⟨rfl, hb⟩; refine ⟨_, rfl, ?_⟩; have n0_ := Aside0.mk (Kd.R_below (by (with_reducible repeat (first | apply Kd.R_alloc | apply Kd.R_drewN | apply Kd.R_drew)); exact HO_3.out) hb); have n1_ := Aside0.mk (blk_below (g := gb1007) (o := .cells #[.int .i64 ((rd_T186 l0 x4_1).f0), .int .i64 ((rd_T186 l0 x4_1).f1), .int .i64 ((rd_T186 l0 x4_1).f2), .int .i64 ((rd_T186 l0 x4_1).f3)] 186 (0, 0)) (by (with_reducible repeat (first | refine blk_drewN ?_ _ | refine blk_drew ?_ | refine blk_alloc ?_ _)); exact BK1007.out) hb); have n2_ := Aside0.mk (below_step (by repeat (with_reducible first | exact HB.out | apply below_alloc | apply pw_below_drewN | apply below_drew1 | refine below_set ?_ GE1007.out)) hb); clear HO_3; clear BK1007; clear HB; have HO_3 := n0_; have BK1007 := n1_; have HB := n2_; clear n0_ n1_ n2_; (try clear hb)) | ((with_reducible refine gate_builtin (b := .append) (xs := #[.tmp 118, .tmp 120]) rfl ?_); (try (refine gate_guard (by rfl) ?_; dsimp only)); at_builtin; refine Kd.R_append Kd.string (w0 := w) w.heap.size rfl (.tmp 118) (.tmp 120) 44 48 (.string ⟨#[]⟩) 16 rfl Try.underlying44 info48 rfl (by decide) (by omega) (.slice (some ad1009) x3_1.length co26) x3_1 t1038 [.string t1038] (fun _ => True) (fun _ => False) rfl rfl ?aP (fun _ hk => hk.elim) ?aF ?aO ?aB ?aS ?aL ?_; (case aP => exact rfl); (case aB => exact (by repeat (with_reducible first | exact HB.out | apply below_alloc | apply pw_below_drewN | apply below_drew1 | refine below_set ?_ GE1007.out))); (case aF => exact (fun _ _ => trivial)); (case aO => exact (by (with_reducible repeat (first | apply Kd.R_alloc | apply Kd.R_drewN | apply Kd.R_drew)); exact HO_3.out)); (case aS => exact (below_size (by repeat (with_reducible first | exact HB.out | apply below_alloc | apply pw_below_drewN | apply below_drew1 | refine below_set ?_ GE1007.out)))); (case aL => have := LMc64.out; omega); intro v1040 w68 ho hb hg hat; rw [← Ny1039.out] at ho; have n0_ := Aside0.mk (blk_grown (g := gb1007) (o := .cells #[.int .i64 ((rd_T186 l0 x4_1).f0), .int .i64 ((rd_T186 l0 x4_1).f1), .int .i64 ((rd_T186 l0 x4_1).f2), .int .i64 ((rd_T186 l0 x4_1).f3)] 186 (0, 0)) (by (with_reducible repeat (first | refine blk_drewN ?_ _ | refine blk_drew ?_ | refine blk_alloc ?_ _)); exact BK1007.out) hg (Kd.R_ne HO_3.out BK1007.out (by decide))); have n1_ := Aside0.mk (hb); have n2_ := Aside0.mk (ho); clear BK1007; clear HB; clear HO_3; have BK1007 := n0_; have HB := n1_; have HO1041 := n2_; clear n0_ n1_ n2_; clear ho hb hg hat))
                                        go_roundg kj22
                                        case measure => have := HK1.out; have := HJ6.out; have := HJ22.out; omega
                                        case rel => exact ⟨(y1039), (wrap64 (x4_1 + 1)), (by first | rfl | (simp; done) | (simp [*]; done)), H', ⟨by have := HK1.out; have := HJ6.out; have := HJ22.out; omega⟩, ⟨by (with_reducible repeat (first | apply Kd.R_alloc | apply Kd.R_drewN | apply Kd.R_drew)); exact HO1041.out⟩, ⟨by repeat (first | (with_reducible first | exact HB.out | apply below_alloc | apply pw_below_drewN | apply below_drew1 | refine below_set ?_ GE1007.out) | exact HB.out)⟩⟩
                                      · rw [if_neg c64] at H
                                        exact absurd H (by simp)
                                  · rw [if_neg c50] at H
                                    have c50b0 : (t1015 == 4) = false := beq_eq_false_iff_ne.mpr c50
                                    have c50b1 : (t1015 != 4) = true := bne_iff_ne.mpr c50
                                    have HC69 := Aside0.mk H
                                    clear H; go_upto_if 75 with (fail)
                                    go_cut [75] (fun v75 wc => ∃ (kq : Nat) (x75_68 : Bool), v75 = .bool x75_68 ∧ Aside0 (gemotlaw2_made_p.j3 kq l0 x3_1 x4_1 (rdOf ByteArray.empty x3_1 t1008) (rdOf ByteArray.empty x3_1 t1010) (rdOf ByteArray.empty x3_1 t1012) t1014 0 t1015 x75_68 ((rd_T186 l0 x4_1).f0) ((rd_T186 l0 x4_1).f1) ((rd_T186 l0 x4_1).f2) ((rd_T186 l0 x4_1).f3) = some r) ∧ Aside0 (kq ≤ kj22) ∧ Aside0 (Kd.R Kd.string 48 wc w.heap.size (fun _ => True) (.slice (some ad1009) x3_1.length co26) x3_1) ∧ Aside0 (wc.heap[gb1007]? = some (.cells #[.int .i64 ((rd_T186 l0 x4_1).f0), .int .i64 ((rd_T186 l0 x4_1).f1), .int .i64 ((rd_T186 l0 x4_1).f2), .int .i64 ((rd_T186 l0 x4_1).f3)] 186 (0, 0))) ∧ Aside0 (Below w.heap.size w wc))
                                    case first =>
                                      have H := HC69.out; clear HC69; by_cases c70 : t1015 = 5
                                      · rw [if_pos c70] at H
                                        have c70b0 : (t1015 == 5) = true := beq_iff_eq.mpr c70
                                        have c70b1 : (t1015 != 5) = false := bne_eq_false_iff_eq.mpr c70
                                        clear c70; (first | rw [c70b0] | (simp only [i64_w, i32_w]; rw [c70b0]) | skip); have H' := Aside0.mk H
                                        clear H; go_wp2; go_meet
                                        case rel => exact ⟨_, ((t1015 == 5)), (by first | rfl | (simp; done) | (simp [*]; done)), H', ⟨by have := HK1.out; have := HJ6.out; have := HJ22.out; first | omega | exact Nat.le_refl _⟩, ⟨by (with_reducible repeat (first | apply Kd.R_alloc | apply Kd.R_drewN | apply Kd.R_drew)); exact HO_3.out⟩, ⟨by (with_reducible repeat (first | refine blk_drewN ?_ _ | refine blk_drew ?_ | refine blk_alloc ?_ _)); exact BK1007.out⟩, ⟨by repeat (first | (with_reducible first | exact HB.out | apply below_alloc | apply pw_below_drewN | apply below_drew1 | refine below_set ?_ GE1007.out) | exact HB.out)⟩⟩
                                      · rw [if_neg c70] at H
                                        have c70b0 : (t1015 == 5) = false := beq_eq_false_iff_ne.mpr c70
                                        have c70b1 : (t1015 != 5) = true := bne_iff_ne.mpr c70
                                        (first | rw [c70b0] | (simp only [i64_w, i32_w]; rw [c70b0]) | skip); have H' := Aside0.mk H
                                        clear H; go_wp2; go_meet
                                        case rel => exact ⟨_, ((t1015 == 6)), (by first | rfl | (simp; done) | (simp [*]; done)), H', ⟨by have := HK1.out; have := HJ6.out; have := HJ22.out; first | omega | exact Nat.le_refl _⟩, ⟨by (with_reducible repeat (first | apply Kd.R_alloc | apply Kd.R_drewN | apply Kd.R_drew)); exact HO_3.out⟩, ⟨by (with_reducible repeat (first | refine blk_drewN ?_ _ | refine blk_drew ?_ | refine blk_alloc ?_ _)); exact BK1007.out⟩, ⟨by repeat (first | (with_reducible first | exact HB.out | apply below_alloc | apply pw_below_drewN | apply below_drew1 | refine below_set ?_ GE1007.out) | exact HB.out)⟩⟩
                                    case rest =>
                                      clear HC69; try clear c1
                                      try clear p1
                                      try clear q1
                                      try clear hx1
                                      try clear c2
                                      try clear p2
                                      try clear c3
                                      try clear c4
                                      try clear c5
                                      try clear c6
                                      try clear p6
                                      try clear c7
                                      try clear c8
                                      try clear c8b0
                                      try clear c9
                                      try clear c10
                                      try clear c10b0
                                      try clear p10
                                      try clear q10
                                      try clear hx10
                                      try clear c11
                                      try clear c11b0
                                      try clear c12
                                      try clear c13
                                      try clear c13b0
                                      try clear c14
                                      try clear c14b0
                                      try clear c16
                                      try clear c16b0
                                      try clear c17
                                      try clear c17b0
                                      try clear c19
                                      try clear c19b0
                                      try clear c20
                                      try clear c20b0
                                      try clear c29
                                      try clear c29b0
                                      try clear c29b1
                                      try clear c30
                                      try clear c30b0
                                      try clear c30b1
                                      try clear c31
                                      try clear c33
                                      try clear c33b0
                                      try clear c33b1
                                      try clear c34
                                      try clear c34b0
                                      try clear c34b1
                                      try clear c36
                                      try clear c41
                                      try clear c45
                                      try clear c50
                                      try clear c50b0
                                      try clear c50b1
                                      try clear c52
                                      try clear c52b0
                                      try clear c52b1
                                      try clear c53
                                      try clear c53b0
                                      try clear c53b1
                                      try clear c55
                                      try clear c60
                                      try clear c64
                                      try clear p64
                                      try clear c70
                                      try clear c70b0
                                      try clear c70b1
                                      try clear hcz25_0
                                      try clear hcz25_1
                                      try clear hcz25_2
                                      try clear hcz25_3
                                      try clear hcz28_0
                                      try clear hcz28_1
                                      try clear hcz28_2
                                      try clear hcz28_3
                                      try clear hcz38_0
                                      try clear hcz38_1
                                      try clear hcz38_2
                                      try clear hcz38_3
                                      try clear hcz47_0
                                      try clear hcz47_1
                                      try clear hcz47_2
                                      try clear hcz47_3
                                      try clear hcz57_0
                                      try clear hcz57_1
                                      try clear hcz57_2
                                      try clear hcz57_3
                                      try clear hcz66_0
                                      try clear hcz66_1
                                      try clear hcz66_2
                                      try clear hcz66_3
                                      try clear hfz25_0
                                      try clear hfz25_1
                                      try clear hfz25_2
                                      try clear hfz25_3
                                      try clear hfz28_0
                                      try clear hfz28_1
                                      try clear hfz28_2
                                      try clear hfz28_3
                                      try clear hfz38_0
                                      try clear hfz38_1
                                      try clear hfz38_2
                                      try clear hfz38_3
                                      try clear hfz47_0
                                      try clear hfz47_1
                                      try clear hfz47_2
                                      try clear hfz47_3
                                      try clear hfz57_0
                                      try clear hfz57_1
                                      try clear hfz57_2
                                      try clear hfz57_3
                                      try clear hfz66_0
                                      try clear hfz66_1
                                      try clear hfz66_2
                                      try clear hfz66_3
                                      try clear hx1006_0
                                      try clear hx1006_1
                                      try clear hx1006_2
                                      try clear hx1006_3
                                      try clear hx1009_0
                                      try clear hx1011_0
                                      try clear hx1013_0
                                      try clear p1
                                      try clear p10
                                      try clear p1006
                                      try clear p1009
                                      try clear p1011
                                      try clear p1013
                                      try clear p2
                                      try clear q1
                                      try clear q10
                                      try clear q1006
                                      try clear q1009
                                      try clear q1011
                                      try clear q1013
                                      obtain ⟨kq, x75_68, rfl, HA, HJ68, HO_3, BK1007, HB⟩ := hcut; cases kq with
                                      | zero => exact absurd HA.out (by simp [gemotlaw2_made_p.j3])
                                      | succ kj68 =>
                                        have H := HA.out; clear HA; simp only [gemotlaw2_made_p.j3] at H; by_cases c71 : x75_68 = true
                                        · subst c71; have H1 : ((term_Pair.f (rdOf ByteArray.empty x3_1 t1008) (rdOf ByteArray.empty x3_1 t1010)).bind fun bt1042 => (if bt1042.2 = 0 then (if (bt1042.1.size : Int) > 600 then ((gemotlaw2_name.f ((rd_T186 l0 x4_1).f2)).bind fun t1044 => (if x3_1.length < 8796093022208 then (gemotlaw2_made_p.l0 kj68 l0 (x3_1 ++ [t1044]) (wrap64 (x4_1 + 1))) else (none))) else (if x3_1.length < 8796093022208 then (gemotlaw2_made_p.l0 kj68 l0 (x3_1 ++ [bt1042.1]) (wrap64 (x4_1 + 1))) else (none))) else ((gemotlaw2_name.f ((rd_T186 l0 x4_1).f2)).bind fun t1051 => (if x3_1.length < 8796093022208 then (gemotlaw2_made_p.l0 kj68 l0 (x3_1 ++ [t1051]) (wrap64 (x4_1 + 1))) else (none))))) = some r := by rw [if_pos rfl] at H; exact H
                                          clear H; have H := H1; clear H1; replace H := Option.bind_eq_some_iff.mp H
                                          obtain ⟨⟨t1042, t1043⟩, A720, H⟩ := H
                                          replace H : (if t1043 = 0 then (if (t1042.size : Int) > 600 then ((gemotlaw2_name.f ((rd_T186 l0 x4_1).f2)).bind fun t1044 => (if x3_1.length < 8796093022208 then (gemotlaw2_made_p.l0 kj68 l0 (x3_1 ++ [t1044]) (wrap64 (x4_1 + 1))) else (none))) else (if x3_1.length < 8796093022208 then (gemotlaw2_made_p.l0 kj68 l0 (x3_1 ++ [t1042]) (wrap64 (x4_1 + 1))) else (none))) else ((gemotlaw2_name.f ((rd_T186 l0 x4_1).f2)).bind fun t1051 => (if x3_1.length < 8796093022208 then (gemotlaw2_made_p.l0 kj68 l0 (x3_1 ++ [t1051]) (wrap64 (x4_1 + 1))) else (none)))) = some r := H
                                          have A72 := Aside0.mk A720
                                          clear A720; by_cases c73 : t1043 = 0
                                          · rw [if_pos c73] at H
                                            have c73b0 : (t1043 == 0) = true := beq_iff_eq.mpr c73
                                            have c73b1 : (t1043 != 0) = false := bne_eq_false_iff_eq.mpr c73
                                            clear c73; by_cases c74 : (t1042.size : Int) > 600
                                            · rw [if_pos c74] at H
                                              have c74b0 : decide (600 < (t1042.size : Int)) = true := decide_eq_true c74
                                              have c74b1 : decide (600 < t1042.size) = true := decide_eq_true (by omega)
                                              clear c74; replace H := Option.bind_eq_some_iff.mp H
                                              obtain ⟨t1044, A750, H⟩ := H; replace H : (if x3_1.length < 8796093022208 then (gemotlaw2_made_p.l0 kj68 l0 (x3_1 ++ [t1044]) (wrap64 (x4_1 + 1))) else (none)) = some r := H
                                              have A75 := Aside0.mk A750
                                              clear A750; by_cases c76 : x3_1.length < 8796093022208
                                              · rw [if_pos c76] at H
                                                have LMc76 := Aside0.mk c76
                                                clear c76; obtain ⟨y1045, hy1045⟩ : ∃ y_ : List ByteArray, y_ = (x3_1 ++ [t1044]) := ⟨_, rfl⟩
                                                replace H : (gemotlaw2_made_p.l0 kj68 l0 y1045 (wrap64 (x4_1 + 1))) = some r := by first | (rw [hy1045]; with_reducible exact H) | (have H2_ := (Option.bind_some _ _).symm.trans H; rw [hy1045]; with_reducible exact H2_) | (have H2_ := (Option.bind_some _ _).symm.trans H; with_reducible exact H2_) | with_reducible exact H | (rw [hy1045]; exact H) | exact H
                                                have Ny1045 := Aside0.mk hy1045
                                                clear hy1045; have H' := Aside0.mk H
                                                clear H; go_wp2_with (first | ((with_reducible refine gate_callee (f := 123) rfl ?_); refine goesL_ (some 81) rfl rfl Try.func123 (by kernel_rfl) rfl #[.string (rdOf ByteArray.empty x3_1 t1008), .string (rdOf ByteArray.empty x3_1 t1010)] rfl (by simp only [List.map_toArray, List.map_cons, List.map_nil] <;> rfl) ?_; (with_reducible refine (term_Pair.calls (rdOf ByteArray.empty x3_1 t1008) (rdOf ByteArray.empty x3_1 t1010) t1042 t1043 _ A72.out).mono ?_); rintro e w77 ⟨rfl, hb⟩; refine ⟨_, rfl, ?_⟩; have n0_ := Aside0.mk (Kd.R_below (by (with_reducible repeat (first | apply Kd.R_alloc | apply Kd.R_drewN | apply Kd.R_drew)); exact HO_3.out) hb); have n1_ := Aside0.mk (blk_below (g := gb1007) (o := .cells #[.int .i64 ((rd_T186 l0 x4_1).f0), .int .i64 ((rd_T186 l0 x4_1).f1), .int .i64 ((rd_T186 l0 x4_1).f2), .int .i64 ((rd_T186 l0 x4_1).f3)] 186 (0, 0)) (by (with_reducible repeat (first | refine blk_drewN ?_ _ | refine blk_drew ?_ | refine blk_alloc ?_ _)); exact BK1007.out) hb); have n2_ := Aside0.mk (below_step (by repeat (with_reducible first | exact HB.out | apply below_alloc | apply pw_below_drewN | apply below_drew1 | refine below_set ?_ GE1007.out)) hb); clear HO_3; clear BK1007; clear HB; have HO_3 := n0_; have BK1007 := n1_; have HB := n2_; clear n0_ n1_ n2_; (try clear hb); have hcz78_0 : w77.cell? ⟨gb1007, 0, none⟩ = some (.int .i64 ((rd_T186 l0 x4_1).f0)) := (blk_cell BK1007.out 0).trans rfl; have hcz78_1 : w77.cell? ⟨gb1007, 1, none⟩ = some (.int .i64 ((rd_T186 l0 x4_1).f1)) := (blk_cell BK1007.out 1).trans rfl; have hcz78_2 : w77.cell? ⟨gb1007, 2, none⟩ = some (.int .i64 ((rd_T186 l0 x4_1).f2)) := (blk_cell BK1007.out 2).trans rfl; have hcz78_3 : w77.cell? ⟨gb1007, 3, none⟩ = some (.int .i64 ((rd_T186 l0 x4_1).f3)) := (blk_cell BK1007.out 3).trans rfl; have hfz78_0 := blk_frozen BK1007.out 0; have hfz78_1 := blk_frozen BK1007.out 1; have hfz78_2 := blk_frozen BK1007.out 2; have hfz78_3 := blk_frozen BK1007.out 3) | ((with_reducible refine gate_callee (f := 122) rfl ?_); refine goesL_ (some 117) rfl rfl Try.func122 (by kernel_rfl) rfl #[.int .i64 ((rd_T186 l0 x4_1).f2)] rfl (by simp only [List.map_toArray, List.map_cons, List.map_nil] <;> rfl) ?_; (with_reducible refine (gemotlaw2_name.calls ((rd_T186 l0 x4_1).f2) t1044 _ A75.out).mono ?_); rintro e w79 ⟨rfl, hb⟩; refine ⟨_, rfl, ?_⟩; have n0_ := Aside0.mk (Kd.R_below (by (with_reducible repeat (first | apply Kd.R_alloc | apply Kd.R_drewN | apply Kd.R_drew)); exact HO_3.out) hb); have n1_ := Aside0.mk (blk_below (g := gb1007) (o := .cells #[.int .i64 ((rd_T186 l0 x4_1).f0), .int .i64 ((rd_T186 l0 x4_1).f1), .int .i64 ((rd_T186 l0 x4_1).f2), .int .i64 ((rd_T186 l0 x4_1).f3)] 186 (0, 0)) (by (with_reducible repeat (first | refine blk_drewN ?_ _ | refine blk_drew ?_ | refine blk_alloc ?_ _)); exact BK1007.out) hb); have n2_ := Aside0.mk (below_step (by repeat (with_reducible first | exact HB.out | apply below_alloc | apply pw_below_drewN | apply below_drew1 | refine below_set ?_ GE1007.out)) hb); clear HO_3; clear BK1007; clear HB; have HO_3 := n0_; have BK1007 := n1_; have HB := n2_; clear n0_ n1_ n2_; (try clear hb)) | ((with_reducible refine gate_builtin (b := .append) (xs := #[.tmp 118, .tmp 120]) rfl ?_); (try (refine gate_guard (by rfl) ?_; dsimp only)); at_builtin; refine Kd.R_append Kd.string (w0 := w) w.heap.size rfl (.tmp 118) (.tmp 120) 44 48 (.string ⟨#[]⟩) 16 rfl Try.underlying44 info48 rfl (by decide) (by omega) (.slice (some ad1009) x3_1.length co26) x3_1 t1044 [.string t1044] (fun _ => True) (fun _ => False) rfl rfl ?aP (fun _ hk => hk.elim) ?aF ?aO ?aB ?aS ?aL ?_; (case aP => exact rfl); (case aB => exact (by repeat (with_reducible first | exact HB.out | apply below_alloc | apply pw_below_drewN | apply below_drew1 | refine below_set ?_ GE1007.out))); (case aF => exact (fun _ _ => trivial)); (case aO => exact (by (with_reducible repeat (first | apply Kd.R_alloc | apply Kd.R_drewN | apply Kd.R_drew)); exact HO_3.out)); (case aS => exact (below_size (by repeat (with_reducible first | exact HB.out | apply below_alloc | apply pw_below_drewN | apply below_drew1 | refine below_set ?_ GE1007.out)))); (case aL => have := LMc76.out; omega); intro v1046 w80 ho hb hg hat; rw [← Ny1045.out] at ho; have n0_ := Aside0.mk (blk_grown (g := gb1007) (o := .cells #[.int .i64 ((rd_T186 l0 x4_1).f0), .int .i64 ((rd_T186 l0 x4_1).f1), .int .i64 ((rd_T186 l0 x4_1).f2), .int .i64 ((rd_T186 l0 x4_1).f3)] 186 (0, 0)) (by (with_reducible repeat (first | refine blk_drewN ?_ _ | refine blk_drew ?_ | refine blk_alloc ?_ _)); exact BK1007.out) hg (Kd.R_ne HO_3.out BK1007.out (by decide))); have n1_ := Aside0.mk (hb); have n2_ := Aside0.mk (ho); clear BK1007; clear HB; clear HO_3; have BK1007 := n0_; have HB := n1_; have HO1047 := n2_; clear n0_ n1_ n2_; clear ho hb hg hat))
                                                go_roundg kj68
                                                case measure => have := HK1.out; have := HJ6.out; have := HJ22.out; have := HJ68.out; omega
                                                case rel => exact ⟨(y1045), (wrap64 (x4_1 + 1)), (by first | rfl | (simp; done) | (simp [*]; done)), H', ⟨by have := HK1.out; have := HJ6.out; have := HJ22.out; have := HJ68.out; omega⟩, ⟨by (with_reducible repeat (first | apply Kd.R_alloc | apply Kd.R_drewN | apply Kd.R_drew)); exact HO1047.out⟩, ⟨by repeat (first | (with_reducible first | exact HB.out | apply below_alloc | apply pw_below_drewN | apply below_drew1 | refine below_set ?_ GE1007.out) | exact HB.out)⟩⟩
                                              · rw [if_neg c76] at H
                                                exact absurd H (by simp)
                                            · rw [if_neg c74] at H
                                              have c74b0 : decide (600 < (t1042.size : Int)) = false := decide_eq_false c74
                                              have c74b1 : decide (600 < t1042.size) = false := decide_eq_false (by omega)
                                              clear c74; by_cases c81 : x3_1.length < 8796093022208
                                              · rw [if_pos c81] at H
                                                have LMc81 := Aside0.mk c81
                                                clear c81; obtain ⟨y1048, hy1048⟩ : ∃ y_ : List ByteArray, y_ = (x3_1 ++ [t1042]) := ⟨_, rfl⟩
                                                replace H : (gemotlaw2_made_p.l0 kj68 l0 y1048 (wrap64 (x4_1 + 1))) = some r := by first | (rw [hy1048]; with_reducible exact H) | (have H2_ := (Option.bind_some _ _).symm.trans H; rw [hy1048]; with_reducible exact H2_) | (have H2_ := (Option.bind_some _ _).symm.trans H; with_reducible exact H2_) | with_reducible exact H | (rw [hy1048]; exact H) | exact H
                                                have Ny1048 := Aside0.mk hy1048
                                                clear hy1048; have H' := Aside0.mk H
                                                clear H; go_wp2_with (first | ((with_reducible refine gate_callee (f := 123) rfl ?_); refine goesL_ (some 81) rfl rfl Try.func123 (by kernel_rfl) rfl #[.string (rdOf ByteArray.empty x3_1 t1008), .string (rdOf ByteArray.empty x3_1 t1010)] rfl (by simp only [List.map_toArray, List.map_cons, List.map_nil] <;> rfl) ?_; (with_reducible refine (term_Pair.calls (rdOf ByteArray.empty x3_1 t1008) (rdOf ByteArray.empty x3_1 t1010) t1042 t1043 _ A72.out).mono ?_); rintro e w82 ⟨rfl, hb⟩; refine ⟨_, rfl, ?_⟩; have n0_ := Aside0.mk (Kd.R_below (by (with_reducible repeat (first | apply Kd.R_alloc | apply Kd.R_drewN | apply Kd.R_drew)); exact HO_3.out) hb); have n1_ := Aside0.mk (blk_below (g := gb1007) (o := .cells #[.int .i64 ((rd_T186 l0 x4_1).f0), .int .i64 ((rd_T186 l0 x4_1).f1), .int .i64 ((rd_T186 l0 x4_1).f2), .int .i64 ((rd_T186 l0 x4_1).f3)] 186 (0, 0)) (by (with_reducible repeat (first | refine blk_drewN ?_ _ | refine blk_drew ?_ | refine blk_alloc ?_ _)); exact BK1007.out) hb); have n2_ := Aside0.mk (below_step (by repeat (with_reducible first | exact HB.out | apply below_alloc | apply pw_below_drewN | apply below_drew1 | refine below_set ?_ GE1007.out)) hb); clear HO_3; clear BK1007; clear HB; have HO_3 := n0_; have BK1007 := n1_; have HB := n2_; clear n0_ n1_ n2_; (try clear hb)) | ((with_reducible refine gate_builtin (b := .append) (xs := #[.tmp 118, .tmp 120]) rfl ?_); (try (refine gate_guard (by rfl) ?_; dsimp only)); at_builtin; refine Kd.R_append Kd.string (w0 := w) w.heap.size rfl (.tmp 118) (.tmp 120) 44 48 (.string ⟨#[]⟩) 16 rfl Try.underlying44 info48 rfl (by decide) (by omega) (.slice (some ad1009) x3_1.length co26) x3_1 t1042 [.string t1042] (fun _ => True) (fun _ => False) rfl rfl ?aP (fun _ hk => hk.elim) ?aF ?aO ?aB ?aS ?aL ?_; (case aP => exact rfl); (case aB => exact (by repeat (with_reducible first | exact HB.out | apply below_alloc | apply pw_below_drewN | apply below_drew1 | refine below_set ?_ GE1007.out))); (case aF => exact (fun _ _ => trivial)); (case aO => exact (by (with_reducible repeat (first | apply Kd.R_alloc | apply Kd.R_drewN | apply Kd.R_drew)); exact HO_3.out)); (case aS => exact (below_size (by repeat (with_reducible first | exact HB.out | apply below_alloc | apply pw_below_drewN | apply below_drew1 | refine below_set ?_ GE1007.out)))); (case aL => have := LMc81.out; omega); intro v1049 w83 ho hb hg hat; rw [← Ny1048.out] at ho; have n0_ := Aside0.mk (blk_grown (g := gb1007) (o := .cells #[.int .i64 ((rd_T186 l0 x4_1).f0), .int .i64 ((rd_T186 l0 x4_1).f1), .int .i64 ((rd_T186 l0 x4_1).f2), .int .i64 ((rd_T186 l0 x4_1).f3)] 186 (0, 0)) (by (with_reducible repeat (first | refine blk_drewN ?_ _ | refine blk_drew ?_ | refine blk_alloc ?_ _)); exact BK1007.out) hg (Kd.R_ne HO_3.out BK1007.out (by decide))); have n1_ := Aside0.mk (hb); have n2_ := Aside0.mk (ho); clear BK1007; clear HB; clear HO_3; have BK1007 := n0_; have HB := n1_; have HO1050 := n2_; clear n0_ n1_ n2_; clear ho hb hg hat))
                                                go_roundg kj68
                                                case measure => have := HK1.out; have := HJ6.out; have := HJ22.out; have := HJ68.out; omega
                                                case rel => exact ⟨(y1048), (wrap64 (x4_1 + 1)), (by first | rfl | (simp; done) | (simp [*]; done)), H', ⟨by have := HK1.out; have := HJ6.out; have := HJ22.out; have := HJ68.out; omega⟩, ⟨by (with_reducible repeat (first | apply Kd.R_alloc | apply Kd.R_drewN | apply Kd.R_drew)); exact HO1050.out⟩, ⟨by repeat (first | (with_reducible first | exact HB.out | apply below_alloc | apply pw_below_drewN | apply below_drew1 | refine below_set ?_ GE1007.out) | exact HB.out)⟩⟩
                                              · rw [if_neg c81] at H
                                                exact absurd H (by simp)
                                          · rw [if_neg c73] at H
                                            have c73b0 : (t1043 == 0) = false := beq_eq_false_iff_ne.mpr c73
                                            have c73b1 : (t1043 != 0) = true := bne_iff_ne.mpr c73
                                            replace H := Option.bind_eq_some_iff.mp H
                                            obtain ⟨t1051, A840, H⟩ := H; replace H : (if x3_1.length < 8796093022208 then (gemotlaw2_made_p.l0 kj68 l0 (x3_1 ++ [t1051]) (wrap64 (x4_1 + 1))) else (none)) = some r := H
                                            have A84 := Aside0.mk A840
                                            clear A840; by_cases c85 : x3_1.length < 8796093022208
                                            · rw [if_pos c85] at H
                                              have LMc85 := Aside0.mk c85
                                              clear c85; obtain ⟨y1052, hy1052⟩ : ∃ y_ : List ByteArray, y_ = (x3_1 ++ [t1051]) := ⟨_, rfl⟩
                                              replace H : (gemotlaw2_made_p.l0 kj68 l0 y1052 (wrap64 (x4_1 + 1))) = some r := by first | (rw [hy1052]; with_reducible exact H) | (have H2_ := (Option.bind_some _ _).symm.trans H; rw [hy1052]; with_reducible exact H2_) | (have H2_ := (Option.bind_some _ _).symm.trans H; with_reducible exact H2_) | with_reducible exact H | (rw [hy1052]; exact H) | exact H
                                              have Ny1052 := Aside0.mk hy1052
                                              clear hy1052; have H' := Aside0.mk H
                                              clear H; go_wp2_with (first | ((with_reducible refine gate_callee (f := 123) rfl ?_); refine goesL_ (some 81) rfl rfl Try.func123 (by kernel_rfl) rfl #[.string (rdOf ByteArray.empty x3_1 t1008), .string (rdOf ByteArray.empty x3_1 t1010)] rfl (by simp only [List.map_toArray, List.map_cons, List.map_nil] <;> rfl) ?_; (with_reducible refine (term_Pair.calls (rdOf ByteArray.empty x3_1 t1008) (rdOf ByteArray.empty x3_1 t1010) t1042 t1043 _ A72.out).mono ?_); rintro e w86 ⟨rfl, hb⟩; refine ⟨_, rfl, ?_⟩; have n0_ := Aside0.mk (Kd.R_below (by (with_reducible repeat (first | apply Kd.R_alloc | apply Kd.R_drewN | apply Kd.R_drew)); exact HO_3.out) hb); have n1_ := Aside0.mk (blk_below (g := gb1007) (o := .cells #[.int .i64 ((rd_T186 l0 x4_1).f0), .int .i64 ((rd_T186 l0 x4_1).f1), .int .i64 ((rd_T186 l0 x4_1).f2), .int .i64 ((rd_T186 l0 x4_1).f3)] 186 (0, 0)) (by (with_reducible repeat (first | refine blk_drewN ?_ _ | refine blk_drew ?_ | refine blk_alloc ?_ _)); exact BK1007.out) hb); have n2_ := Aside0.mk (below_step (by repeat (with_reducible first | exact HB.out | apply below_alloc | apply pw_below_drewN | apply below_drew1 | refine below_set ?_ GE1007.out)) hb); clear HO_3; clear BK1007; clear HB; have HO_3 := n0_; have BK1007 := n1_; have HB := n2_; clear n0_ n1_ n2_; (try clear hb); have hcz87_0 : w86.cell? ⟨gb1007, 0, none⟩ = some (.int .i64 ((rd_T186 l0 x4_1).f0)) := (blk_cell BK1007.out 0).trans rfl; have hcz87_1 : w86.cell? ⟨gb1007, 1, none⟩ = some (.int .i64 ((rd_T186 l0 x4_1).f1)) := (blk_cell BK1007.out 1).trans rfl; have hcz87_2 : w86.cell? ⟨gb1007, 2, none⟩ = some (.int .i64 ((rd_T186 l0 x4_1).f2)) := (blk_cell BK1007.out 2).trans rfl; have hcz87_3 : w86.cell? ⟨gb1007, 3, none⟩ = some (.int .i64 ((rd_T186 l0 x4_1).f3)) := (blk_cell BK1007.out 3).trans rfl; have hfz87_0 := blk_frozen BK1007.out 0; have hfz87_1 := blk_frozen BK1007.out 1; have hfz87_2 := blk_frozen BK1007.out 2; have hfz87_3 := blk_frozen BK1007.out 3) | ((with_reducible refine gate_callee (f := 122) rfl ?_); refine goesL_ (some 117) rfl rfl Try.func122 (by kernel_rfl) rfl #[.int .i64 ((rd_T186 l0 x4_1).f2)] rfl (by simp only [List.map_toArray, List.map_cons, List.map_nil] <;> rfl) ?_; (with_reducible refine (gemotlaw2_name.calls ((rd_T186 l0 x4_1).f2) t1051 _ A84.out).mono ?_); rintro e w88 ⟨rfl, hb⟩; refine ⟨_, rfl, ?_⟩; have n0_ := Aside0.mk (Kd.R_below (by (with_reducible repeat (first | apply Kd.R_alloc | apply Kd.R_drewN | apply Kd.R_drew)); exact HO_3.out) hb); have n1_ := Aside0.mk (blk_below (g := gb1007) (o := .cells #[.int .i64 ((rd_T186 l0 x4_1).f0), .int .i64 ((rd_T186 l0 x4_1).f1), .int .i64 ((rd_T186 l0 x4_1).f2), .int .i64 ((rd_T186 l0 x4_1).f3)] 186 (0, 0)) (by (with_reducible repeat (first | refine blk_drewN ?_ _ | refine blk_drew ?_ | refine blk_alloc ?_ _)); exact BK1007.out) hb); have n2_ := Aside0.mk (below_step (by repeat (with_reducible first | exact HB.out | apply below_alloc | apply pw_below_drewN | apply below_drew1 | refine below_set ?_ GE1007.out)) hb); clear HO_3; clear BK1007; clear HB; have HO_3 := n0_; have BK1007 := n1_; have HB := n2_; clear n0_ n1_ n2_; (try clear hb)) | ((with_reducible refine gate_builtin (b := .append) (xs := #[.tmp 118, .tmp 120]) rfl ?_); (try (refine gate_guard (by rfl) ?_; dsimp only)); at_builtin; refine Kd.R_append Kd.string (w0 := w) w.heap.size rfl (.tmp 118) (.tmp 120) 44 48 (.string ⟨#[]⟩) 16 rfl Try.underlying44 info48 rfl (by decide) (by omega) (.slice (some ad1009) x3_1.length co26) x3_1 t1051 [.string t1051] (fun _ => True) (fun _ => False) rfl rfl ?aP (fun _ hk => hk.elim) ?aF ?aO ?aB ?aS ?aL ?_; (case aP => exact rfl); (case aB => exact (by repeat (with_reducible first | exact HB.out | apply below_alloc | apply pw_below_drewN | apply below_drew1 | refine below_set ?_ GE1007.out))); (case aF => exact (fun _ _ => trivial)); (case aO => exact (by (with_reducible repeat (first | apply Kd.R_alloc | apply Kd.R_drewN | apply Kd.R_drew)); exact HO_3.out)); (case aS => exact (below_size (by repeat (with_reducible first | exact HB.out | apply below_alloc | apply pw_below_drewN | apply below_drew1 | refine below_set ?_ GE1007.out)))); (case aL => have := LMc85.out; omega); intro v1053 w89 ho hb hg hat; rw [← Ny1052.out] at ho; have n0_ := Aside0.mk (blk_grown (g := gb1007) (o := .cells #[.int .i64 ((rd_T186 l0 x4_1).f0), .int .i64 ((rd_T186 l0 x4_1).f1), .int .i64 ((rd_T186 l0 x4_1).f2), .int .i64 ((rd_T186 l0 x4_1).f3)] 186 (0, 0)) (by (with_reducible repeat (first | refine blk_drewN ?_ _ | refine blk_drew ?_ | refine blk_alloc ?_ _)); exact BK1007.out) hg (Kd.R_ne HO_3.out BK1007.out (by decide))); have n1_ := Aside0.mk (hb); have n2_ := Aside0.mk (ho); clear BK1007; clear HB; clear HO_3; have BK1007 := n0_; have HB := n1_; have HO1054 := n2_; clear n0_ n1_ n2_; clear ho hb hg hat))
                                              go_roundg kj68
                                              case measure => have := HK1.out; have := HJ6.out; have := HJ22.out; have := HJ68.out; omega
                                              case rel => exact ⟨(y1052), (wrap64 (x4_1 + 1)), (by first | rfl | (simp; done) | (simp [*]; done)), H', ⟨by have := HK1.out; have := HJ6.out; have := HJ22.out; have := HJ68.out; omega⟩, ⟨by (with_reducible repeat (first | apply Kd.R_alloc | apply Kd.R_drewN | apply Kd.R_drew)); exact HO1054.out⟩, ⟨by repeat (first | (with_reducible first | exact HB.out | apply below_alloc | apply pw_below_drewN | apply below_drew1 | refine below_set ?_ GE1007.out) | exact HB.out)⟩⟩
                                            · rw [if_neg c85] at H
                                              exact absurd H (by simp)
                                        · replace c71 := Bool.eq_false_iff.mpr c71
                                          subst c71; have H1 : (if t1015 = 7 then ((term_Hash.f (rdOf ByteArray.empty x3_1 t1008)).bind fun bt1055 => (if bt1055.2 = 0 then (if (bt1055.1.size : Int) > 600 then ((gemotlaw2_name.f ((rd_T186 l0 x4_1).f2)).bind fun t1057 => (if x3_1.length < 8796093022208 then (gemotlaw2_made_p.l0 kj68 l0 (x3_1 ++ [t1057]) (wrap64 (x4_1 + 1))) else (none))) else (if x3_1.length < 8796093022208 then (gemotlaw2_made_p.l0 kj68 l0 (x3_1 ++ [bt1055.1]) (wrap64 (x4_1 + 1))) else (none))) else ((gemotlaw2_name.f ((rd_T186 l0 x4_1).f2)).bind fun t1064 => (if x3_1.length < 8796093022208 then (gemotlaw2_made_p.l0 kj68 l0 (x3_1 ++ [t1064]) (wrap64 (x4_1 + 1))) else (none))))) else (if t1015 = 8 then ((term_Seal.f (rdOf ByteArray.empty x3_1 t1008) (rdOf ByteArray.empty x3_1 t1010) (rdOf ByteArray.empty x3_1 t1012)).bind fun bt1068 => (if bt1068.2 = 0 then (if (bt1068.1.size : Int) > 600 then ((gemotlaw2_name.f ((rd_T186 l0 x4_1).f2)).bind fun t1070 => (if x3_1.length < 8796093022208 then (gemotlaw2_made_p.l0 kj68 l0 (x3_1 ++ [t1070]) (wrap64 (x4_1 + 1))) else (none))) else (if x3_1.length < 8796093022208 then (gemotlaw2_made_p.l0 kj68 l0 (x3_1 ++ [bt1068.1]) (wrap64 (x4_1 + 1))) else (none))) else ((gemotlaw2_name.f ((rd_T186 l0 x4_1).f2)).bind fun t1077 => (if x3_1.length < 8796093022208 then (gemotlaw2_made_p.l0 kj68 l0 (x3_1 ++ [t1077]) (wrap64 (x4_1 + 1))) else (none))))) else (if t1015 = 9 then ((term_Sign.f (rdOf ByteArray.empty x3_1 t1008) (rdOf ByteArray.empty x3_1 t1010)).bind fun bt1081 => (if bt1081.2 = 0 then (if (bt1081.1.size : Int) > 600 then ((gemotlaw2_name.f ((rd_T186 l0 x4_1).f2)).bind fun t1083 => (if x3_1.length < 8796093022208 then (gemotlaw2_made_p.l0 kj68 l0 (x3_1 ++ [t1083]) (wrap64 (x4_1 + 1))) else (none))) else (if x3_1.length < 8796093022208 then (gemotlaw2_made_p.l0 kj68 l0 (x3_1 ++ [bt1081.1]) (wrap64 (x4_1 + 1))) else (none))) else ((gemotlaw2_name.f ((rd_T186 l0 x4_1).f2)).bind fun t1090 => (if x3_1.length < 8796093022208 then (gemotlaw2_made_p.l0 kj68 l0 (x3_1 ++ [t1090]) (wrap64 (x4_1 + 1))) else (none))))) else (if 0 = 0 then (if (t1014.size : Int) > 600 then ((gemotlaw2_name.f ((rd_T186 l0 x4_1).f2)).bind fun t1094 => (if x3_1.length < 8796093022208 then (gemotlaw2_made_p.l0 kj68 l0 (x3_1 ++ [t1094]) (wrap64 (x4_1 + 1))) else (none))) else (if x3_1.length < 8796093022208 then (gemotlaw2_made_p.l0 kj68 l0 (x3_1 ++ [t1014]) (wrap64 (x4_1 + 1))) else (none))) else ((gemotlaw2_name.f ((rd_T186 l0 x4_1).f2)).bind fun t1101 => (if x3_1.length < 8796093022208 then (gemotlaw2_made_p.l0 kj68 l0 (x3_1 ++ [t1101]) (wrap64 (x4_1 + 1))) else (none))))))) = some r := by rw [if_neg (show ¬ (false = true) by decide)] at H; exact H
                                          clear H; have H := H1; clear H1; by_cases c90 : t1015 = 7
                                          · rw [if_pos c90] at H
                                            have c90b0 : (t1015 == 7) = true := beq_iff_eq.mpr c90
                                            have c90b1 : (t1015 != 7) = false := bne_eq_false_iff_eq.mpr c90
                                            clear c90; replace H := Option.bind_eq_some_iff.mp H
                                            obtain ⟨⟨t1055, t1056⟩, A910, H⟩ := H
                                            replace H : (if t1056 = 0 then (if (t1055.size : Int) > 600 then ((gemotlaw2_name.f ((rd_T186 l0 x4_1).f2)).bind fun t1057 => (if x3_1.length < 8796093022208 then (gemotlaw2_made_p.l0 kj68 l0 (x3_1 ++ [t1057]) (wrap64 (x4_1 + 1))) else (none))) else (if x3_1.length < 8796093022208 then (gemotlaw2_made_p.l0 kj68 l0 (x3_1 ++ [t1055]) (wrap64 (x4_1 + 1))) else (none))) else ((gemotlaw2_name.f ((rd_T186 l0 x4_1).f2)).bind fun t1064 => (if x3_1.length < 8796093022208 then (gemotlaw2_made_p.l0 kj68 l0 (x3_1 ++ [t1064]) (wrap64 (x4_1 + 1))) else (none)))) = some r := H
                                            have A91 := Aside0.mk A910
                                            clear A910; by_cases c92 : t1056 = 0
                                            · rw [if_pos c92] at H
                                              have c92b0 : (t1056 == 0) = true := beq_iff_eq.mpr c92
                                              have c92b1 : (t1056 != 0) = false := bne_eq_false_iff_eq.mpr c92
                                              clear c92; by_cases c93 : (t1055.size : Int) > 600
                                              · rw [if_pos c93] at H
                                                have c93b0 : decide (600 < (t1055.size : Int)) = true := decide_eq_true c93
                                                have c93b1 : decide (600 < t1055.size) = true := decide_eq_true (by omega)
                                                clear c93; replace H := Option.bind_eq_some_iff.mp H
                                                obtain ⟨t1057, A940, H⟩ := H; replace H : (if x3_1.length < 8796093022208 then (gemotlaw2_made_p.l0 kj68 l0 (x3_1 ++ [t1057]) (wrap64 (x4_1 + 1))) else (none)) = some r := H
                                                have A94 := Aside0.mk A940
                                                clear A940; by_cases c95 : x3_1.length < 8796093022208
                                                · rw [if_pos c95] at H
                                                  have LMc95 := Aside0.mk c95
                                                  clear c95; obtain ⟨y1058, hy1058⟩ : ∃ y_ : List ByteArray, y_ = (x3_1 ++ [t1057]) := ⟨_, rfl⟩
                                                  replace H : (gemotlaw2_made_p.l0 kj68 l0 y1058 (wrap64 (x4_1 + 1))) = some r := by first | (rw [hy1058]; with_reducible exact H) | (have H2_ := (Option.bind_some _ _).symm.trans H; rw [hy1058]; with_reducible exact H2_) | (have H2_ := (Option.bind_some _ _).symm.trans H; with_reducible exact H2_) | with_reducible exact H | (rw [hy1058]; exact H) | exact H
                                                  have Ny1058 := Aside0.mk hy1058
                                                  clear hy1058; have H' := Aside0.mk H
                                                  clear H; go_wp2_with (first | ((with_reducible refine gate_callee (f := 89) rfl ?_); refine goesL_ (some 88) rfl rfl Try.func89 (by kernel_rfl) rfl #[.string (rdOf ByteArray.empty x3_1 t1008)] rfl (by simp only [List.map_toArray, List.map_cons, List.map_nil] <;> rfl) ?_; (with_reducible refine (term_Hash.calls (rdOf ByteArray.empty x3_1 t1008) t1055 t1056 _ A91.out).mono ?_); rintro e w96 ⟨rfl, hb⟩; refine ⟨_, rfl, ?_⟩; have n0_ := Aside0.mk (Kd.R_below (by (with_reducible repeat (first | apply Kd.R_alloc | apply Kd.R_drewN | apply Kd.R_drew)); exact HO_3.out) hb); have n1_ := Aside0.mk (blk_below (g := gb1007) (o := .cells #[.int .i64 ((rd_T186 l0 x4_1).f0), .int .i64 ((rd_T186 l0 x4_1).f1), .int .i64 ((rd_T186 l0 x4_1).f2), .int .i64 ((rd_T186 l0 x4_1).f3)] 186 (0, 0)) (by (with_reducible repeat (first | refine blk_drewN ?_ _ | refine blk_drew ?_ | refine blk_alloc ?_ _)); exact BK1007.out) hb); have n2_ := Aside0.mk (below_step (by repeat (with_reducible first | exact HB.out | apply below_alloc | apply pw_below_drewN | apply below_drew1 | refine below_set ?_ GE1007.out)) hb); clear HO_3; clear BK1007; clear HB; have HO_3 := n0_; have BK1007 := n1_; have HB := n2_; clear n0_ n1_ n2_; (try clear hb); have hcz97_0 : w96.cell? ⟨gb1007, 0, none⟩ = some (.int .i64 ((rd_T186 l0 x4_1).f0)) := (blk_cell BK1007.out 0).trans rfl; have hcz97_1 : w96.cell? ⟨gb1007, 1, none⟩ = some (.int .i64 ((rd_T186 l0 x4_1).f1)) := (blk_cell BK1007.out 1).trans rfl; have hcz97_2 : w96.cell? ⟨gb1007, 2, none⟩ = some (.int .i64 ((rd_T186 l0 x4_1).f2)) := (blk_cell BK1007.out 2).trans rfl; have hcz97_3 : w96.cell? ⟨gb1007, 3, none⟩ = some (.int .i64 ((rd_T186 l0 x4_1).f3)) := (blk_cell BK1007.out 3).trans rfl; have hfz97_0 := blk_frozen BK1007.out 0; have hfz97_1 := blk_frozen BK1007.out 1; have hfz97_2 := blk_frozen BK1007.out 2; have hfz97_3 := blk_frozen BK1007.out 3) | ((with_reducible refine gate_callee (f := 122) rfl ?_); refine goesL_ (some 117) rfl rfl Try.func122 (by kernel_rfl) rfl #[.int .i64 ((rd_T186 l0 x4_1).f2)] rfl (by simp only [List.map_toArray, List.map_cons, List.map_nil] <;> rfl) ?_; (with_reducible refine (gemotlaw2_name.calls ((rd_T186 l0 x4_1).f2) t1057 _ A94.out).mono ?_); rintro e w98 ⟨rfl, hb⟩; refine ⟨_, rfl, ?_⟩; have n0_ := Aside0.mk (Kd.R_below (by (with_reducible repeat (first | apply Kd.R_alloc | apply Kd.R_drewN | apply Kd.R_drew)); exact HO_3.out) hb); have n1_ := Aside0.mk (blk_below (g := gb1007) (o := .cells #[.int .i64 ((rd_T186 l0 x4_1).f0), .int .i64 ((rd_T186 l0 x4_1).f1), .int .i64 ((rd_T186 l0 x4_1).f2), .int .i64 ((rd_T186 l0 x4_1).f3)] 186 (0, 0)) (by (with_reducible repeat (first | refine blk_drewN ?_ _ | refine blk_drew ?_ | refine blk_alloc ?_ _)); exact BK1007.out) hb); have n2_ := Aside0.mk (below_step (by repeat (with_reducible first | exact HB.out | apply below_alloc | apply pw_below_drewN | apply below_drew1 | refine below_set ?_ GE1007.out)) hb); clear HO_3; clear BK1007; clear HB; have HO_3 := n0_; have BK1007 := n1_; have HB := n2_; clear n0_ n1_ n2_; (try clear hb)) | ((with_reducible refine gate_builtin (b := .append) (xs := #[.tmp 118, .tmp 120]) rfl ?_); (try (refine gate_guard (by rfl) ?_; dsimp only)); at_builtin; refine Kd.R_append Kd.string (w0 := w) w.heap.size rfl (.tmp 118) (.tmp 120) 44 48 (.string ⟨#[]⟩) 16 rfl Try.underlying44 info48 rfl (by decide) (by omega) (.slice (some ad1009) x3_1.length co26) x3_1 t1057 [.string t1057] (fun _ => True) (fun _ => False) rfl rfl ?aP (fun _ hk => hk.elim) ?aF ?aO ?aB ?aS ?aL ?_; (case aP => exact rfl); (case aB => exact (by repeat (with_reducible first | exact HB.out | apply below_alloc | apply pw_below_drewN | apply below_drew1 | refine below_set ?_ GE1007.out))); (case aF => exact (fun _ _ => trivial)); (case aO => exact (by (with_reducible repeat (first | apply Kd.R_alloc | apply Kd.R_drewN | apply Kd.R_drew)); exact HO_3.out)); (case aS => exact (below_size (by repeat (with_reducible first | exact HB.out | apply below_alloc | apply pw_below_drewN | apply below_drew1 | refine below_set ?_ GE1007.out)))); (case aL => have := LMc95.out; omega); intro v1059 w99 ho hb hg hat; rw [← Ny1058.out] at ho; have n0_ := Aside0.mk (blk_grown (g := gb1007) (o := .cells #[.int .i64 ((rd_T186 l0 x4_1).f0), .int .i64 ((rd_T186 l0 x4_1).f1), .int .i64 ((rd_T186 l0 x4_1).f2), .int .i64 ((rd_T186 l0 x4_1).f3)] 186 (0, 0)) (by (with_reducible repeat (first | refine blk_drewN ?_ _ | refine blk_drew ?_ | refine blk_alloc ?_ _)); exact BK1007.out) hg (Kd.R_ne HO_3.out BK1007.out (by decide))); have n1_ := Aside0.mk (hb); have n2_ := Aside0.mk (ho); clear BK1007; clear HB; clear HO_3; have BK1007 := n0_; have HB := n1_; have HO1060 := n2_; clear n0_ n1_ n2_; clear ho hb hg hat))
                                                  go_roundg kj68
                                                  case measure => have := HK1.out; have := HJ6.out; have := HJ22.out; have := HJ68.out; omega
                                                  case rel => exact ⟨(y1058), (wrap64 (x4_1 + 1)), (by first | rfl | (simp; done) | (simp [*]; done)), H', ⟨by have := HK1.out; have := HJ6.out; have := HJ22.out; have := HJ68.out; omega⟩, ⟨by (with_reducible repeat (first | apply Kd.R_alloc | apply Kd.R_drewN | apply Kd.R_drew)); exact HO1060.out⟩, ⟨by repeat (first | (with_reducible first | exact HB.out | apply below_alloc | apply pw_below_drewN | apply below_drew1 | refine below_set ?_ GE1007.out) | exact HB.out)⟩⟩
                                                · rw [if_neg c95] at H
                                                  exact absurd H (by simp)
                                              · rw [if_neg c93] at H
                                                have c93b0 : decide (600 < (t1055.size : Int)) = false := decide_eq_false c93
                                                have c93b1 : decide (600 < t1055.size) = false := decide_eq_false (by omega)
                                                clear c93; by_cases c100 : x3_1.length < 8796093022208
                                                · rw [if_pos c100] at H
                                                  have LMc100 := Aside0.mk c100
                                                  clear c100; obtain ⟨y1061, hy1061⟩ : ∃ y_ : List ByteArray, y_ = (x3_1 ++ [t1055]) := ⟨_, rfl⟩
                                                  replace H : (gemotlaw2_made_p.l0 kj68 l0 y1061 (wrap64 (x4_1 + 1))) = some r := by first | (rw [hy1061]; with_reducible exact H) | (have H2_ := (Option.bind_some _ _).symm.trans H; rw [hy1061]; with_reducible exact H2_) | (have H2_ := (Option.bind_some _ _).symm.trans H; with_reducible exact H2_) | with_reducible exact H | (rw [hy1061]; exact H) | exact H
                                                  have Ny1061 := Aside0.mk hy1061
                                                  clear hy1061; have H' := Aside0.mk H
                                                  clear H; go_wp2_with (first | ((with_reducible refine gate_callee (f := 89) rfl ?_); refine goesL_ (some 88) rfl rfl Try.func89 (by kernel_rfl) rfl #[.string (rdOf ByteArray.empty x3_1 t1008)] rfl (by simp only [List.map_toArray, List.map_cons, List.map_nil] <;> rfl) ?_; (with_reducible refine (term_Hash.calls (rdOf ByteArray.empty x3_1 t1008) t1055 t1056 _ A91.out).mono ?_); rintro e w101 ⟨rfl, hb⟩; refine ⟨_, rfl, ?_⟩; have n0_ := Aside0.mk (Kd.R_below (by (with_reducible repeat (first | apply Kd.R_alloc | apply Kd.R_drewN | apply Kd.R_drew)); exact HO_3.out) hb); have n1_ := Aside0.mk (blk_below (g := gb1007) (o := .cells #[.int .i64 ((rd_T186 l0 x4_1).f0), .int .i64 ((rd_T186 l0 x4_1).f1), .int .i64 ((rd_T186 l0 x4_1).f2), .int .i64 ((rd_T186 l0 x4_1).f3)] 186 (0, 0)) (by (with_reducible repeat (first | refine blk_drewN ?_ _ | refine blk_drew ?_ | refine blk_alloc ?_ _)); exact BK1007.out) hb); have n2_ := Aside0.mk (below_step (by repeat (with_reducible first | exact HB.out | apply below_alloc | apply pw_below_drewN | apply below_drew1 | refine below_set ?_ GE1007.out)) hb); clear HO_3; clear BK1007; clear HB; have HO_3 := n0_; have BK1007 := n1_; have HB := n2_; clear n0_ n1_ n2_; (try clear hb)) | ((with_reducible refine gate_builtin (b := .append) (xs := #[.tmp 118, .tmp 120]) rfl ?_); (try (refine gate_guard (by rfl) ?_; dsimp only)); at_builtin; refine Kd.R_append Kd.string (w0 := w) w.heap.size rfl (.tmp 118) (.tmp 120) 44 48 (.string ⟨#[]⟩) 16 rfl Try.underlying44 info48 rfl (by decide) (by omega) (.slice (some ad1009) x3_1.length co26) x3_1 t1055 [.string t1055] (fun _ => True) (fun _ => False) rfl rfl ?aP (fun _ hk => hk.elim) ?aF ?aO ?aB ?aS ?aL ?_; (case aP => exact rfl); (case aB => exact (by repeat (with_reducible first | exact HB.out | apply below_alloc | apply pw_below_drewN | apply below_drew1 | refine below_set ?_ GE1007.out))); (case aF => exact (fun _ _ => trivial)); (case aO => exact (by (with_reducible repeat (first | apply Kd.R_alloc | apply Kd.R_drewN | apply Kd.R_drew)); exact HO_3.out)); (case aS => exact (below_size (by repeat (with_reducible first | exact HB.out | apply below_alloc | apply pw_below_drewN | apply below_drew1 | refine below_set ?_ GE1007.out)))); (case aL => have := LMc100.out; omega); intro v1062 w102 ho hb hg hat; rw [← Ny1061.out] at ho; have n0_ := Aside0.mk (blk_grown (g := gb1007) (o := .cells #[.int .i64 ((rd_T186 l0 x4_1).f0), .int .i64 ((rd_T186 l0 x4_1).f1), .int .i64 ((rd_T186 l0 x4_1).f2), .int .i64 ((rd_T186 l0 x4_1).f3)] 186 (0, 0)) (by (with_reducible repeat (first | refine blk_drewN ?_ _ | refine blk_drew ?_ | refine blk_alloc ?_ _)); exact BK1007.out) hg (Kd.R_ne HO_3.out BK1007.out (by decide))); have n1_ := Aside0.mk (hb); have n2_ := Aside0.mk (ho); clear BK1007; clear HB; clear HO_3; have BK1007 := n0_; have HB := n1_; have HO1063 := n2_; clear n0_ n1_ n2_; clear ho hb hg hat))
                                                  go_roundg kj68
                                                  case measure => have := HK1.out; have := HJ6.out; have := HJ22.out; have := HJ68.out; omega
                                                  case rel => exact ⟨(y1061), (wrap64 (x4_1 + 1)), (by first | rfl | (simp; done) | (simp [*]; done)), H', ⟨by have := HK1.out; have := HJ6.out; have := HJ22.out; have := HJ68.out; omega⟩, ⟨by (with_reducible repeat (first | apply Kd.R_alloc | apply Kd.R_drewN | apply Kd.R_drew)); exact HO1063.out⟩, ⟨by repeat (first | (with_reducible first | exact HB.out | apply below_alloc | apply pw_below_drewN | apply below_drew1 | refine below_set ?_ GE1007.out) | exact HB.out)⟩⟩
                                                · rw [if_neg c100] at H
                                                  exact absurd H (by simp)
                                            · rw [if_neg c92] at H
                                              have c92b0 : (t1056 == 0) = false := beq_eq_false_iff_ne.mpr c92
                                              have c92b1 : (t1056 != 0) = true := bne_iff_ne.mpr c92
                                              replace H := Option.bind_eq_some_iff.mp H
                                              obtain ⟨t1064, A1030, H⟩ := H; replace H : (if x3_1.length < 8796093022208 then (gemotlaw2_made_p.l0 kj68 l0 (x3_1 ++ [t1064]) (wrap64 (x4_1 + 1))) else (none)) = some r := H
                                              have A103 := Aside0.mk A1030
                                              clear A1030; by_cases c104 : x3_1.length < 8796093022208
                                              · rw [if_pos c104] at H
                                                have LMc104 := Aside0.mk c104
                                                clear c104; obtain ⟨y1065, hy1065⟩ : ∃ y_ : List ByteArray, y_ = (x3_1 ++ [t1064]) := ⟨_, rfl⟩
                                                replace H : (gemotlaw2_made_p.l0 kj68 l0 y1065 (wrap64 (x4_1 + 1))) = some r := by first | (rw [hy1065]; with_reducible exact H) | (have H2_ := (Option.bind_some _ _).symm.trans H; rw [hy1065]; with_reducible exact H2_) | (have H2_ := (Option.bind_some _ _).symm.trans H; with_reducible exact H2_) | with_reducible exact H | (rw [hy1065]; exact H) | exact H
                                                have Ny1065 := Aside0.mk hy1065
                                                clear hy1065; have H' := Aside0.mk H
                                                clear H; go_wp2_with (first | ((with_reducible refine gate_callee (f := 89) rfl ?_); refine goesL_ (some 88) rfl rfl Try.func89 (by kernel_rfl) rfl #[.string (rdOf ByteArray.empty x3_1 t1008)] rfl (by simp only [List.map_toArray, List.map_cons, List.map_nil] <;> rfl) ?_; (with_reducible refine (term_Hash.calls (rdOf ByteArray.empty x3_1 t1008) t1055 t1056 _ A91.out).mono ?_); rintro e w105 ⟨rfl, hb⟩; refine ⟨_, rfl, ?_⟩; have n0_ := Aside0.mk (Kd.R_below (by (with_reducible repeat (first | apply Kd.R_alloc | apply Kd.R_drewN | apply Kd.R_drew)); exact HO_3.out) hb); have n1_ := Aside0.mk (blk_below (g := gb1007) (o := .cells #[.int .i64 ((rd_T186 l0 x4_1).f0), .int .i64 ((rd_T186 l0 x4_1).f1), .int .i64 ((rd_T186 l0 x4_1).f2), .int .i64 ((rd_T186 l0 x4_1).f3)] 186 (0, 0)) (by (with_reducible repeat (first | refine blk_drewN ?_ _ | refine blk_drew ?_ | refine blk_alloc ?_ _)); exact BK1007.out) hb); have n2_ := Aside0.mk (below_step (by repeat (with_reducible first | exact HB.out | apply below_alloc | apply pw_below_drewN | apply below_drew1 | refine below_set ?_ GE1007.out)) hb); clear HO_3; clear BK1007; clear HB; have HO_3 := n0_; have BK1007 := n1_; have HB := n2_; clear n0_ n1_ n2_; (try clear hb); have hcz106_0 : w105.cell? ⟨gb1007, 0, none⟩ = some (.int .i64 ((rd_T186 l0 x4_1).f0)) := (blk_cell BK1007.out 0).trans rfl; have hcz106_1 : w105.cell? ⟨gb1007, 1, none⟩ = some (.int .i64 ((rd_T186 l0 x4_1).f1)) := (blk_cell BK1007.out 1).trans rfl; have hcz106_2 : w105.cell? ⟨gb1007, 2, none⟩ = some (.int .i64 ((rd_T186 l0 x4_1).f2)) := (blk_cell BK1007.out 2).trans rfl; have hcz106_3 : w105.cell? ⟨gb1007, 3, none⟩ = some (.int .i64 ((rd_T186 l0 x4_1).f3)) := (blk_cell BK1007.out 3).trans rfl; have hfz106_0 := blk_frozen BK1007.out 0; have hfz106_1 := blk_frozen BK1007.out 1; have hfz106_2 := blk_frozen BK1007.out 2; have hfz106_3 := blk_frozen BK1007.out 3) | ((with_reducible refine gate_callee (f := 122) rfl ?_); refine goesL_ (some 117) rfl rfl Try.func122 (by kernel_rfl) rfl #[.int .i64 ((rd_T186 l0 x4_1).f2)] rfl (by simp only [List.map_toArray, List.map_cons, List.map_nil] <;> rfl) ?_; (with_reducible refine (gemotlaw2_name.calls ((rd_T186 l0 x4_1).f2) t1064 _ A103.out).mono ?_); rintro e w107 ⟨rfl, hb⟩; refine ⟨_, rfl, ?_⟩; have n0_ := Aside0.mk (Kd.R_below (by (with_reducible repeat (first | apply Kd.R_alloc | apply Kd.R_drewN | apply Kd.R_drew)); exact HO_3.out) hb); have n1_ := Aside0.mk (blk_below (g := gb1007) (o := .cells #[.int .i64 ((rd_T186 l0 x4_1).f0), .int .i64 ((rd_T186 l0 x4_1).f1), .int .i64 ((rd_T186 l0 x4_1).f2), .int .i64 ((rd_T186 l0 x4_1).f3)] 186 (0, 0)) (by (with_reducible repeat (first | refine blk_drewN ?_ _ | refine blk_drew ?_ | refine blk_alloc ?_ _)); exact BK1007.out) hb); have n2_ := Aside0.mk (below_step (by repeat (with_reducible first | exact HB.out | apply below_alloc | apply pw_below_drewN | apply below_drew1 | refine below_set ?_ GE1007.out)) hb); clear HO_3; clear BK1007; clear HB; have HO_3 := n0_; have BK1007 := n1_; have HB := n2_; clear n0_ n1_ n2_; (try clear hb)) | ((with_reducible refine gate_builtin (b := .append) (xs := #[.tmp 118, .tmp 120]) rfl ?_); (try (refine gate_guard (by rfl) ?_; dsimp only)); at_builtin; refine Kd.R_append Kd.string (w0 := w) w.heap.size rfl (.tmp 118) (.tmp 120) 44 48 (.string ⟨#[]⟩) 16 rfl Try.underlying44 info48 rfl (by decide) (by omega) (.slice (some ad1009) x3_1.length co26) x3_1 t1064 [.string t1064] (fun _ => True) (fun _ => False) rfl rfl ?aP (fun _ hk => hk.elim) ?aF ?aO ?aB ?aS ?aL ?_; (case aP => exact rfl); (case aB => exact (by repeat (with_reducible first | exact HB.out | apply below_alloc | apply pw_below_drewN | apply below_drew1 | refine below_set ?_ GE1007.out))); (case aF => exact (fun _ _ => trivial)); (case aO => exact (by (with_reducible repeat (first | apply Kd.R_alloc | apply Kd.R_drewN | apply Kd.R_drew)); exact HO_3.out)); (case aS => exact (below_size (by repeat (with_reducible first | exact HB.out | apply below_alloc | apply pw_below_drewN | apply below_drew1 | refine below_set ?_ GE1007.out)))); (case aL => have := LMc104.out; omega); intro v1066 w108 ho hb hg hat; rw [← Ny1065.out] at ho; have n0_ := Aside0.mk (blk_grown (g := gb1007) (o := .cells #[.int .i64 ((rd_T186 l0 x4_1).f0), .int .i64 ((rd_T186 l0 x4_1).f1), .int .i64 ((rd_T186 l0 x4_1).f2), .int .i64 ((rd_T186 l0 x4_1).f3)] 186 (0, 0)) (by (with_reducible repeat (first | refine blk_drewN ?_ _ | refine blk_drew ?_ | refine blk_alloc ?_ _)); exact BK1007.out) hg (Kd.R_ne HO_3.out BK1007.out (by decide))); have n1_ := Aside0.mk (hb); have n2_ := Aside0.mk (ho); clear BK1007; clear HB; clear HO_3; have BK1007 := n0_; have HB := n1_; have HO1067 := n2_; clear n0_ n1_ n2_; clear ho hb hg hat))
                                                go_roundg kj68
                                                case measure => have := HK1.out; have := HJ6.out; have := HJ22.out; have := HJ68.out; omega
                                                case rel => exact ⟨(y1065), (wrap64 (x4_1 + 1)), (by first | rfl | (simp; done) | (simp [*]; done)), H', ⟨by have := HK1.out; have := HJ6.out; have := HJ22.out; have := HJ68.out; omega⟩, ⟨by (with_reducible repeat (first | apply Kd.R_alloc | apply Kd.R_drewN | apply Kd.R_drew)); exact HO1067.out⟩, ⟨by repeat (first | (with_reducible first | exact HB.out | apply below_alloc | apply pw_below_drewN | apply below_drew1 | refine below_set ?_ GE1007.out) | exact HB.out)⟩⟩
                                              · rw [if_neg c104] at H
                                                exact absurd H (by simp)
                                          · rw [if_neg c90] at H
                                            have c90b0 : (t1015 == 7) = false := beq_eq_false_iff_ne.mpr c90
                                            have c90b1 : (t1015 != 7) = true := bne_iff_ne.mpr c90
                                            by_cases c109 : t1015 = 8
                                            · rw [if_pos c109] at H
                                              have c109b0 : (t1015 == 8) = true := beq_iff_eq.mpr c109
                                              have c109b1 : (t1015 != 8) = false := bne_eq_false_iff_eq.mpr c109
                                              clear c109; replace H := Option.bind_eq_some_iff.mp H
                                              obtain ⟨⟨t1068, t1069⟩, A1100, H⟩ := H
                                              replace H : (if t1069 = 0 then (if (t1068.size : Int) > 600 then ((gemotlaw2_name.f ((rd_T186 l0 x4_1).f2)).bind fun t1070 => (if x3_1.length < 8796093022208 then (gemotlaw2_made_p.l0 kj68 l0 (x3_1 ++ [t1070]) (wrap64 (x4_1 + 1))) else (none))) else (if x3_1.length < 8796093022208 then (gemotlaw2_made_p.l0 kj68 l0 (x3_1 ++ [t1068]) (wrap64 (x4_1 + 1))) else (none))) else ((gemotlaw2_name.f ((rd_T186 l0 x4_1).f2)).bind fun t1077 => (if x3_1.length < 8796093022208 then (gemotlaw2_made_p.l0 kj68 l0 (x3_1 ++ [t1077]) (wrap64 (x4_1 + 1))) else (none)))) = some r := H
                                              have A110 := Aside0.mk A1100
                                              clear A1100; by_cases c111 : t1069 = 0
                                              · rw [if_pos c111] at H
                                                have c111b0 : (t1069 == 0) = true := beq_iff_eq.mpr c111
                                                have c111b1 : (t1069 != 0) = false := bne_eq_false_iff_eq.mpr c111
                                                clear c111; by_cases c112 : (t1068.size : Int) > 600
                                                · rw [if_pos c112] at H
                                                  have c112b0 : decide (600 < (t1068.size : Int)) = true := decide_eq_true c112
                                                  have c112b1 : decide (600 < t1068.size) = true := decide_eq_true (by omega)
                                                  clear c112; replace H := Option.bind_eq_some_iff.mp H
                                                  obtain ⟨t1070, A1130, H⟩ := H; replace H : (if x3_1.length < 8796093022208 then (gemotlaw2_made_p.l0 kj68 l0 (x3_1 ++ [t1070]) (wrap64 (x4_1 + 1))) else (none)) = some r := H
                                                  have A113 := Aside0.mk A1130
                                                  clear A1130; by_cases c114 : x3_1.length < 8796093022208
                                                  · rw [if_pos c114] at H
                                                    have LMc114 := Aside0.mk c114
                                                    clear c114; obtain ⟨y1071, hy1071⟩ : ∃ y_ : List ByteArray, y_ = (x3_1 ++ [t1070]) := ⟨_, rfl⟩
                                                    replace H : (gemotlaw2_made_p.l0 kj68 l0 y1071 (wrap64 (x4_1 + 1))) = some r := by first | (rw [hy1071]; with_reducible exact H) | (have H2_ := (Option.bind_some _ _).symm.trans H; rw [hy1071]; with_reducible exact H2_) | (have H2_ := (Option.bind_some _ _).symm.trans H; with_reducible exact H2_) | with_reducible exact H | (rw [hy1071]; exact H) | exact H
                                                    have Ny1071 := Aside0.mk hy1071
                                                    clear hy1071; have H' := Aside0.mk H
                                                    clear H; go_wp2_with (first | ((with_reducible refine gate_callee (f := 84) rfl ?_); refine goesL_ (some 97) rfl rfl Try.func84 (by kernel_rfl) rfl #[.string (rdOf ByteArray.empty x3_1 t1008), .string (rdOf ByteArray.empty x3_1 t1010), .string (rdOf ByteArray.empty x3_1 t1012)] rfl (by simp only [List.map_toArray, List.map_cons, List.map_nil] <;> rfl) ?_; (with_reducible refine (term_Seal.calls (rdOf ByteArray.empty x3_1 t1008) (rdOf ByteArray.empty x3_1 t1010) (rdOf ByteArray.empty x3_1 t1012) t1068 t1069 _ A110.out).mono ?_); rintro e w115 ⟨rfl, hb⟩; refine ⟨_, rfl, ?_⟩; have n0_ := Aside0.mk (Kd.R_below (by (with_reducible repeat (first | apply Kd.R_alloc | apply Kd.R_drewN | apply Kd.R_drew)); exact HO_3.out) hb); have n1_ := Aside0.mk (blk_below (g := gb1007) (o := .cells #[.int .i64 ((rd_T186 l0 x4_1).f0), .int .i64 ((rd_T186 l0 x4_1).f1), .int .i64 ((rd_T186 l0 x4_1).f2), .int .i64 ((rd_T186 l0 x4_1).f3)] 186 (0, 0)) (by (with_reducible repeat (first | refine blk_drewN ?_ _ | refine blk_drew ?_ | refine blk_alloc ?_ _)); exact BK1007.out) hb); have n2_ := Aside0.mk (below_step (by repeat (with_reducible first | exact HB.out | apply below_alloc | apply pw_below_drewN | apply below_drew1 | refine below_set ?_ GE1007.out)) hb); clear HO_3; clear BK1007; clear HB; have HO_3 := n0_; have BK1007 := n1_; have HB := n2_; clear n0_ n1_ n2_; (try clear hb); have hcz116_0 : w115.cell? ⟨gb1007, 0, none⟩ = some (.int .i64 ((rd_T186 l0 x4_1).f0)) := (blk_cell BK1007.out 0).trans rfl; have hcz116_1 : w115.cell? ⟨gb1007, 1, none⟩ = some (.int .i64 ((rd_T186 l0 x4_1).f1)) := (blk_cell BK1007.out 1).trans rfl; have hcz116_2 : w115.cell? ⟨gb1007, 2, none⟩ = some (.int .i64 ((rd_T186 l0 x4_1).f2)) := (blk_cell BK1007.out 2).trans rfl; have hcz116_3 : w115.cell? ⟨gb1007, 3, none⟩ = some (.int .i64 ((rd_T186 l0 x4_1).f3)) := (blk_cell BK1007.out 3).trans rfl; have hfz116_0 := blk_frozen BK1007.out 0; have hfz116_1 := blk_frozen BK1007.out 1; have hfz116_2 := blk_frozen BK1007.out 2; have hfz116_3 := blk_frozen BK1007.out 3) | ((with_reducible refine gate_callee (f := 122) rfl ?_); refine goesL_ (some 117) rfl rfl Try.func122 (by kernel_rfl) rfl #[.int .i64 ((rd_T186 l0 x4_1).f2)] rfl (by simp only [List.map_toArray, List.map_cons, List.map_nil] <;> rfl) ?_; (with_reducible refine (gemotlaw2_name.calls ((rd_T186 l0 x4_1).f2) t1070 _ A113.out).mono ?_); rintro e w117 ⟨rfl, hb⟩; refine ⟨_, rfl, ?_⟩; have n0_ := Aside0.mk (Kd.R_below (by (with_reducible repeat (first | apply Kd.R_alloc | apply Kd.R_drewN | apply Kd.R_drew)); exact HO_3.out) hb); have n1_ := Aside0.mk (blk_below (g := gb1007) (o := .cells #[.int .i64 ((rd_T186 l0 x4_1).f0), .int .i64 ((rd_T186 l0 x4_1).f1), .int .i64 ((rd_T186 l0 x4_1).f2), .int .i64 ((rd_T186 l0 x4_1).f3)] 186 (0, 0)) (by (with_reducible repeat (first | refine blk_drewN ?_ _ | refine blk_drew ?_ | refine blk_alloc ?_ _)); exact BK1007.out) hb); have n2_ := Aside0.mk (below_step (by repeat (with_reducible first | exact HB.out | apply below_alloc | apply pw_below_drewN | apply below_drew1 | refine below_set ?_ GE1007.out)) hb); clear HO_3; clear BK1007; clear HB; have HO_3 := n0_; have BK1007 := n1_; have HB := n2_; clear n0_ n1_ n2_; (try clear hb)) | ((with_reducible refine gate_builtin (b := .append) (xs := #[.tmp 118, .tmp 120]) rfl ?_); (try (refine gate_guard (by rfl) ?_; dsimp only)); at_builtin; refine Kd.R_append Kd.string (w0 := w) w.heap.size rfl (.tmp 118) (.tmp 120) 44 48 (.string ⟨#[]⟩) 16 rfl Try.underlying44 info48 rfl (by decide) (by omega) (.slice (some ad1009) x3_1.length co26) x3_1 t1070 [.string t1070] (fun _ => True) (fun _ => False) rfl rfl ?aP (fun _ hk => hk.elim) ?aF ?aO ?aB ?aS ?aL ?_; (case aP => exact rfl); (case aB => exact (by repeat (with_reducible first | exact HB.out | apply below_alloc | apply pw_below_drewN | apply below_drew1 | refine below_set ?_ GE1007.out))); (case aF => exact (fun _ _ => trivial)); (case aO => exact (by (with_reducible repeat (first | apply Kd.R_alloc | apply Kd.R_drewN | apply Kd.R_drew)); exact HO_3.out)); (case aS => exact (below_size (by repeat (with_reducible first | exact HB.out | apply below_alloc | apply pw_below_drewN | apply below_drew1 | refine below_set ?_ GE1007.out)))); (case aL => have := LMc114.out; omega); intro v1072 w118 ho hb hg hat; rw [← Ny1071.out] at ho; have n0_ := Aside0.mk (blk_grown (g := gb1007) (o := .cells #[.int .i64 ((rd_T186 l0 x4_1).f0), .int .i64 ((rd_T186 l0 x4_1).f1), .int .i64 ((rd_T186 l0 x4_1).f2), .int .i64 ((rd_T186 l0 x4_1).f3)] 186 (0, 0)) (by (with_reducible repeat (first | refine blk_drewN ?_ _ | refine blk_drew ?_ | refine blk_alloc ?_ _)); exact BK1007.out) hg (Kd.R_ne HO_3.out BK1007.out (by decide))); have n1_ := Aside0.mk (hb); have n2_ := Aside0.mk (ho); clear BK1007; clear HB; clear HO_3; have BK1007 := n0_; have HB := n1_; have HO1073 := n2_; clear n0_ n1_ n2_; clear ho hb hg hat))
                                                    go_roundg kj68
                                                    case measure => have := HK1.out; have := HJ6.out; have := HJ22.out; have := HJ68.out; omega
                                                    case rel => exact ⟨(y1071), (wrap64 (x4_1 + 1)), (by first | rfl | (simp; done) | (simp [*]; done)), H', ⟨by have := HK1.out; have := HJ6.out; have := HJ22.out; have := HJ68.out; omega⟩, ⟨by (with_reducible repeat (first | apply Kd.R_alloc | apply Kd.R_drewN | apply Kd.R_drew)); exact HO1073.out⟩, ⟨by repeat (first | (with_reducible first | exact HB.out | apply below_alloc | apply pw_below_drewN | apply below_drew1 | refine below_set ?_ GE1007.out) | exact HB.out)⟩⟩
                                                  · rw [if_neg c114] at H
                                                    exact absurd H (by simp)
                                                · rw [if_neg c112] at H
                                                  have c112b0 : decide (600 < (t1068.size : Int)) = false := decide_eq_false c112
                                                  have c112b1 : decide (600 < t1068.size) = false := decide_eq_false (by omega)
                                                  clear c112; by_cases c119 : x3_1.length < 8796093022208
                                                  · rw [if_pos c119] at H
                                                    have LMc119 := Aside0.mk c119
                                                    clear c119; obtain ⟨y1074, hy1074⟩ : ∃ y_ : List ByteArray, y_ = (x3_1 ++ [t1068]) := ⟨_, rfl⟩
                                                    replace H : (gemotlaw2_made_p.l0 kj68 l0 y1074 (wrap64 (x4_1 + 1))) = some r := by first | (rw [hy1074]; with_reducible exact H) | (have H2_ := (Option.bind_some _ _).symm.trans H; rw [hy1074]; with_reducible exact H2_) | (have H2_ := (Option.bind_some _ _).symm.trans H; with_reducible exact H2_) | with_reducible exact H | (rw [hy1074]; exact H) | exact H
                                                    have Ny1074 := Aside0.mk hy1074
                                                    clear hy1074; have H' := Aside0.mk H
                                                    clear H; go_wp2_with (first | ((with_reducible refine gate_callee (f := 84) rfl ?_); refine goesL_ (some 97) rfl rfl Try.func84 (by kernel_rfl) rfl #[.string (rdOf ByteArray.empty x3_1 t1008), .string (rdOf ByteArray.empty x3_1 t1010), .string (rdOf ByteArray.empty x3_1 t1012)] rfl (by simp only [List.map_toArray, List.map_cons, List.map_nil] <;> rfl) ?_; (with_reducible refine (term_Seal.calls (rdOf ByteArray.empty x3_1 t1008) (rdOf ByteArray.empty x3_1 t1010) (rdOf ByteArray.empty x3_1 t1012) t1068 t1069 _ A110.out).mono ?_); rintro e w120 ⟨rfl, hb⟩; refine ⟨_, rfl, ?_⟩; have n0_ := Aside0.mk (Kd.R_below (by (with_reducible repeat (first | apply Kd.R_alloc | apply Kd.R_drewN | apply Kd.R_drew)); exact HO_3.out) hb); have n1_ := Aside0.mk (blk_below (g := gb1007) (o := .cells #[.int .i64 ((rd_T186 l0 x4_1).f0), .int .i64 ((rd_T186 l0 x4_1).f1), .int .i64 ((rd_T186 l0 x4_1).f2), .int .i64 ((rd_T186 l0 x4_1).f3)] 186 (0, 0)) (by (with_reducible repeat (first | refine blk_drewN ?_ _ | refine blk_drew ?_ | refine blk_alloc ?_ _)); exact BK1007.out) hb); have n2_ := Aside0.mk (below_step (by repeat (with_reducible first | exact HB.out | apply below_alloc | apply pw_below_drewN | apply below_drew1 | refine below_set ?_ GE1007.out)) hb); clear HO_3; clear BK1007; clear HB; have HO_3 := n0_; have BK1007 := n1_; have HB := n2_; clear n0_ n1_ n2_; (try clear hb)) | ((with_reducible refine gate_builtin (b := .append) (xs := #[.tmp 118, .tmp 120]) rfl ?_); (try (refine gate_guard (by rfl) ?_; dsimp only)); at_builtin; refine Kd.R_append Kd.string (w0 := w) w.heap.size rfl (.tmp 118) (.tmp 120) 44 48 (.string ⟨#[]⟩) 16 rfl Try.underlying44 info48 rfl (by decide) (by omega) (.slice (some ad1009) x3_1.length co26) x3_1 t1068 [.string t1068] (fun _ => True) (fun _ => False) rfl rfl ?aP (fun _ hk => hk.elim) ?aF ?aO ?aB ?aS ?aL ?_; (case aP => exact rfl); (case aB => exact (by repeat (with_reducible first | exact HB.out | apply below_alloc | apply pw_below_drewN | apply below_drew1 | refine below_set ?_ GE1007.out))); (case aF => exact (fun _ _ => trivial)); (case aO => exact (by (with_reducible repeat (first | apply Kd.R_alloc | apply Kd.R_drewN | apply Kd.R_drew)); exact HO_3.out)); (case aS => exact (below_size (by repeat (with_reducible first | exact HB.out | apply below_alloc | apply pw_below_drewN | apply below_drew1 | refine below_set ?_ GE1007.out)))); (case aL => have := LMc119.out; omega); intro v1075 w121 ho hb hg hat; rw [← Ny1074.out] at ho; have n0_ := Aside0.mk (blk_grown (g := gb1007) (o := .cells #[.int .i64 ((rd_T186 l0 x4_1).f0), .int .i64 ((rd_T186 l0 x4_1).f1), .int .i64 ((rd_T186 l0 x4_1).f2), .int .i64 ((rd_T186 l0 x4_1).f3)] 186 (0, 0)) (by (with_reducible repeat (first | refine blk_drewN ?_ _ | refine blk_drew ?_ | refine blk_alloc ?_ _)); exact BK1007.out) hg (Kd.R_ne HO_3.out BK1007.out (by decide))); have n1_ := Aside0.mk (hb); have n2_ := Aside0.mk (ho); clear BK1007; clear HB; clear HO_3; have BK1007 := n0_; have HB := n1_; have HO1076 := n2_; clear n0_ n1_ n2_; clear ho hb hg hat))
                                                    go_roundg kj68
                                                    case measure => have := HK1.out; have := HJ6.out; have := HJ22.out; have := HJ68.out; omega
                                                    case rel => exact ⟨(y1074), (wrap64 (x4_1 + 1)), (by first | rfl | (simp; done) | (simp [*]; done)), H', ⟨by have := HK1.out; have := HJ6.out; have := HJ22.out; have := HJ68.out; omega⟩, ⟨by (with_reducible repeat (first | apply Kd.R_alloc | apply Kd.R_drewN | apply Kd.R_drew)); exact HO1076.out⟩, ⟨by repeat (first | (with_reducible first | exact HB.out | apply below_alloc | apply pw_below_drewN | apply below_drew1 | refine below_set ?_ GE1007.out) | exact HB.out)⟩⟩
                                                  · rw [if_neg c119] at H
                                                    exact absurd H (by simp)
                                              · rw [if_neg c111] at H
                                                have c111b0 : (t1069 == 0) = false := beq_eq_false_iff_ne.mpr c111
                                                have c111b1 : (t1069 != 0) = true := bne_iff_ne.mpr c111
                                                replace H := Option.bind_eq_some_iff.mp H
                                                obtain ⟨t1077, A1220, H⟩ := H; replace H : (if x3_1.length < 8796093022208 then (gemotlaw2_made_p.l0 kj68 l0 (x3_1 ++ [t1077]) (wrap64 (x4_1 + 1))) else (none)) = some r := H
                                                have A122 := Aside0.mk A1220
                                                clear A1220; by_cases c123 : x3_1.length < 8796093022208
                                                · rw [if_pos c123] at H
                                                  have LMc123 := Aside0.mk c123
                                                  clear c123; obtain ⟨y1078, hy1078⟩ : ∃ y_ : List ByteArray, y_ = (x3_1 ++ [t1077]) := ⟨_, rfl⟩
                                                  replace H : (gemotlaw2_made_p.l0 kj68 l0 y1078 (wrap64 (x4_1 + 1))) = some r := by first | (rw [hy1078]; with_reducible exact H) | (have H2_ := (Option.bind_some _ _).symm.trans H; rw [hy1078]; with_reducible exact H2_) | (have H2_ := (Option.bind_some _ _).symm.trans H; with_reducible exact H2_) | with_reducible exact H | (rw [hy1078]; exact H) | exact H
                                                  have Ny1078 := Aside0.mk hy1078
                                                  clear hy1078; have H' := Aside0.mk H
                                                  clear H; go_wp2_with (first | ((with_reducible refine gate_callee (f := 84) rfl ?_); refine goesL_ (some 97) rfl rfl Try.func84 (by kernel_rfl) rfl #[.string (rdOf ByteArray.empty x3_1 t1008), .string (rdOf ByteArray.empty x3_1 t1010), .string (rdOf ByteArray.empty x3_1 t1012)] rfl (by simp only [List.map_toArray, List.map_cons, List.map_nil] <;> rfl) ?_; (with_reducible refine (term_Seal.calls (rdOf ByteArray.empty x3_1 t1008) (rdOf ByteArray.empty x3_1 t1010) (rdOf ByteArray.empty x3_1 t1012) t1068 t1069 _ A110.out).mono ?_); rintro e w124 ⟨rfl, hb⟩; refine ⟨_, rfl, ?_⟩; have n0_ := Aside0.mk (Kd.R_below (by (with_reducible repeat (first | apply Kd.R_alloc | apply Kd.R_drewN | apply Kd.R_drew)); exact HO_3.out) hb); have n1_ := Aside0.mk (blk_below (g := gb1007) (o := .cells #[.int .i64 ((rd_T186 l0 x4_1).f0), .int .i64 ((rd_T186 l0 x4_1).f1), .int .i64 ((rd_T186 l0 x4_1).f2), .int .i64 ((rd_T186 l0 x4_1).f3)] 186 (0, 0)) (by (with_reducible repeat (first | refine blk_drewN ?_ _ | refine blk_drew ?_ | refine blk_alloc ?_ _)); exact BK1007.out) hb); have n2_ := Aside0.mk (below_step (by repeat (with_reducible first | exact HB.out | apply below_alloc | apply pw_below_drewN | apply below_drew1 | refine below_set ?_ GE1007.out)) hb); clear HO_3; clear BK1007; clear HB; have HO_3 := n0_; have BK1007 := n1_; have HB := n2_; clear n0_ n1_ n2_; (try clear hb); have hcz125_0 : w124.cell? ⟨gb1007, 0, none⟩ = some (.int .i64 ((rd_T186 l0 x4_1).f0)) := (blk_cell BK1007.out 0).trans rfl; have hcz125_1 : w124.cell? ⟨gb1007, 1, none⟩ = some (.int .i64 ((rd_T186 l0 x4_1).f1)) := (blk_cell BK1007.out 1).trans rfl; have hcz125_2 : w124.cell? ⟨gb1007, 2, none⟩ = some (.int .i64 ((rd_T186 l0 x4_1).f2)) := (blk_cell BK1007.out 2).trans rfl; have hcz125_3 : w124.cell? ⟨gb1007, 3, none⟩ = some (.int .i64 ((rd_T186 l0 x4_1).f3)) := (blk_cell BK1007.out 3).trans rfl; have hfz125_0 := blk_frozen BK1007.out 0; have hfz125_1 := blk_frozen BK1007.out 1; have hfz125_2 := blk_frozen BK1007.out 2; have hfz125_3 := blk_frozen BK1007.out 3) | ((with_reducible refine gate_callee (f := 122) rfl ?_); refine goesL_ (some 117) rfl rfl Try.func122 (by kernel_rfl) rfl #[.int .i64 ((rd_T186 l0 x4_1).f2)] rfl (by simp only [List.map_toArray, List.map_cons, List.map_nil] <;> rfl) ?_; (with_reducible refine (gemotlaw2_name.calls ((rd_T186 l0 x4_1).f2) t1077 _ A122.out).mono ?_); rintro e w126 ⟨rfl, hb⟩; refine ⟨_, rfl, ?_⟩; have n0_ := Aside0.mk (Kd.R_below (by (with_reducible repeat (first | apply Kd.R_alloc | apply Kd.R_drewN | apply Kd.R_drew)); exact HO_3.out) hb); have n1_ := Aside0.mk (blk_below (g := gb1007) (o := .cells #[.int .i64 ((rd_T186 l0 x4_1).f0), .int .i64 ((rd_T186 l0 x4_1).f1), .int .i64 ((rd_T186 l0 x4_1).f2), .int .i64 ((rd_T186 l0 x4_1).f3)] 186 (0, 0)) (by (with_reducible repeat (first | refine blk_drewN ?_ _ | refine blk_drew ?_ | refine blk_alloc ?_ _)); exact BK1007.out) hb); have n2_ := Aside0.mk (below_step (by repeat (with_reducible first | exact HB.out | apply below_alloc | apply pw_below_drewN | apply below_drew1 | refine below_set ?_ GE1007.out)) hb); clear HO_3; clear BK1007; clear HB; have HO_3 := n0_; have BK1007 := n1_; have HB := n2_; clear n0_ n1_ n2_; (try clear hb)) | ((with_reducible refine gate_builtin (b := .append) (xs := #[.tmp 118, .tmp 120]) rfl ?_); (try (refine gate_guard (by rfl) ?_; dsimp only)); at_builtin; refine Kd.R_append Kd.string (w0 := w) w.heap.size rfl (.tmp 118) (.tmp 120) 44 48 (.string ⟨#[]⟩) 16 rfl Try.underlying44 info48 rfl (by decide) (by omega) (.slice (some ad1009) x3_1.length co26) x3_1 t1077 [.string t1077] (fun _ => True) (fun _ => False) rfl rfl ?aP (fun _ hk => hk.elim) ?aF ?aO ?aB ?aS ?aL ?_; (case aP => exact rfl); (case aB => exact (by repeat (with_reducible first | exact HB.out | apply below_alloc | apply pw_below_drewN | apply below_drew1 | refine below_set ?_ GE1007.out))); (case aF => exact (fun _ _ => trivial)); (case aO => exact (by (with_reducible repeat (first | apply Kd.R_alloc | apply Kd.R_drewN | apply Kd.R_drew)); exact HO_3.out)); (case aS => exact (below_size (by repeat (with_reducible first | exact HB.out | apply below_alloc | apply pw_below_drewN | apply below_drew1 | refine below_set ?_ GE1007.out)))); (case aL => have := LMc123.out; omega); intro v1079 w127 ho hb hg hat; rw [← Ny1078.out] at ho; have n0_ := Aside0.mk (blk_grown (g := gb1007) (o := .cells #[.int .i64 ((rd_T186 l0 x4_1).f0), .int .i64 ((rd_T186 l0 x4_1).f1), .int .i64 ((rd_T186 l0 x4_1).f2), .int .i64 ((rd_T186 l0 x4_1).f3)] 186 (0, 0)) (by (with_reducible repeat (first | refine blk_drewN ?_ _ | refine blk_drew ?_ | refine blk_alloc ?_ _)); exact BK1007.out) hg (Kd.R_ne HO_3.out BK1007.out (by decide))); have n1_ := Aside0.mk (hb); have n2_ := Aside0.mk (ho); clear BK1007; clear HB; clear HO_3; have BK1007 := n0_; have HB := n1_; have HO1080 := n2_; clear n0_ n1_ n2_; clear ho hb hg hat))
                                                  go_roundg kj68
                                                  case measure => have := HK1.out; have := HJ6.out; have := HJ22.out; have := HJ68.out; omega
                                                  case rel => exact ⟨(y1078), (wrap64 (x4_1 + 1)), (by first | rfl | (simp; done) | (simp [*]; done)), H', ⟨by have := HK1.out; have := HJ6.out; have := HJ22.out; have := HJ68.out; omega⟩, ⟨by (with_reducible repeat (first | apply Kd.R_alloc | apply Kd.R_drewN | apply Kd.R_drew)); exact HO1080.out⟩, ⟨by repeat (first | (with_reducible first | exact HB.out | apply below_alloc | apply pw_below_drewN | apply below_drew1 | refine below_set ?_ GE1007.out) | exact HB.out)⟩⟩
                                                · rw [if_neg c123] at H
                                                  exact absurd H (by simp)
                                            · rw [if_neg c109] at H
                                              have c109b0 : (t1015 == 8) = false := beq_eq_false_iff_ne.mpr c109
                                              have c109b1 : (t1015 != 8) = true := bne_iff_ne.mpr c109
                                              by_cases c128 : t1015 = 9
                                              · rw [if_pos c128] at H
                                                have c128b0 : (t1015 == 9) = true := beq_iff_eq.mpr c128
                                                have c128b1 : (t1015 != 9) = false := bne_eq_false_iff_eq.mpr c128
                                                clear c128; replace H := Option.bind_eq_some_iff.mp H
                                                obtain ⟨⟨t1081, t1082⟩, A1290, H⟩ := H
                                                replace H : (if t1082 = 0 then (if (t1081.size : Int) > 600 then ((gemotlaw2_name.f ((rd_T186 l0 x4_1).f2)).bind fun t1083 => (if x3_1.length < 8796093022208 then (gemotlaw2_made_p.l0 kj68 l0 (x3_1 ++ [t1083]) (wrap64 (x4_1 + 1))) else (none))) else (if x3_1.length < 8796093022208 then (gemotlaw2_made_p.l0 kj68 l0 (x3_1 ++ [t1081]) (wrap64 (x4_1 + 1))) else (none))) else ((gemotlaw2_name.f ((rd_T186 l0 x4_1).f2)).bind fun t1090 => (if x3_1.length < 8796093022208 then (gemotlaw2_made_p.l0 kj68 l0 (x3_1 ++ [t1090]) (wrap64 (x4_1 + 1))) else (none)))) = some r := H
                                                have A129 := Aside0.mk A1290
                                                clear A1290; by_cases c130 : t1082 = 0
                                                · rw [if_pos c130] at H
                                                  have c130b0 : (t1082 == 0) = true := beq_iff_eq.mpr c130
                                                  have c130b1 : (t1082 != 0) = false := bne_eq_false_iff_eq.mpr c130
                                                  clear c130; by_cases c131 : (t1081.size : Int) > 600
                                                  · rw [if_pos c131] at H
                                                    have c131b0 : decide (600 < (t1081.size : Int)) = true := decide_eq_true c131
                                                    have c131b1 : decide (600 < t1081.size) = true := decide_eq_true (by omega)
                                                    clear c131; replace H := Option.bind_eq_some_iff.mp H
                                                    obtain ⟨t1083, A1320, H⟩ := H; replace H : (if x3_1.length < 8796093022208 then (gemotlaw2_made_p.l0 kj68 l0 (x3_1 ++ [t1083]) (wrap64 (x4_1 + 1))) else (none)) = some r := H
                                                    have A132 := Aside0.mk A1320
                                                    clear A1320; by_cases c133 : x3_1.length < 8796093022208
                                                    · rw [if_pos c133] at H
                                                      have LMc133 := Aside0.mk c133
                                                      clear c133; obtain ⟨y1084, hy1084⟩ : ∃ y_ : List ByteArray, y_ = (x3_1 ++ [t1083]) := ⟨_, rfl⟩
                                                      replace H : (gemotlaw2_made_p.l0 kj68 l0 y1084 (wrap64 (x4_1 + 1))) = some r := by first | (rw [hy1084]; with_reducible exact H) | (have H2_ := (Option.bind_some _ _).symm.trans H; rw [hy1084]; with_reducible exact H2_) | (have H2_ := (Option.bind_some _ _).symm.trans H; with_reducible exact H2_) | with_reducible exact H | (rw [hy1084]; exact H) | exact H
                                                      have Ny1084 := Aside0.mk hy1084
                                                      clear hy1084; have H' := Aside0.mk H
                                                      clear H; go_wp2_with (first | ((with_reducible refine gate_callee (f := 55) rfl ?_); refine goesL_ (some 105) rfl rfl Try.func55 (by kernel_rfl) rfl #[.string (rdOf ByteArray.empty x3_1 t1008), .string (rdOf ByteArray.empty x3_1 t1010)] rfl (by simp only [List.map_toArray, List.map_cons, List.map_nil] <;> rfl) ?_; (with_reducible refine (term_Sign.calls (rdOf ByteArray.empty x3_1 t1008) (rdOf ByteArray.empty x3_1 t1010) t1081 t1082 _ A129.out).mono ?_); rintro e w134 ⟨rfl, hb⟩; refine ⟨_, rfl, ?_⟩; have n0_ := Aside0.mk (Kd.R_below (by (with_reducible repeat (first | apply Kd.R_alloc | apply Kd.R_drewN | apply Kd.R_drew)); exact HO_3.out) hb); have n1_ := Aside0.mk (blk_below (g := gb1007) (o := .cells #[.int .i64 ((rd_T186 l0 x4_1).f0), .int .i64 ((rd_T186 l0 x4_1).f1), .int .i64 ((rd_T186 l0 x4_1).f2), .int .i64 ((rd_T186 l0 x4_1).f3)] 186 (0, 0)) (by (with_reducible repeat (first | refine blk_drewN ?_ _ | refine blk_drew ?_ | refine blk_alloc ?_ _)); exact BK1007.out) hb); have n2_ := Aside0.mk (below_step (by repeat (with_reducible first | exact HB.out | apply below_alloc | apply pw_below_drewN | apply below_drew1 | refine below_set ?_ GE1007.out)) hb); clear HO_3; clear BK1007; clear HB; have HO_3 := n0_; have BK1007 := n1_; have HB := n2_; clear n0_ n1_ n2_; (try clear hb); have hcz135_0 : w134.cell? ⟨gb1007, 0, none⟩ = some (.int .i64 ((rd_T186 l0 x4_1).f0)) := (blk_cell BK1007.out 0).trans rfl; have hcz135_1 : w134.cell? ⟨gb1007, 1, none⟩ = some (.int .i64 ((rd_T186 l0 x4_1).f1)) := (blk_cell BK1007.out 1).trans rfl; have hcz135_2 : w134.cell? ⟨gb1007, 2, none⟩ = some (.int .i64 ((rd_T186 l0 x4_1).f2)) := (blk_cell BK1007.out 2).trans rfl; have hcz135_3 : w134.cell? ⟨gb1007, 3, none⟩ = some (.int .i64 ((rd_T186 l0 x4_1).f3)) := (blk_cell BK1007.out 3).trans rfl; have hfz135_0 := blk_frozen BK1007.out 0; have hfz135_1 := blk_frozen BK1007.out 1; have hfz135_2 := blk_frozen BK1007.out 2; have hfz135_3 := blk_frozen BK1007.out 3) | ((with_reducible refine gate_callee (f := 122) rfl ?_); refine goesL_ (some 117) rfl rfl Try.func122 (by kernel_rfl) rfl #[.int .i64 ((rd_T186 l0 x4_1).f2)] rfl (by simp only [List.map_toArray, List.map_cons, List.map_nil] <;> rfl) ?_; (with_reducible refine (gemotlaw2_name.calls ((rd_T186 l0 x4_1).f2) t1083 _ A132.out).mono ?_); rintro e w136 ⟨rfl, hb⟩; refine ⟨_, rfl, ?_⟩; have n0_ := Aside0.mk (Kd.R_below (by (with_reducible repeat (first | apply Kd.R_alloc | apply Kd.R_drewN | apply Kd.R_drew)); exact HO_3.out) hb); have n1_ := Aside0.mk (blk_below (g := gb1007) (o := .cells #[.int .i64 ((rd_T186 l0 x4_1).f0), .int .i64 ((rd_T186 l0 x4_1).f1), .int .i64 ((rd_T186 l0 x4_1).f2), .int .i64 ((rd_T186 l0 x4_1).f3)] 186 (0, 0)) (by (with_reducible repeat (first | refine blk_drewN ?_ _ | refine blk_drew ?_ | refine blk_alloc ?_ _)); exact BK1007.out) hb); have n2_ := Aside0.mk (below_step (by repeat (with_reducible first | exact HB.out | apply below_alloc | apply pw_below_drewN | apply below_drew1 | refine below_set ?_ GE1007.out)) hb); clear HO_3; clear BK1007; clear HB; have HO_3 := n0_; have BK1007 := n1_; have HB := n2_; clear n0_ n1_ n2_; (try clear hb)) | ((with_reducible refine gate_builtin (b := .append) (xs := #[.tmp 118, .tmp 120]) rfl ?_); (try (refine gate_guard (by rfl) ?_; dsimp only)); at_builtin; refine Kd.R_append Kd.string (w0 := w) w.heap.size rfl (.tmp 118) (.tmp 120) 44 48 (.string ⟨#[]⟩) 16 rfl Try.underlying44 info48 rfl (by decide) (by omega) (.slice (some ad1009) x3_1.length co26) x3_1 t1083 [.string t1083] (fun _ => True) (fun _ => False) rfl rfl ?aP (fun _ hk => hk.elim) ?aF ?aO ?aB ?aS ?aL ?_; (case aP => exact rfl); (case aB => exact (by repeat (with_reducible first | exact HB.out | apply below_alloc | apply pw_below_drewN | apply below_drew1 | refine below_set ?_ GE1007.out))); (case aF => exact (fun _ _ => trivial)); (case aO => exact (by (with_reducible repeat (first | apply Kd.R_alloc | apply Kd.R_drewN | apply Kd.R_drew)); exact HO_3.out)); (case aS => exact (below_size (by repeat (with_reducible first | exact HB.out | apply below_alloc | apply pw_below_drewN | apply below_drew1 | refine below_set ?_ GE1007.out)))); (case aL => have := LMc133.out; omega); intro v1085 w137 ho hb hg hat; rw [← Ny1084.out] at ho; have n0_ := Aside0.mk (blk_grown (g := gb1007) (o := .cells #[.int .i64 ((rd_T186 l0 x4_1).f0), .int .i64 ((rd_T186 l0 x4_1).f1), .int .i64 ((rd_T186 l0 x4_1).f2), .int .i64 ((rd_T186 l0 x4_1).f3)] 186 (0, 0)) (by (with_reducible repeat (first | refine blk_drewN ?_ _ | refine blk_drew ?_ | refine blk_alloc ?_ _)); exact BK1007.out) hg (Kd.R_ne HO_3.out BK1007.out (by decide))); have n1_ := Aside0.mk (hb); have n2_ := Aside0.mk (ho); clear BK1007; clear HB; clear HO_3; have BK1007 := n0_; have HB := n1_; have HO1086 := n2_; clear n0_ n1_ n2_; clear ho hb hg hat))
                                                      go_roundg kj68
                                                      case measure => have := HK1.out; have := HJ6.out; have := HJ22.out; have := HJ68.out; omega
                                                      case rel => exact ⟨(y1084), (wrap64 (x4_1 + 1)), (by first | rfl | (simp; done) | (simp [*]; done)), H', ⟨by have := HK1.out; have := HJ6.out; have := HJ22.out; have := HJ68.out; omega⟩, ⟨by (with_reducible repeat (first | apply Kd.R_alloc | apply Kd.R_drewN | apply Kd.R_drew)); exact HO1086.out⟩, ⟨by repeat (first | (with_reducible first | exact HB.out | apply below_alloc | apply pw_below_drewN | apply below_drew1 | refine below_set ?_ GE1007.out) | exact HB.out)⟩⟩
                                                    · rw [if_neg c133] at H
                                                      exact absurd H (by simp)
                                                  · rw [if_neg c131] at H
                                                    have c131b0 : decide (600 < (t1081.size : Int)) = false := decide_eq_false c131
                                                    have c131b1 : decide (600 < t1081.size) = false := decide_eq_false (by omega)
                                                    clear c131; by_cases c138 : x3_1.length < 8796093022208
                                                    · rw [if_pos c138] at H
                                                      have LMc138 := Aside0.mk c138
                                                      clear c138; obtain ⟨y1087, hy1087⟩ : ∃ y_ : List ByteArray, y_ = (x3_1 ++ [t1081]) := ⟨_, rfl⟩
                                                      replace H : (gemotlaw2_made_p.l0 kj68 l0 y1087 (wrap64 (x4_1 + 1))) = some r := by first | (rw [hy1087]; with_reducible exact H) | (have H2_ := (Option.bind_some _ _).symm.trans H; rw [hy1087]; with_reducible exact H2_) | (have H2_ := (Option.bind_some _ _).symm.trans H; with_reducible exact H2_) | with_reducible exact H | (rw [hy1087]; exact H) | exact H
                                                      have Ny1087 := Aside0.mk hy1087
                                                      clear hy1087; have H' := Aside0.mk H
                                                      clear H; go_wp2_with (first | ((with_reducible refine gate_callee (f := 55) rfl ?_); refine goesL_ (some 105) rfl rfl Try.func55 (by kernel_rfl) rfl #[.string (rdOf ByteArray.empty x3_1 t1008), .string (rdOf ByteArray.empty x3_1 t1010)] rfl (by simp only [List.map_toArray, List.map_cons, List.map_nil] <;> rfl) ?_; (with_reducible refine (term_Sign.calls (rdOf ByteArray.empty x3_1 t1008) (rdOf ByteArray.empty x3_1 t1010) t1081 t1082 _ A129.out).mono ?_); rintro e w139 ⟨rfl, hb⟩; refine ⟨_, rfl, ?_⟩; have n0_ := Aside0.mk (Kd.R_below (by (with_reducible repeat (first | apply Kd.R_alloc | apply Kd.R_drewN | apply Kd.R_drew)); exact HO_3.out) hb); have n1_ := Aside0.mk (blk_below (g := gb1007) (o := .cells #[.int .i64 ((rd_T186 l0 x4_1).f0), .int .i64 ((rd_T186 l0 x4_1).f1), .int .i64 ((rd_T186 l0 x4_1).f2), .int .i64 ((rd_T186 l0 x4_1).f3)] 186 (0, 0)) (by (with_reducible repeat (first | refine blk_drewN ?_ _ | refine blk_drew ?_ | refine blk_alloc ?_ _)); exact BK1007.out) hb); have n2_ := Aside0.mk (below_step (by repeat (with_reducible first | exact HB.out | apply below_alloc | apply pw_below_drewN | apply below_drew1 | refine below_set ?_ GE1007.out)) hb); clear HO_3; clear BK1007; clear HB; have HO_3 := n0_; have BK1007 := n1_; have HB := n2_; clear n0_ n1_ n2_; (try clear hb)) | ((with_reducible refine gate_builtin (b := .append) (xs := #[.tmp 118, .tmp 120]) rfl ?_); (try (refine gate_guard (by rfl) ?_; dsimp only)); at_builtin; refine Kd.R_append Kd.string (w0 := w) w.heap.size rfl (.tmp 118) (.tmp 120) 44 48 (.string ⟨#[]⟩) 16 rfl Try.underlying44 info48 rfl (by decide) (by omega) (.slice (some ad1009) x3_1.length co26) x3_1 t1081 [.string t1081] (fun _ => True) (fun _ => False) rfl rfl ?aP (fun _ hk => hk.elim) ?aF ?aO ?aB ?aS ?aL ?_; (case aP => exact rfl); (case aB => exact (by repeat (with_reducible first | exact HB.out | apply below_alloc | apply pw_below_drewN | apply below_drew1 | refine below_set ?_ GE1007.out))); (case aF => exact (fun _ _ => trivial)); (case aO => exact (by (with_reducible repeat (first | apply Kd.R_alloc | apply Kd.R_drewN | apply Kd.R_drew)); exact HO_3.out)); (case aS => exact (below_size (by repeat (with_reducible first | exact HB.out | apply below_alloc | apply pw_below_drewN | apply below_drew1 | refine below_set ?_ GE1007.out)))); (case aL => have := LMc138.out; omega); intro v1088 w140 ho hb hg hat; rw [← Ny1087.out] at ho; have n0_ := Aside0.mk (blk_grown (g := gb1007) (o := .cells #[.int .i64 ((rd_T186 l0 x4_1).f0), .int .i64 ((rd_T186 l0 x4_1).f1), .int .i64 ((rd_T186 l0 x4_1).f2), .int .i64 ((rd_T186 l0 x4_1).f3)] 186 (0, 0)) (by (with_reducible repeat (first | refine blk_drewN ?_ _ | refine blk_drew ?_ | refine blk_alloc ?_ _)); exact BK1007.out) hg (Kd.R_ne HO_3.out BK1007.out (by decide))); have n1_ := Aside0.mk (hb); have n2_ := Aside0.mk (ho); clear BK1007; clear HB; clear HO_3; have BK1007 := n0_; have HB := n1_; have HO1089 := n2_; clear n0_ n1_ n2_; clear ho hb hg hat))
                                                      go_roundg kj68
                                                      case measure => have := HK1.out; have := HJ6.out; have := HJ22.out; have := HJ68.out; omega
                                                      case rel => exact ⟨(y1087), (wrap64 (x4_1 + 1)), (by first | rfl | (simp; done) | (simp [*]; done)), H', ⟨by have := HK1.out; have := HJ6.out; have := HJ22.out; have := HJ68.out; omega⟩, ⟨by (with_reducible repeat (first | apply Kd.R_alloc | apply Kd.R_drewN | apply Kd.R_drew)); exact HO1089.out⟩, ⟨by repeat (first | (with_reducible first | exact HB.out | apply below_alloc | apply pw_below_drewN | apply below_drew1 | refine below_set ?_ GE1007.out) | exact HB.out)⟩⟩
                                                    · rw [if_neg c138] at H
                                                      exact absurd H (by simp)
                                                · rw [if_neg c130] at H
                                                  have c130b0 : (t1082 == 0) = false := beq_eq_false_iff_ne.mpr c130
                                                  have c130b1 : (t1082 != 0) = true := bne_iff_ne.mpr c130
                                                  replace H := Option.bind_eq_some_iff.mp H
                                                  obtain ⟨t1090, A1410, H⟩ := H; replace H : (if x3_1.length < 8796093022208 then (gemotlaw2_made_p.l0 kj68 l0 (x3_1 ++ [t1090]) (wrap64 (x4_1 + 1))) else (none)) = some r := H
                                                  have A141 := Aside0.mk A1410
                                                  clear A1410; by_cases c142 : x3_1.length < 8796093022208
                                                  · rw [if_pos c142] at H
                                                    have LMc142 := Aside0.mk c142
                                                    clear c142; obtain ⟨y1091, hy1091⟩ : ∃ y_ : List ByteArray, y_ = (x3_1 ++ [t1090]) := ⟨_, rfl⟩
                                                    replace H : (gemotlaw2_made_p.l0 kj68 l0 y1091 (wrap64 (x4_1 + 1))) = some r := by first | (rw [hy1091]; with_reducible exact H) | (have H2_ := (Option.bind_some _ _).symm.trans H; rw [hy1091]; with_reducible exact H2_) | (have H2_ := (Option.bind_some _ _).symm.trans H; with_reducible exact H2_) | with_reducible exact H | (rw [hy1091]; exact H) | exact H
                                                    have Ny1091 := Aside0.mk hy1091
                                                    clear hy1091; have H' := Aside0.mk H
                                                    clear H; go_wp2_with (first | ((with_reducible refine gate_callee (f := 55) rfl ?_); refine goesL_ (some 105) rfl rfl Try.func55 (by kernel_rfl) rfl #[.string (rdOf ByteArray.empty x3_1 t1008), .string (rdOf ByteArray.empty x3_1 t1010)] rfl (by simp only [List.map_toArray, List.map_cons, List.map_nil] <;> rfl) ?_; (with_reducible refine (term_Sign.calls (rdOf ByteArray.empty x3_1 t1008) (rdOf ByteArray.empty x3_1 t1010) t1081 t1082 _ A129.out).mono ?_); rintro e w143 ⟨rfl, hb⟩; refine ⟨_, rfl, ?_⟩; have n0_ := Aside0.mk (Kd.R_below (by (with_reducible repeat (first | apply Kd.R_alloc | apply Kd.R_drewN | apply Kd.R_drew)); exact HO_3.out) hb); have n1_ := Aside0.mk (blk_below (g := gb1007) (o := .cells #[.int .i64 ((rd_T186 l0 x4_1).f0), .int .i64 ((rd_T186 l0 x4_1).f1), .int .i64 ((rd_T186 l0 x4_1).f2), .int .i64 ((rd_T186 l0 x4_1).f3)] 186 (0, 0)) (by (with_reducible repeat (first | refine blk_drewN ?_ _ | refine blk_drew ?_ | refine blk_alloc ?_ _)); exact BK1007.out) hb); have n2_ := Aside0.mk (below_step (by repeat (with_reducible first | exact HB.out | apply below_alloc | apply pw_below_drewN | apply below_drew1 | refine below_set ?_ GE1007.out)) hb); clear HO_3; clear BK1007; clear HB; have HO_3 := n0_; have BK1007 := n1_; have HB := n2_; clear n0_ n1_ n2_; (try clear hb); have hcz144_0 : w143.cell? ⟨gb1007, 0, none⟩ = some (.int .i64 ((rd_T186 l0 x4_1).f0)) := (blk_cell BK1007.out 0).trans rfl; have hcz144_1 : w143.cell? ⟨gb1007, 1, none⟩ = some (.int .i64 ((rd_T186 l0 x4_1).f1)) := (blk_cell BK1007.out 1).trans rfl; have hcz144_2 : w143.cell? ⟨gb1007, 2, none⟩ = some (.int .i64 ((rd_T186 l0 x4_1).f2)) := (blk_cell BK1007.out 2).trans rfl; have hcz144_3 : w143.cell? ⟨gb1007, 3, none⟩ = some (.int .i64 ((rd_T186 l0 x4_1).f3)) := (blk_cell BK1007.out 3).trans rfl; have hfz144_0 := blk_frozen BK1007.out 0; have hfz144_1 := blk_frozen BK1007.out 1; have hfz144_2 := blk_frozen BK1007.out 2; have hfz144_3 := blk_frozen BK1007.out 3) | ((with_reducible refine gate_callee (f := 122) rfl ?_); refine goesL_ (some 117) rfl rfl Try.func122 (by kernel_rfl) rfl #[.int .i64 ((rd_T186 l0 x4_1).f2)] rfl (by simp only [List.map_toArray, List.map_cons, List.map_nil] <;> rfl) ?_; (with_reducible refine (gemotlaw2_name.calls ((rd_T186 l0 x4_1).f2) t1090 _ A141.out).mono ?_); rintro e w145 ⟨rfl, hb⟩; refine ⟨_, rfl, ?_⟩; have n0_ := Aside0.mk (Kd.R_below (by (with_reducible repeat (first | apply Kd.R_alloc | apply Kd.R_drewN | apply Kd.R_drew)); exact HO_3.out) hb); have n1_ := Aside0.mk (blk_below (g := gb1007) (o := .cells #[.int .i64 ((rd_T186 l0 x4_1).f0), .int .i64 ((rd_T186 l0 x4_1).f1), .int .i64 ((rd_T186 l0 x4_1).f2), .int .i64 ((rd_T186 l0 x4_1).f3)] 186 (0, 0)) (by (with_reducible repeat (first | refine blk_drewN ?_ _ | refine blk_drew ?_ | refine blk_alloc ?_ _)); exact BK1007.out) hb); have n2_ := Aside0.mk (below_step (by repeat (with_reducible first | exact HB.out | apply below_alloc | apply pw_below_drewN | apply below_drew1 | refine below_set ?_ GE1007.out)) hb); clear HO_3; clear BK1007; clear HB; have HO_3 := n0_; have BK1007 := n1_; have HB := n2_; clear n0_ n1_ n2_; (try clear hb)) | ((with_reducible refine gate_builtin (b := .append) (xs := #[.tmp 118, .tmp 120]) rfl ?_); (try (refine gate_guard (by rfl) ?_; dsimp only)); at_builtin; refine Kd.R_append Kd.string (w0 := w) w.heap.size rfl (.tmp 118) (.tmp 120) 44 48 (.string ⟨#[]⟩) 16 rfl Try.underlying44 info48 rfl (by decide) (by omega) (.slice (some ad1009) x3_1.length co26) x3_1 t1090 [.string t1090] (fun _ => True) (fun _ => False) rfl rfl ?aP (fun _ hk => hk.elim) ?aF ?aO ?aB ?aS ?aL ?_; (case aP => exact rfl); (case aB => exact (by repeat (with_reducible first | exact HB.out | apply below_alloc | apply pw_below_drewN | apply below_drew1 | refine below_set ?_ GE1007.out))); (case aF => exact (fun _ _ => trivial)); (case aO => exact (by (with_reducible repeat (first | apply Kd.R_alloc | apply Kd.R_drewN | apply Kd.R_drew)); exact HO_3.out)); (case aS => exact (below_size (by repeat (with_reducible first | exact HB.out | apply below_alloc | apply pw_below_drewN | apply below_drew1 | refine below_set ?_ GE1007.out)))); (case aL => have := LMc142.out; omega); intro v1092 w146 ho hb hg hat; rw [← Ny1091.out] at ho; have n0_ := Aside0.mk (blk_grown (g := gb1007) (o := .cells #[.int .i64 ((rd_T186 l0 x4_1).f0), .int .i64 ((rd_T186 l0 x4_1).f1), .int .i64 ((rd_T186 l0 x4_1).f2), .int .i64 ((rd_T186 l0 x4_1).f3)] 186 (0, 0)) (by (with_reducible repeat (first | refine blk_drewN ?_ _ | refine blk_drew ?_ | refine blk_alloc ?_ _)); exact BK1007.out) hg (Kd.R_ne HO_3.out BK1007.out (by decide))); have n1_ := Aside0.mk (hb); have n2_ := Aside0.mk (ho); clear BK1007; clear HB; clear HO_3; have BK1007 := n0_; have HB := n1_; have HO1093 := n2_; clear n0_ n1_ n2_; clear ho hb hg hat))
                                                    go_roundg kj68
                                                    case measure => have := HK1.out; have := HJ6.out; have := HJ22.out; have := HJ68.out; omega
                                                    case rel => exact ⟨(y1091), (wrap64 (x4_1 + 1)), (by first | rfl | (simp; done) | (simp [*]; done)), H', ⟨by have := HK1.out; have := HJ6.out; have := HJ22.out; have := HJ68.out; omega⟩, ⟨by (with_reducible repeat (first | apply Kd.R_alloc | apply Kd.R_drewN | apply Kd.R_drew)); exact HO1093.out⟩, ⟨by repeat (first | (with_reducible first | exact HB.out | apply below_alloc | apply pw_below_drewN | apply below_drew1 | refine below_set ?_ GE1007.out) | exact HB.out)⟩⟩
                                                  · rw [if_neg c142] at H
                                                    exact absurd H (by simp)
                                              · rw [if_neg c128] at H
                                                have c128b0 : (t1015 == 9) = false := beq_eq_false_iff_ne.mpr c128
                                                have c128b1 : (t1015 != 9) = true := bne_iff_ne.mpr c128
                                                by_cases c147 : 0 = 0
                                                · rw [if_pos c147] at H
                                                  have c147b0 : (0 == 0) = true := beq_iff_eq.mpr c147
                                                  have c147b1 : (0 != 0) = false := bne_eq_false_iff_eq.mpr c147
                                                  clear c147; by_cases c148 : (t1014.size : Int) > 600
                                                  · rw [if_pos c148] at H
                                                    have c148b0 : decide (600 < (t1014.size : Int)) = true := decide_eq_true c148
                                                    have c148b1 : decide (600 < t1014.size) = true := decide_eq_true (by omega)
                                                    clear c148; replace H := Option.bind_eq_some_iff.mp H
                                                    obtain ⟨t1094, A1490, H⟩ := H; replace H : (if x3_1.length < 8796093022208 then (gemotlaw2_made_p.l0 kj68 l0 (x3_1 ++ [t1094]) (wrap64 (x4_1 + 1))) else (none)) = some r := H
                                                    have A149 := Aside0.mk A1490
                                                    clear A1490; by_cases c150 : x3_1.length < 8796093022208
                                                    · rw [if_pos c150] at H
                                                      have LMc150 := Aside0.mk c150
                                                      clear c150; obtain ⟨y1095, hy1095⟩ : ∃ y_ : List ByteArray, y_ = (x3_1 ++ [t1094]) := ⟨_, rfl⟩
                                                      replace H : (gemotlaw2_made_p.l0 kj68 l0 y1095 (wrap64 (x4_1 + 1))) = some r := by first | (rw [hy1095]; with_reducible exact H) | (have H2_ := (Option.bind_some _ _).symm.trans H; rw [hy1095]; with_reducible exact H2_) | (have H2_ := (Option.bind_some _ _).symm.trans H; with_reducible exact H2_) | with_reducible exact H | (rw [hy1095]; exact H) | exact H
                                                      have Ny1095 := Aside0.mk hy1095
                                                      clear hy1095; have H' := Aside0.mk H
                                                      clear H; have hcz151_0 : wc.cell? ⟨gb1007, 0, none⟩ = some (.int .i64 ((rd_T186 l0 x4_1).f0)) := (blk_cell BK1007.out 0).trans rfl
                                                      have hcz151_1 : wc.cell? ⟨gb1007, 1, none⟩ = some (.int .i64 ((rd_T186 l0 x4_1).f1)) := (blk_cell BK1007.out 1).trans rfl
                                                      have hcz151_2 : wc.cell? ⟨gb1007, 2, none⟩ = some (.int .i64 ((rd_T186 l0 x4_1).f2)) := (blk_cell BK1007.out 2).trans rfl
                                                      have hcz151_3 : wc.cell? ⟨gb1007, 3, none⟩ = some (.int .i64 ((rd_T186 l0 x4_1).f3)) := (blk_cell BK1007.out 3).trans rfl
                                                      have hfz151_0 := blk_frozen BK1007.out 0; have hfz151_1 := blk_frozen BK1007.out 1; have hfz151_2 := blk_frozen BK1007.out 2; have hfz151_3 := blk_frozen BK1007.out 3; go_wp2_with (first | ((with_reducible refine gate_callee (f := 122) rfl ?_); refine goesL_ (some 117) rfl rfl Try.func122 (by kernel_rfl) rfl #[.int .i64 ((rd_T186 l0 x4_1).f2)] rfl (by simp only [List.map_toArray, List.map_cons, List.map_nil] <;> rfl) ?_; (with_reducible refine (gemotlaw2_name.calls ((rd_T186 l0 x4_1).f2) t1094 _ A149.out).mono ?_); rintro e w152 ⟨rfl, hb⟩; refine ⟨_, rfl, ?_⟩; have n0_ := Aside0.mk (Kd.R_below (by (with_reducible repeat (first | apply Kd.R_alloc | apply Kd.R_drewN | apply Kd.R_drew)); exact HO_3.out) hb); have n1_ := Aside0.mk (blk_below (g := gb1007) (o := .cells #[.int .i64 ((rd_T186 l0 x4_1).f0), .int .i64 ((rd_T186 l0 x4_1).f1), .int .i64 ((rd_T186 l0 x4_1).f2), .int .i64 ((rd_T186 l0 x4_1).f3)] 186 (0, 0)) (by (with_reducible repeat (first | refine blk_drewN ?_ _ | refine blk_drew ?_ | refine blk_alloc ?_ _)); exact BK1007.out) hb); have n2_ := Aside0.mk (below_step (by repeat (with_reducible first | exact HB.out | apply below_alloc | apply pw_below_drewN | apply below_drew1 | refine below_set ?_ GE1007.out)) hb); clear HO_3; clear BK1007; clear HB; have HO_3 := n0_; have BK1007 := n1_; have HB := n2_; clear n0_ n1_ n2_; (try clear hb)) | ((with_reducible refine gate_builtin (b := .append) (xs := #[.tmp 118, .tmp 120]) rfl ?_); (try (refine gate_guard (by rfl) ?_; dsimp only)); at_builtin; refine Kd.R_append Kd.string (w0 := w) w.heap.size rfl (.tmp 118) (.tmp 120) 44 48 (.string ⟨#[]⟩) 16 rfl Try.underlying44 info48 rfl (by decide) (by omega) (.slice (some ad1009) x3_1.length co26) x3_1 t1094 [.string t1094] (fun _ => True) (fun _ => False) rfl rfl ?aP (fun _ hk => hk.elim) ?aF ?aO ?aB ?aS ?aL ?_; (case aP => exact rfl); (case aB => exact (by repeat (with_reducible first | exact HB.out | apply below_alloc | apply pw_below_drewN | apply below_drew1 | refine below_set ?_ GE1007.out))); (case aF => exact (fun _ _ => trivial)); (case aO => exact (by (with_reducible repeat (first | apply Kd.R_alloc | apply Kd.R_drewN | apply Kd.R_drew)); exact HO_3.out)); (case aS => exact (below_size (by repeat (with_reducible first | exact HB.out | apply below_alloc | apply pw_below_drewN | apply below_drew1 | refine below_set ?_ GE1007.out)))); (case aL => have := LMc150.out; omega); intro v1096 w153 ho hb hg hat; rw [← Ny1095.out] at ho; have n0_ := Aside0.mk (blk_grown (g := gb1007) (o := .cells #[.int .i64 ((rd_T186 l0 x4_1).f0), .int .i64 ((rd_T186 l0 x4_1).f1), .int .i64 ((rd_T186 l0 x4_1).f2), .int .i64 ((rd_T186 l0 x4_1).f3)] 186 (0, 0)) (by (with_reducible repeat (first | refine blk_drewN ?_ _ | refine blk_drew ?_ | refine blk_alloc ?_ _)); exact BK1007.out) hg (Kd.R_ne HO_3.out BK1007.out (by decide))); have n1_ := Aside0.mk (hb); have n2_ := Aside0.mk (ho); clear BK1007; clear HB; clear HO_3; have BK1007 := n0_; have HB := n1_; have HO1097 := n2_; clear n0_ n1_ n2_; clear ho hb hg hat))
                                                      go_roundg kj68
                                                      case measure => have := HK1.out; have := HJ6.out; have := HJ22.out; have := HJ68.out; omega
                                                      case rel => exact ⟨(y1095), (wrap64 (x4_1 + 1)), (by first | rfl | (simp; done) | (simp [*]; done)), H', ⟨by have := HK1.out; have := HJ6.out; have := HJ22.out; have := HJ68.out; omega⟩, ⟨by (with_reducible repeat (first | apply Kd.R_alloc | apply Kd.R_drewN | apply Kd.R_drew)); exact HO1097.out⟩, ⟨by repeat (first | (with_reducible first | exact HB.out | apply below_alloc | apply pw_below_drewN | apply below_drew1 | refine below_set ?_ GE1007.out) | exact HB.out)⟩⟩
                                                    · rw [if_neg c150] at H
                                                      exact absurd H (by simp)
                                                  · rw [if_neg c148] at H
                                                    have c148b0 : decide (600 < (t1014.size : Int)) = false := decide_eq_false c148
                                                    have c148b1 : decide (600 < t1014.size) = false := decide_eq_false (by omega)
                                                    clear c148; by_cases c154 : x3_1.length < 8796093022208
                                                    · rw [if_pos c154] at H
                                                      have LMc154 := Aside0.mk c154
                                                      clear c154; obtain ⟨y1098, hy1098⟩ : ∃ y_ : List ByteArray, y_ = (x3_1 ++ [t1014]) := ⟨_, rfl⟩
                                                      replace H : (gemotlaw2_made_p.l0 kj68 l0 y1098 (wrap64 (x4_1 + 1))) = some r := by first | (rw [hy1098]; with_reducible exact H) | (have H2_ := (Option.bind_some _ _).symm.trans H; rw [hy1098]; with_reducible exact H2_) | (have H2_ := (Option.bind_some _ _).symm.trans H; with_reducible exact H2_) | with_reducible exact H | (rw [hy1098]; exact H) | exact H
                                                      have Ny1098 := Aside0.mk hy1098
                                                      clear hy1098; have H' := Aside0.mk H
                                                      clear H; go_wp2_with (first | ((with_reducible refine gate_builtin (b := .append) (xs := #[.tmp 118, .tmp 120]) rfl ?_); (try (refine gate_guard (by rfl) ?_; dsimp only)); at_builtin; refine Kd.R_append Kd.string (w0 := w) w.heap.size rfl (.tmp 118) (.tmp 120) 44 48 (.string ⟨#[]⟩) 16 rfl Try.underlying44 info48 rfl (by decide) (by omega) (.slice (some ad1009) x3_1.length co26) x3_1 t1014 [.string t1014] (fun _ => True) (fun _ => False) rfl rfl ?aP (fun _ hk => hk.elim) ?aF ?aO ?aB ?aS ?aL ?_; (case aP => exact rfl); (case aB => exact (by repeat (with_reducible first | exact HB.out | apply below_alloc | apply pw_below_drewN | apply below_drew1 | refine below_set ?_ GE1007.out))); (case aF => exact (fun _ _ => trivial)); (case aO => exact (by (with_reducible repeat (first | apply Kd.R_alloc | apply Kd.R_drewN | apply Kd.R_drew)); exact HO_3.out)); (case aS => exact (below_size (by repeat (with_reducible first | exact HB.out | apply below_alloc | apply pw_below_drewN | apply below_drew1 | refine below_set ?_ GE1007.out)))); (case aL => have := LMc154.out; omega); intro v1099 w155 ho hb hg hat; rw [← Ny1098.out] at ho; have n0_ := Aside0.mk (blk_grown (g := gb1007) (o := .cells #[.int .i64 ((rd_T186 l0 x4_1).f0), .int .i64 ((rd_T186 l0 x4_1).f1), .int .i64 ((rd_T186 l0 x4_1).f2), .int .i64 ((rd_T186 l0 x4_1).f3)] 186 (0, 0)) (by (with_reducible repeat (first | refine blk_drewN ?_ _ | refine blk_drew ?_ | refine blk_alloc ?_ _)); exact BK1007.out) hg (Kd.R_ne HO_3.out BK1007.out (by decide))); have n1_ := Aside0.mk (hb); have n2_ := Aside0.mk (ho); clear BK1007; clear HB; clear HO_3; have BK1007 := n0_; have HB := n1_; have HO1100 := n2_; clear n0_ n1_ n2_; clear ho hb hg hat))
                                                      go_roundg kj68
                                                      case measure => have := HK1.out; have := HJ6.out; have := HJ22.out; have := HJ68.out; omega
                                                      case rel => exact ⟨(y1098), (wrap64 (x4_1 + 1)), (by first | rfl | (simp; done) | (simp [*]; done)), H', ⟨by have := HK1.out; have := HJ6.out; have := HJ22.out; have := HJ68.out; omega⟩, ⟨by (with_reducible repeat (first | apply Kd.R_alloc | apply Kd.R_drewN | apply Kd.R_drew)); exact HO1100.out⟩, ⟨by repeat (first | (with_reducible first | exact HB.out | apply below_alloc | apply pw_below_drewN | apply below_drew1 | refine below_set ?_ GE1007.out) | exact HB.out)⟩⟩
                                                    · rw [if_neg c154] at H
                                                      exact absurd H (by simp)
                                                · exact absurd rfl c147
                          · rw [if_neg c20] at H
                            exact absurd H (by simp)
                        · rw [if_neg c19] at H
                          exact absurd H (by simp)
                      · rw [if_neg c17] at H
                        exact absurd H (by simp)
                    · rw [if_neg c16] at H
                      exact absurd H (by simp)
                  · rw [if_neg c14] at H
                    exact absurd H (by simp)
                · rw [if_neg c13] at H
                  exact absurd H (by simp)
              · rw [if_neg c11] at H
                exact absurd H (by simp)
            · rw [if_neg c10] at H
              exact absurd H (by simp)
          · replace c9 := Bool.eq_false_iff.mpr c9
            subst c9; have H1 : (some x3_1) = some r := by rw [if_neg (show ¬ (false = true) by decide)] at H; exact H
            clear H; have H := H1; clear H1; obtain rfl := Option.some.inj H
            go_wp2; go_ret
            exact ⟨_, by first | rfl | (simp [errW_none, errW_some] <;> rfl) | (simp [*, errW_none, errW_some] <;> rfl), by (with_reducible repeat (first | apply Kd.R_alloc | apply Kd.R_drewN | apply Kd.R_drew)); exact HO_3.out, by repeat (first | (with_reducible first | exact HB.out | apply below_alloc | apply pw_below_drewN | apply below_drew1) | exact HB.out)⟩

open Go.Proofs.Ytppimpadfgldjaa.Pure
def gemotlaw2_made.tup (x : S186) : Int × Int × Int × Int := (x.f0, x.f1, x.f2, x.f3)
abbrev gemotlaw2_made.rg (n : Int) : Prop := -9223372036854775808 ≤ n ∧ n ≤ 9223372036854775807
abbrev gemotlaw2_made.ok (x : S186) : Prop := gemotlaw2_made.rg x.f0 ∧ gemotlaw2_made.rg x.f1 ∧ gemotlaw2_made.rg x.f2 ∧ gemotlaw2_made.rg x.f3
def gemotlaw2_made.tmade (l : List S186) : List ByteArray := madeT (l.map gemotlaw2_made.tup)
def gemotlaw2_made.f (l : List S186) : Option (List ByteArray) :=
  if ∀ x ∈ l, gemotlaw2_made.ok x then some (gemotlaw2_made.tmade l) else none
theorem gemotlaw2_made.tail {k : Nat} {x0 : List S186} {out : List ByteArray} {i : Nat} {r : ByteArray × Int} {b : Int} {R : List ByteArray} (hb : gemotlaw2_made.rg b) (hl : out.length ≤ 100) (hi : i ≤ 100)
    (h : gemotlaw2_made_p.l0 k x0 (out ++ [pickT r b]) ((i + 1 : Nat) : Int) = some R) :
    (if r.2 = 0 then (if (r.1.size : Int) > 600 then ((gemotlaw2_name.f b).bind fun t => (if out.length < 8796093022208 then (gemotlaw2_made_p.l0 k x0 (out ++ [t]) (wrap64 ((i : Int) + 1))) else (none))) else (if out.length < 8796093022208 then (gemotlaw2_made_p.l0 k x0 (out ++ [r.1]) (wrap64 ((i : Int) + 1))) else (none))) else ((gemotlaw2_name.f b).bind fun t => (if out.length < 8796093022208 then (gemotlaw2_made_p.l0 k x0 (out ++ [t]) (wrap64 ((i : Int) + 1))) else (none)))) = some R := by
  have hw : wrap64 ((i : Int) + 1) = ((i + 1 : Nat) : Int) := by unfold wrap64; omega
  have hn : gemotlaw2_name.f b = some (nameT b) := by unfold gemotlaw2_name.f; exact if_pos hb
  have ho : out.length < 8796093022208 := by omega
  rw [hw, hn, Option.bind_some, if_pos ho]
  unfold pickT at h
  by_cases c : r.2 = 0
  · rw [if_pos c]
    by_cases d : r.1.size ≤ 600
    · rw [if_neg (by omega)]
      rw [if_pos ⟨c, d⟩] at h
      exact (if_pos ho).trans h
    · rw [if_pos (by omega)]
      rw [if_neg (fun q => d q.2)] at h
      exact h
  · rw [if_neg c]
    rw [if_neg (fun q => c q.1)] at h
    exact h
theorem gemotlaw2_made.pk {c n : Int} (hc : gemotlaw2_made.rg c) (h1 : 0 < n) (h2 : n ≤ 100) : gemotlaw2_pick.f c n = some (pickF c n) := by
  unfold gemotlaw2_pick.f
  rw [if_pos ⟨hc.1, hc.2, h1, by omega⟩]
  rfl
set_option maxHeartbeats 1000000 in
theorem gemotlaw2_made.step (x0 : List S186) (hx : ∀ x ∈ x0, gemotlaw2_made.ok x) (out : List ByteArray) (h2 : 2 ≤ out.length) (h100 : out.length ≤ 100) (hs : ∀ t ∈ out, t.size ≤ 600) (i : Nat) (hi : i < x0.length) (h40 : i < 40) (R : List ByteArray) (K : Nat)
    (hK : ∀ k, K ≤ k → gemotlaw2_made_p.l0 k x0 (mstepT out (gemotlaw2_made.tup x0[i])) ((i + 1 : Nat) : Int) = some R) : ∀ k, K + 4 ≤ k → gemotlaw2_made_p.l0 k x0 out i = some R := by
  intro k hk; obtain ⟨k, rfl⟩ : ∃ m, k = m + 4 := ⟨k - 4, by omega⟩
  have hok := hx _ (List.getElem_mem hi)
  have hrd : rd_T186 x0 (i : Int) = x0[i] := by simp [rd_T186, List.getD_eq_getElem?_getD, hi]
  have K1 := hK k (by omega)
  have K2 := hK (k + 1) (by omega)
  clear hK; unfold mstepT at K1 K2
  generalize hX : x0[i] = X at hok hrd K1 K2
  obtain ⟨f0, f1, f2, f3⟩ := X; obtain ⟨o0, o1, o2, o3⟩ := hok; simp only [gemotlaw2_made.tup] at o0 o1 o2 o3 K1 K2
  have hpos : (0 : Int) < (out.length : Int) := by omega
  have p1 := gemotlaw2_made.pk o1 hpos (by omega)
  have p2 := gemotlaw2_made.pk o2 hpos (by omega)
  have p3 := gemotlaw2_made.pk o3 hpos (by omega)
  have p0 := gemotlaw2_made.pk (n := 10) o0 (by decide) (by decide)
  have r0 := pickF_range f0 (n := 10) (by decide)
  have r1 := pickF_range f1 hpos
  have r2 := pickF_range f2 hpos
  have r3 := pickF_range f3 hpos
  have hn1 : gemotlaw2_name.f f1 = some (nameT f1) := by unfold gemotlaw2_name.f; exact if_pos o1
  unfold resT at K1 K2
  simp only at K1 K2
  have ma := hs _ (atF_mem r1.1 r1.2)
  have mb := hs _ (atF_mem r2.1 r2.2)
  have mc := hs _ (atF_mem r3.1 r3.2)
  generalize hg : pickF f0 10 = g at p0 r0 K1 K2
  generalize pickF f1 out.length = q1 at p1 r1 K1 K2 ma
  generalize pickF f2 out.length = q2 at p2 r2 K1 K2 mb
  generalize pickF f3 out.length = q3 at p3 r3 K1 K2 mc
  rw [gemotlaw2_made_p.l0, if_pos (show (i : Int) < (x0.length : Int) by omega), decide_eq_true (show (i : Int) < 40 by omega), gemotlaw2_made_p.j1, if_pos rfl, if_pos (show (0 : Int) ≤ (i : Int) by omega), if_pos (show (i : Int) < (x0.length : Int) by omega), hrd]
  simp only
  rw [p1, Option.bind_some, if_pos r1.1, if_pos r1.2, p2, Option.bind_some, if_pos r2.1, if_pos r2.2, p3, Option.bind_some, if_pos r3.1, if_pos r3.2, hn1, Option.bind_some, p0, Option.bind_some]
  rw [show rdOf ByteArray.empty out q1 = atF out q1 from rfl, show rdOf ByteArray.empty out q2 = atF out q2 from rfl, show rdOf ByteArray.empty out q3 = atF out q3 from rfl]
  generalize atF out q1 = a at K1 K2 ma ⊢
  generalize atF out q2 = b at K1 K2 mb ⊢
  generalize atF out q3 = c at K1 K2 mc ⊢
  have fp : term_Power.f a b = some (powF a b) := by unfold term_Power.f; exact if_pos ⟨by omega, by omega⟩
  have fk : term_Key.f a = some (keyF a) := by unfold term_Key.f; exact if_pos (by omega)
  have fq : term_Pair.f a b = some (pairF a b) := by unfold term_Pair.f; exact if_pos ⟨by omega, by omega⟩
  have fh : term_Hash.f a = some (hashF a) := by unfold term_Hash.f; exact if_pos (by omega)
  have fs : term_Seal.f a b c = some (sealF a b c) := by unfold term_Seal.f; exact if_pos ⟨by omega, by omega, by omega⟩
  have fx : term_Sign.f a b = some (signF a b) := by unfold term_Sign.f; exact if_pos ⟨by omega, by omega⟩
  have hc : g = 1 ∨ g = 2 ∨ g = 3 ∨ g = 4 ∨ g = 5 ∨ g = 6 ∨ g = 7 ∨ g = 8 ∨ g = 9 ∨ g = 0 := by omega
  have ht1 := fun r => gemotlaw2_made.tail (k := k) (x0 := x0) (out := out) (i := i) (r := r) (R := R) o2 h100 (by omega)
  have ht2 := fun r => gemotlaw2_made.tail (k := k + 1) (x0 := x0) (out := out) (i := i) (r := r) (R := R) o2 h100 (by omega)
  have hsel : ∀ F : Bool → Option (List ByteArray), (if g = 1 then F (g == 1) else (if g = 2 then F (g == 2) else F (g == 3))) = F (decide (g = 1 ∨ g = 2 ∨ g = 3)) := by
    intro F; by_cases c1 : g = 1
    · rw [if_pos c1, c1]; rfl
    · rw [if_neg c1]
      by_cases c2 : g = 2
      · rw [if_pos c2, c2]; rfl
      · rw [if_neg c2]
        congr 1
        rw [Bool.eq_iff_iff, beq_iff_eq, decide_eq_true_eq]
        omega
  refine (hsel (fun v => gemotlaw2_made_p.j2 (k + 2) x0 out i a b c (nameT f1) 0 g v f0 f1 f2 f3)).trans ?_
  show gemotlaw2_made_p.j2 (k + 2) x0 out i a b c (nameT f1) 0 g (decide (g = 1 ∨ g = 2 ∨ g = 3)) f0 f1 f2 f3 = some R
  rw [gemotlaw2_made_p.j2]
  clear hsel; rcases hc with rfl | rfl | rfl | rfl | rfl | rfl | rfl | rfl | rfl | rfl
  · rw [if_pos (by decide), fp, Option.bind_some]; exact ht2 _ K2
  · rw [if_pos (by decide), fp, Option.bind_some]; exact ht2 _ K2
  · rw [if_pos (by decide), fp, Option.bind_some]; exact ht2 _ K2
  · rw [if_neg (by decide), if_pos rfl, fk, Option.bind_some]; exact ht2 _ K2
  · rw [if_neg (by decide), if_neg (by decide), if_pos rfl, gemotlaw2_made_p.j3, if_pos (by decide), fq, Option.bind_some]; exact ht1 _ K1
  · rw [if_neg (by decide), if_neg (by decide), if_neg (by decide), gemotlaw2_made_p.j3, if_pos (by decide), fq, Option.bind_some]; exact ht1 _ K1
  · rw [if_neg (by decide), if_neg (by decide), if_neg (by decide), gemotlaw2_made_p.j3, if_neg (by decide), if_pos rfl, fh, Option.bind_some]; exact ht1 _ K1
  · rw [if_neg (by decide), if_neg (by decide), if_neg (by decide), gemotlaw2_made_p.j3, if_neg (by decide), if_neg (by decide), if_pos rfl, fs, Option.bind_some]; exact ht1 _ K1
  · rw [if_neg (by decide), if_neg (by decide), if_neg (by decide), gemotlaw2_made_p.j3, if_neg (by decide), if_neg (by decide), if_neg (by decide), if_pos rfl, fx, Option.bind_some]; exact ht1 _ K1
  · rw [if_neg (by decide), if_neg (by decide), if_neg (by decide), gemotlaw2_made_p.j3, if_neg (by decide), if_neg (by decide), if_neg (by decide), if_neg (by decide)]; exact ht1 (nameT f1, 0) K1
theorem gemotlaw2_made.run (x0 : List S186) (hx : ∀ x ∈ x0, gemotlaw2_made.ok x) : ∀ (d i : Nat) (out : List ByteArray), i + d = min 40 x0.length → MadeOk out → out.length = i + 2 →
    ∃ K, ∀ k, K ≤ k → gemotlaw2_made_p.l0 k x0 out i = some ((((x0.map gemotlaw2_made.tup).take 40).drop i).foldl mstepT out)
  | 0, i, out, hd, ho, hl => by
    refine ⟨2, fun k hk => ?_⟩
    obtain ⟨k, rfl⟩ : ∃ m, k = m + 2 := ⟨k - 2, by omega⟩
    rw [List.drop_eq_nil_of_le (by rw [List.length_take, List.length_map]; omega), List.foldl_nil, gemotlaw2_made_p.l0]
    by_cases c : (i : Int) < (x0.length : Int)
    · rw [if_pos c, decide_eq_false (by omega), gemotlaw2_made_p.j1, if_neg (by decide)]
    · rw [if_neg c, gemotlaw2_made_p.j1, if_neg (by decide)]
  | d + 1, i, out, hd, ho, hl => by
    have hi : i < x0.length := by omega
    have hlt : i < ((x0.map gemotlaw2_made.tup).take 40).length := by rw [List.length_take, List.length_map]; omega
    have hstep := mstepT_ok ho (by omega) (gemotlaw2_made.tup x0[i])
    obtain ⟨K, hK⟩ := gemotlaw2_made.run x0 hx d (i + 1) (mstepT out (gemotlaw2_made.tup x0[i])) (by omega) hstep (by unfold mstepT; rw [List.length_append, hl]; rfl)
    refine ⟨K + 4, fun k hk => ?_⟩
    rw [List.drop_eq_getElem_cons hlt, List.foldl_cons]
    have he : ((x0.map gemotlaw2_made.tup).take 40)[i] = gemotlaw2_made.tup x0[i] := by rw [List.getElem_take, List.getElem_map]
    rw [he]
    exact gemotlaw2_made.step x0 hx out ho.two (by omega) ho.small i hi (by omega) _ K hK k hk
theorem gemotlaw2_made.eq (l : List S186) (r : List ByteArray) (h : gemotlaw2_made.f l = some r) : ∃ k, gemotlaw2_made_p.f k l = some r := by
  unfold gemotlaw2_made.f at h
  split at h
  case isFalse => cases h
  rename_i hs
  rw [← h]
  obtain ⟨K, hK⟩ := gemotlaw2_made.run l hs (min 40 l.length) 0 _ (by omega) made_start rfl
  refine ⟨K, ?_⟩
  have hn : gemotlaw2_name.f 1 = some (nameT 1) := by unfold gemotlaw2_name.f; exact if_pos ⟨by decide, by decide⟩
  unfold gemotlaw2_made_p.f term_Gen.f
  rw [hn, Option.bind_some, Option.bind_some]
  exact hK K (Nat.le_refl _)
theorem gemotlaw2_made.calls (A0 : Option Addr) (c0 : Nat) (l0 : List S186) (r : List ByteArray) (w : World) (hr0 : Kd.C k186 w A0 l0.length l0) (hc0 : l0.length ≤ c0) (h : gemotlaw2_made.f l0 = some r) :
    Calls Try.prog 71 #[.slice A0 l0.length c0] w fun e w' => ∃ v0_ : Value, e = .returned (v0_) ∧ Kd.R Kd.string 48 w' w.heap.size (fun _ => True) v0_ r ∧ Below w.heap.size w w' := by
  obtain ⟨k, hk⟩ := gemotlaw2_made.eq l0 r h
  exact gemotlaw2_made_p.calls k A0 c0 l0 r w hr0 hc0 hk

end Go.Proofs.Ytppimpadfgldjaa.F
