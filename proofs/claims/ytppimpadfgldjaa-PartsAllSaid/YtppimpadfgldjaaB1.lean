/- The program's functions on terms, and plain facts about what is read; no condition. -/
import Derived.Test.YtppimpadfgldjaaF0
import Derived.RegionTactic
import Derived.ChangeAlike
import Derived.BigRegion
import Derived.WalkMore
namespace Go.Proofs.Ytppimpadfgldjaa.F
open Go.RowKit Go.Proofs.YtppimpadfgldjaaW.PrintWords Go.Proofs.YtppimpadfgldjaaW.PrintLast Go.Proofs.YtppimpadfgldjaaW.PrintMore
attribute [local go_sem] max2_int min2_int max_two min_two max_three min_three max_four min_four
set_option linter.unusedVariables false
set_option linter.unusedSimpArgs false

/-! ### term_counted: function 121 -/
/-! #### term_counted_p: function 121 -/
def term_counted_p.l0 : Nat → Int → List Int → Int → Option (ByteArray)
  | 0, _, _, _ => none
  | k + 1, x1, x5, x6 => if x6 ≥ 0 then (if 0 ≤ x6 then (if x5.length < 140737488355328 then (term_counted_p.l0 k x1 (x5 ++ [(shr .u64 x1 x6) % 256]) (wrap64 (x6 - 8))) else (none)) else (none)) else (some (strOfNums x5))
def term_counted_p.f (k : Nat) (a0 : Int) (a1 : Int) : Option (ByteArray) := term_counted_p.l0 k a1 (([a0] : List Int)) 56
theorem term_counted_p.mono_l : ∀ k, (∀ y0 y1 y2, LeO (term_counted_p.l0 k y0 y1 y2) (term_counted_p.l0 (k + 1) y0 y1 y2))
  | 0 => fun _ _ _ r h => by simp [term_counted_p.l0] at h
  | k + 1 => by
    have ih0 := term_counted_p.mono_l k
    · intro y0 y1 y2
      unfold term_counted_p.l0
      repeat' first
      | (with_reducible exact ih0 _ _ _)
      | (with_reducible exact LeO.refl _)
      | (with_reducible exact LeO.none _)
      | (with_reducible refine LeO.ite ?_ ?_)
      | (with_reducible refine LeO.bind ?_ (fun _ => ?_))
      | exact ih0 _ _ _
      | exact LeO.none _
      | refine LeO.ite ?_ ?_
      | refine LeO.bind ?_ (fun _ => ?_)
theorem term_counted_p.mono : ∀ a0 a1 k, LeO (term_counted_p.f k a0 a1) (term_counted_p.f (k + 1) a0 a1) := by
  intro a0 a1 k
  have ih0 := term_counted_p.mono_l k
  unfold term_counted_p.f
  repeat' first
      | (with_reducible exact ih0 _ _ _)
      | (with_reducible exact LeO.refl _)
      | (with_reducible exact LeO.none _)
      | (with_reducible refine LeO.ite ?_ ?_)
      | (with_reducible refine LeO.bind ?_ (fun _ => ?_))
      | exact ih0 _ _ _
      | exact LeO.none _
      | refine LeO.ite ?_ ?_
      | refine LeO.bind ?_ (fun _ => ?_)
set_option maxHeartbeats 8000000 in
set_option maxRecDepth 100000 in
theorem term_counted_p.calls (k : Nat) (a0 : Int) (a1 : Int) (r : ByteArray) (w : World) (h : term_counted_p.f k a0 a1 = some r) :
    Calls Try.prog 121 #[.int .u8 a0, .int .u64 a1] w fun e w' => e = .returned (.string r) ∧ Below w.heap.size w w' := by
  have HB := Aside0.mk (Below.refl w.heap.size w)
  have H : (term_counted_p.l0 k a1 (([a0] : List Int)) 56) = some r := h
  clear h
  obtain ⟨y1001, hy1001⟩ : ∃ y_ : List Int, y_ = (([a0] : List Int)) := ⟨_, rfl⟩
  replace H : (term_counted_p.l0 k a1 y1001 56) = some r := by first | (rw [hy1001]; with_reducible exact H) | (have H2_ := (Option.bind_some _ _).symm.trans H; rw [hy1001]; with_reducible exact H2_) | (have H2_ := (Option.bind_some _ _).symm.trans H; with_reducible exact H2_) | with_reducible exact H | (rw [hy1001]; exact H) | exact H
  have Ny1001 := Aside0.mk hy1001
  clear hy1001
  have H' := Aside0.mk H
  clear H
  go_enter Try.func121, Try.ntmps121
  go_wp2_with (first | ((with_reducible refine gate_dst (N := 8) rfl ?_); refine Kd.R_lit (Kd.int .u8) _ 5 ?hg (N := 8) ?hd (xs := ([a0] : List Int)) (inner := [.int .u8 a0]) (ok := fun _ => True) (okp := fun _ => True) ?hr ?hp (fun _ hk => hk) trivial (Below.refl _ _) (Nat.le_refl _) (by simp) ?_; (case hd => rfl); (case hg => rfl); (case hr => first | (go_simp; done) | (go_simp; rfl)); (case hp => exact (Reps.one (show Kd.M (Kd.int .u8) _ _ _ a0 [.int .u8 a0] from rfl) (Reps.none _ _))); intro v1002 w3 ho4 hb hg_ hnew_; clear hg_ hnew_; (first | rw [← Ny1001.out] at ho4 | (simp only [Int.reduceToNat] at ho4; rw [← Ny1001.out] at ho4)); have n0_ := Aside0.mk (Kd.R_lower ho4 (below_size (by repeat with_reducible first | exact HB.out | apply below_alloc | apply pw_below_drewN | apply below_drew1))); have n1_ := Aside0.mk (below_step (by repeat with_reducible first | exact HB.out | apply below_alloc | apply pw_below_drewN | apply below_drew1) hb); clear HB; have HO1003 := n0_; have HB := n1_; clear n0_ n1_; clear hb ho4))
  go_loopg [5, 6] k (fun kq v5 v6 w' => ∃ (x5_1 : List Int) (x6_1 : Int), v6 = .int .i64 x6_1 ∧ Aside0 (term_counted_p.l0 kq a1 x5_1 x6_1 = some r) ∧ Aside0 (kq ≤ k) ∧ Aside0 (Kd.R (Kd.int .u8) 5 w' w.heap.size (fun _ => True) v5 x5_1) ∧ Aside0 (Below w.heap.size w w'))
  case atStart => exact ⟨(y1001), (56), (by first | rfl | (simp; done) | (simp [*]; done)), H', ⟨Nat.le_refl _⟩, ⟨by (with_reducible repeat (first | apply Kd.R_alloc | apply Kd.R_drewN | apply Kd.R_drew)); exact HO1003.out⟩, ⟨by repeat (first | (with_reducible first | exact HB.out | apply below_alloc | apply pw_below_drewN | apply below_drew1) | exact HB.out)⟩⟩
  case round =>
    clear H'
    try clear c1
    try clear p2
    obtain ⟨x5_1, x6_1, rfl, HA, HK1, HO_5, HB⟩ := hrel
    cases gk with
    | zero => exact absurd HA.out (by simp [term_counted_p.l0])
    | succ k1 =>
      have H := HA.out
      clear HA
      simp only [term_counted_p.l0] at H
      by_cases c5 : x6_1 ≥ 0
      · rw [if_pos c5] at H
        have c5b0 : decide (0 ≤ x6_1) = true := decide_eq_true c5
        clear c5
        by_cases c6 : 0 ≤ x6_1
        · rw [if_pos c6] at H
          have c6b0 := eq_true c6
          have c6b1 : decide (0 ≤ x6_1) = true := decide_eq_true c6
          clear c6
          obtain ⟨ji7, hji7⟩ : ∃ j_ : Int, (shr .u64 a1 x6_1) = j_ := ⟨_, rfl⟩
          replace H : (if x5_1.length < 140737488355328 then (term_counted_p.l0 k1 a1 (x5_1 ++ [(ji7) % 256]) (wrap64 (x6_1 - 8))) else (none)) = some r := by first | (rw [hji7] at H; exact H) | (simp only [hji7] at H ⊢; exact H)
          have hji7_ : (a1 / 2 ^ min x6_1.toNat 64) = ji7 := hji7
          have hji7z : x6_1 ≤ 64 → (a1 / 2 ^ x6_1.toNat) = ji7 := shr_small hji7
          by_cases c8 : x5_1.length < 140737488355328
          · rw [if_pos c8] at H
            have LMc8 := Aside0.mk c8
            clear c8
            obtain ⟨y1004, hy1004⟩ : ∃ y_ : List Int, y_ = (x5_1 ++ [(ji7) % 256]) := ⟨_, rfl⟩
            replace H : (term_counted_p.l0 k1 a1 y1004 (wrap64 (x6_1 - 8))) = some r := by first | (rw [hy1004]; with_reducible exact H) | (have H2_ := (Option.bind_some _ _).symm.trans H; rw [hy1004]; with_reducible exact H2_) | (have H2_ := (Option.bind_some _ _).symm.trans H; with_reducible exact H2_) | with_reducible exact H | (rw [hy1004]; exact H) | exact H
            have Ny1004 := Aside0.mk hy1004
            clear hy1004
            have H' := Aside0.mk H
            clear H
            go_wp2_with (first | ((with_reducible refine gate_builtin (b := .append) (xs := #[.tmp 13, .tmp 18]) rfl ?_); at_builtin; refine Kd.R_append (Kd.int .u8) (w0 := w) w.heap.size rfl (.tmp 13) (.tmp 18) 171 5 (.int .u8 0) 1 rfl Try.underlying171 info5 rfl (by decide) (by omega) u5 x5_1 ((ji7) % 256) [.int .u8 ((ji7) % 256)] (fun _ => True) (fun _ => False) rfl rfl ?aP (fun _ hk => hk.elim) ?aF ?aO ?aB ?aS ?aL ?_; (case aP => exact rfl); (case aB => exact (by repeat with_reducible first | exact HB.out | apply below_alloc | apply pw_below_drewN | apply below_drew1)); (case aF => exact (fun _ _ => trivial)); (case aO => exact (by (with_reducible repeat (first | apply Kd.R_alloc | apply Kd.R_drewN | apply Kd.R_drew)); exact HO_5.out)); (case aS => exact (below_size (by repeat with_reducible first | exact HB.out | apply below_alloc | apply pw_below_drewN | apply below_drew1))); (case aL => have := LMc8.out; omega); intro v1005 w9 ho hb hg hat; rw [← Ny1004.out] at ho; have n0_ := Aside0.mk (hb); have n1_ := Aside0.mk (ho); clear HB; clear HO_5; have HB := n0_; have HO1006 := n1_; clear n0_ n1_; clear ho hb hg hat))
            go_roundg k1
            case measure => have := HK1.out; omega
            case rel => exact ⟨(y1004), (wrap64 (x6_1 - 8)), (by first | rfl | (simp; done) | (simp [*]; done)), H', ⟨by have := HK1.out; omega⟩, ⟨by (with_reducible repeat (first | apply Kd.R_alloc | apply Kd.R_drewN | apply Kd.R_drew)); exact HO1006.out⟩, ⟨by repeat (first | (with_reducible first | exact HB.out | apply below_alloc | apply pw_below_drewN | apply below_drew1) | exact HB.out)⟩⟩
          · rw [if_neg c8] at H
            exact absurd H (by simp)
        · rw [if_neg c6] at H
          exact absurd H (by simp)
      · rw [if_neg c5] at H
        have c5b0 : decide (0 ≤ x6_1) = false := decide_eq_false c5
        clear c5
        obtain rfl := Option.some.inj H
        have hcv10 := own_string (P := Try.prog) Try.underlying171 Try.underlying5 Try.underlying48 (Kd.own_of_R HO_5.out)
        go_wp2
        go_ret
        exact ⟨by first | rfl | (simp [errW_none, errW_some] <;> rfl) | (simp [*, errW_none, errW_some] <;> rfl), by repeat (first | (with_reducible first | exact HB.out | apply below_alloc | apply pw_below_drewN | apply below_drew1) | exact HB.out)⟩

/-- A number's eight bytes, the highest one first. -/
def eightL (n : Int) : List Int := [(shr .u64 n 56) % 256, (shr .u64 n 48) % 256, (shr .u64 n 40) % 256, (shr .u64 n 32) % 256, (shr .u64 n 24) % 256, (shr .u64 n 16) % 256, (shr .u64 n 8) % 256, (shr .u64 n 0) % 256]
def countF (c n : Int) : ByteArray := strOfNums (c :: eightL n)
theorem countF_size (c n : Int) : (countF c n).size = 9 := rfl
def term_counted.f (c n : Int) : Option ByteArray := some (countF c n)
theorem term_counted.eq (c n : Int) : term_counted_p.f 10 c n = term_counted.f c n := by
  simp [term_counted_p.f, term_counted_p.l0, term_counted.f, countF, eightL, wrap64]
theorem term_counted.calls (a0 : Int) (a1 : Int) (r : ByteArray) (w : World) (h : term_counted.f a0 a1 = some r) :
    Calls Try.prog 121 #[.int .u8 a0, .int .u64 a1] w fun e w' => e = .returned (.string r) ∧ Below w.heap.size w w' :=
  term_counted_p.calls 10 a0 a1 r w ((term_counted.eq a0 a1).trans h)

end Go.Proofs.Ytppimpadfgldjaa.F
namespace Go.Proofs.Ytppimpadfgldjaa.F
open Go.RowKit Go.Proofs.YtppimpadfgldjaaW.PrintWords Go.Proofs.YtppimpadfgldjaaW.PrintLast Go.Proofs.YtppimpadfgldjaaW.PrintMore
attribute [local go_sem] max2_int min2_int max_two min_two max_three min_three max_four min_four
set_option linter.unusedVariables false
set_option linter.unusedSimpArgs false

/-! ### term_Name: function 80 -/
/-! #### term_Name_p: function 80 -/
def term_Name_p.f (a0 : Int) : Option (ByteArray) := (term_counted.f 110 a0).bind fun t1001 => (some t1001)
set_option maxHeartbeats 8000000 in
set_option maxRecDepth 100000 in
theorem term_Name_p.calls (a0 : Int) (r : ByteArray) (w : World) (h : term_Name_p.f a0 = some r) :
    Calls Try.prog 80 #[.int .u64 a0] w fun e w' => e = .returned (.string r) ∧ Below w.heap.size w w' := by
  have HB := Aside0.mk (Below.refl w.heap.size w)
  have H : ((term_counted.f 110 a0).bind fun t1001 => (some t1001)) = some r := h
  clear h
  replace H := Option.bind_eq_some_iff.mp H
  obtain ⟨t1001, A20, H⟩ := H
  replace H : (some t1001) = some r := H
  have A2 := Aside0.mk A20
  clear A20
  obtain rfl := Option.some.inj H
  go_enter Try.func80, Try.ntmps80
  go_wp2_with (first | ((with_reducible refine gate_callee (f := 121) rfl ?_); refine goesL_ (some 4) rfl rfl Try.func121 (by kernel_rfl) rfl #[.int .u8 110, .int .u64 a0] rfl (by simp only [List.map_toArray, List.map_cons, List.map_nil] <;> rfl) ?_; (with_reducible refine (term_counted.calls 110 a0 t1001 _ A2.out).mono ?_); rintro e w3 ⟨rfl, hb⟩; refine ⟨_, rfl, ?_⟩; have n0_ := Aside0.mk (below_step (by repeat with_reducible first | exact HB.out | apply below_alloc | apply pw_below_drewN | apply below_drew1) hb); clear HB; have HB := n0_; clear n0_; (try clear hb)))
  go_ret
  exact ⟨by first | rfl | (simp [errW_none, errW_some] <;> rfl) | (simp [*, errW_none, errW_some] <;> rfl), by repeat (first | (with_reducible first | exact HB.out | apply below_alloc | apply pw_below_drewN | apply below_drew1) | exact HB.out)⟩

def nameF (n : Int) : ByteArray := countF 110 n
def term_Name.f (n : Int) : Option ByteArray := some (nameF n)
theorem term_Name.calls (a0 : Int) (r : ByteArray) (w : World) (h : term_Name.f a0 = some r) :
    Calls Try.prog 80 #[.int .u64 a0] w fun e w' => e = .returned (.string r) ∧ Below w.heap.size w w' :=
  term_Name_p.calls a0 r w h

end Go.Proofs.Ytppimpadfgldjaa.F
namespace Go.Proofs.Ytppimpadfgldjaa.F
open Go.RowKit Go.Proofs.YtppimpadfgldjaaW.PrintWords Go.Proofs.YtppimpadfgldjaaW.PrintLast Go.Proofs.YtppimpadfgldjaaW.PrintMore
attribute [local go_sem] max2_int min2_int max_two min_two max_three min_three max_four min_four
set_option linter.unusedVariables false
set_option linter.unusedSimpArgs false

/-! ### term_Number: function 68 -/
/-! #### term_Number_p: function 68 -/
def term_Number_p.f (a0 : Int) : Option (ByteArray) := (term_counted.f 117 a0).bind fun t1001 => (some t1001)
set_option maxHeartbeats 8000000 in
set_option maxRecDepth 100000 in
theorem term_Number_p.calls (a0 : Int) (r : ByteArray) (w : World) (h : term_Number_p.f a0 = some r) :
    Calls Try.prog 68 #[.int .u64 a0] w fun e w' => e = .returned (.string r) ∧ Below w.heap.size w w' := by
  have HB := Aside0.mk (Below.refl w.heap.size w)
  have H : ((term_counted.f 117 a0).bind fun t1001 => (some t1001)) = some r := h
  clear h
  replace H := Option.bind_eq_some_iff.mp H
  obtain ⟨t1001, A20, H⟩ := H
  replace H : (some t1001) = some r := H
  have A2 := Aside0.mk A20
  clear A20
  obtain rfl := Option.some.inj H
  go_enter Try.func68, Try.ntmps68
  go_wp2_with (first | ((with_reducible refine gate_callee (f := 121) rfl ?_); refine goesL_ (some 4) rfl rfl Try.func121 (by kernel_rfl) rfl #[.int .u8 117, .int .u64 a0] rfl (by simp only [List.map_toArray, List.map_cons, List.map_nil] <;> rfl) ?_; (with_reducible refine (term_counted.calls 117 a0 t1001 _ A2.out).mono ?_); rintro e w3 ⟨rfl, hb⟩; refine ⟨_, rfl, ?_⟩; have n0_ := Aside0.mk (below_step (by repeat with_reducible first | exact HB.out | apply below_alloc | apply pw_below_drewN | apply below_drew1) hb); clear HB; have HB := n0_; clear n0_; (try clear hb)))
  go_ret
  exact ⟨by first | rfl | (simp [errW_none, errW_some] <;> rfl) | (simp [*, errW_none, errW_some] <;> rfl), by repeat (first | (with_reducible first | exact HB.out | apply below_alloc | apply pw_below_drewN | apply below_drew1) | exact HB.out)⟩

def numF (n : Int) : ByteArray := countF 117 n
theorem numF_size (n : Int) : (numF n).size = 9 := rfl
def term_Number.f (n : Int) : Option ByteArray := some (numF n)
theorem term_Number.calls (a0 : Int) (r : ByteArray) (w : World) (h : term_Number.f a0 = some r) :
    Calls Try.prog 68 #[.int .u64 a0] w fun e w' => e = .returned (.string r) ∧ Below w.heap.size w w' :=
  term_Number_p.calls a0 r w h

end Go.Proofs.Ytppimpadfgldjaa.F
namespace Go.Proofs.Ytppimpadfgldjaa.F
open Go.RowKit Go.Proofs.YtppimpadfgldjaaW.PrintWords Go.Proofs.YtppimpadfgldjaaW.PrintLast Go.Proofs.YtppimpadfgldjaaW.PrintMore
attribute [local go_sem] max2_int min2_int max_two min_two max_three min_three max_four min_four
set_option linter.unusedVariables false
set_option linter.unusedSimpArgs false

/-! ### term_Text: function 141 -/
/-! #### term_Text_p: function 141 -/
def term_Text_p.f (a0 : ByteArray) : Option (ByteArray × Int) := if (a0.size : Int) > 100 then (some ((⟨#[]⟩ : ByteArray), 3)) else ((some (([116, 0, ((a0.size : Int)) % 256] : List Int) : List Int)).bind fun y1001 => (if (strOfNums y1001).size + a0.size ≤ 9223372036854775807 then (some ((strOfNums y1001) ++ a0, 0)) else (none)))
set_option maxHeartbeats 8000000 in
set_option maxRecDepth 100000 in
theorem term_Text_p.calls (a0 : ByteArray) (r1 : ByteArray) (r2 : Int) (w : World) (h : term_Text_p.f a0 = some (r1, r2)) :
    Calls Try.prog 141 #[.string a0] w fun e w' => e = .returned (.tuple #[.string r1, .int .i64 r2]) ∧ Below w.heap.size w w' := by
  have HB := Aside0.mk (Below.refl w.heap.size w)
  have H : (if (a0.size : Int) > 100 then (some ((⟨#[]⟩ : ByteArray), 3)) else ((some (([116, 0, ((a0.size : Int)) % 256] : List Int) : List Int)).bind fun y1001 => (if (strOfNums y1001).size + a0.size ≤ 9223372036854775807 then (some ((strOfNums y1001) ++ a0, 0)) else (none)))) = some (r1, r2) := h
  clear h
  by_cases c2 : (a0.size : Int) > 100
  · rw [if_pos c2] at H
    have c2b0 : decide (100 < (a0.size : Int)) = true := decide_eq_true c2
    have c2b1 : decide (100 < a0.size) = true := decide_eq_true (by omega)
    clear c2
    simp only [Option.some.injEq, Prod.mk.injEq] at H
    obtain ⟨rfl, rfl⟩ := H
    go_enter Try.func141, Try.ntmps141
    go_wp2
    go_ret2
    exact ⟨by first | rfl | (simp [errW_none, errW_some] <;> rfl) | (simp [*, errW_none, errW_some] <;> rfl), by repeat (first | (with_reducible first | exact HB.out | apply below_alloc | apply pw_below_drewN | apply below_drew1) | exact HB.out)⟩
  · rw [if_neg c2] at H
    have c2b0 : decide (100 < (a0.size : Int)) = false := decide_eq_false c2
    have c2b1 : decide (100 < a0.size) = false := decide_eq_false (by omega)
    clear c2
    obtain ⟨y1001, hy1001⟩ : ∃ y_ : List Int, y_ = (([116, 0, ((a0.size : Int)) % 256] : List Int)) := ⟨_, rfl⟩
    replace H : (if (strOfNums y1001).size + a0.size ≤ 9223372036854775807 then (some ((strOfNums y1001) ++ a0, 0)) else (none)) = some (r1, r2) := by first | (rw [hy1001]; with_reducible exact H) | (have H2_ := (Option.bind_some _ _).symm.trans H; rw [hy1001]; with_reducible exact H2_) | (have H2_ := (Option.bind_some _ _).symm.trans H; with_reducible exact H2_) | with_reducible exact H | (rw [hy1001]; exact H) | exact H
    have Ny1001 := Aside0.mk hy1001
    clear hy1001
    by_cases c3 : (strOfNums y1001).size + a0.size ≤ 9223372036854775807
    · rw [if_pos c3] at H
      have c3b0 := eq_true c3
      have c3b1 : decide ((strOfNums y1001).size + a0.size ≤ 9223372036854775807) = true := decide_eq_true c3
      try have c3b2 : (9223372036854775807 < (strOfNums y1001).size + a0.size) = False := eq_false (Nat.not_lt.2 c3)
      simp only [Option.some.injEq, Prod.mk.injEq] at H
      obtain ⟨rfl, rfl⟩ := H
      go_enter Try.func141, Try.ntmps141
      go_wp2_with (first | ((with_reducible refine gate_dst (N := 10) rfl ?_); refine Kd.R_lit (Kd.int .u8) _ 5 ?hg (N := 10) ?hd (xs := ([116, 0, ((a0.size : Int)) % 256] : List Int)) (inner := [.int .u8 116, .int .u8 0, .int .u8 (((a0.size : Int)) % 256)]) (ok := fun _ => True) (okp := fun _ => True) ?hr ?hp (fun _ hk => hk) trivial (Below.refl _ _) (Nat.le_refl _) (by simp) ?_; (case hd => rfl); (case hg => rfl); (case hr => first | (go_simp; done) | (go_simp; rfl)); (case hp => exact (Reps.one (show Kd.M (Kd.int .u8) _ _ _ 116 [.int .u8 116] from rfl) (Reps.one (show Kd.M (Kd.int .u8) _ _ _ 0 [.int .u8 0] from rfl) (Reps.one (show Kd.M (Kd.int .u8) _ _ _ (((a0.size : Int)) % 256) [.int .u8 (((a0.size : Int)) % 256)] from rfl) (Reps.none _ _))))); intro v1002 w4 ho5 hb hg_ hnew_; clear hg_ hnew_; (first | rw [← Ny1001.out] at ho5 | (simp only [Int.reduceToNat] at ho5; rw [← Ny1001.out] at ho5)); have n0_ := Aside0.mk (Kd.R_lower ho5 (below_size (by repeat with_reducible first | exact HB.out | apply below_alloc | apply pw_below_drewN | apply below_drew1))); have n1_ := Aside0.mk (below_step (by repeat with_reducible first | exact HB.out | apply below_alloc | apply pw_below_drewN | apply below_drew1) hb); clear HB; have HO1003 := n0_; have HB := n1_; clear n0_ n1_; clear hb ho5; have hcv6 := own_string (P := Try.prog) Try.underlying171 Try.underlying5 Try.underlying48 (Kd.own_of_R HO1003.out)))
      go_ret2
      exact ⟨by first | rfl | (simp [errW_none, errW_some] <;> rfl) | (simp [*, errW_none, errW_some] <;> rfl), by repeat (first | (with_reducible first | exact HB.out | apply below_alloc | apply pw_below_drewN | apply below_drew1) | exact HB.out)⟩
    · rw [if_neg c3] at H
      exact absurd H (by simp)

def textF (s : ByteArray) : ByteArray × Int := if 100 < s.size then (⟨#[]⟩, 3) else (strOfNums [116, 0, s.size] ++ s, 0)
def term_Text.f (s : ByteArray) : Option (ByteArray × Int) := some (textF s)
theorem term_Text.eq (s : ByteArray) : term_Text_p.f s = term_Text.f s := by
  unfold term_Text_p.f term_Text.f textF
  by_cases c : 100 < s.size
  · rw [if_pos c, if_pos (by omega)]
  · rw [if_neg c, if_neg (by omega), show ((s.size : Int)) % 256 = s.size by omega]
    simp only [Option.bind_some]
    rw [if_pos (by show 3 + _ ≤ _; omega)]
theorem term_Text.calls (a0 : ByteArray) (r1 : ByteArray) (r2 : Int) (w : World) (h : term_Text.f a0 = some (r1, r2)) :
    Calls Try.prog 141 #[.string a0] w fun e w' => e = .returned (.tuple #[.string r1, .int .i64 r2]) ∧ Below w.heap.size w w' :=
  term_Text_p.calls a0 r1 r2 w ((term_Text.eq a0).trans h)

end Go.Proofs.Ytppimpadfgldjaa.F
namespace Go.Proofs.Ytppimpadfgldjaa.F
open Go.RowKit Go.Proofs.YtppimpadfgldjaaW.PrintWords Go.Proofs.YtppimpadfgldjaaW.PrintLast Go.Proofs.YtppimpadfgldjaaW.PrintMore
attribute [local go_sem] max2_int min2_int max_two min_two max_three min_three max_four min_four
set_option linter.unusedVariables false
set_option linter.unusedSimpArgs false

/-! ### term_Private: function 54 -/
/-! #### term_Private_p: function 54 -/
def term_Private_p.f (a0 : Int) : Option (ByteArray × Int) := if a0 < 1 then (some ((⟨#[]⟩ : ByteArray), 1)) else (if a0 > 8 then (some ((⟨#[]⟩ : ByteArray), 1)) else (some (strOfNums (([105, (a0) % 256] : List Int)), 0)))
set_option maxHeartbeats 8000000 in
set_option maxRecDepth 100000 in
theorem term_Private_p.calls (a0 : Int) (r1 : ByteArray) (r2 : Int) (w : World) (h : term_Private_p.f a0 = some (r1, r2)) :
    Calls Try.prog 54 #[.int .i64 a0] w fun e w' => e = .returned (.tuple #[.string r1, .int .i64 r2]) ∧ Below w.heap.size w w' := by
  have HB := Aside0.mk (Below.refl w.heap.size w)
  have H : (if a0 < 1 then (some ((⟨#[]⟩ : ByteArray), 1)) else (if a0 > 8 then (some ((⟨#[]⟩ : ByteArray), 1)) else (some (strOfNums (([105, (a0) % 256] : List Int)), 0)))) = some (r1, r2) := h
  clear h
  by_cases c2 : a0 < 1
  · rw [if_pos c2] at H
    have c2b0 : decide (a0 < 1) = true := decide_eq_true c2
    clear c2
    simp only [Option.some.injEq, Prod.mk.injEq] at H
    obtain ⟨rfl, rfl⟩ := H
    go_enter Try.func54, Try.ntmps54
    go_wp2
    go_ret2
    exact ⟨by first | rfl | (simp [errW_none, errW_some] <;> rfl) | (simp [*, errW_none, errW_some] <;> rfl), by repeat (first | (with_reducible first | exact HB.out | apply below_alloc | apply pw_below_drewN | apply below_drew1) | exact HB.out)⟩
  · rw [if_neg c2] at H
    have c2b0 : decide (a0 < 1) = false := decide_eq_false c2
    clear c2
    by_cases c3 : a0 > 8
    · rw [if_pos c3] at H
      have c3b0 : decide (8 < a0) = true := decide_eq_true c3
      clear c3
      simp only [Option.some.injEq, Prod.mk.injEq] at H
      obtain ⟨rfl, rfl⟩ := H
      go_enter Try.func54, Try.ntmps54
      go_wp2
      go_ret2
      exact ⟨by first | rfl | (simp [errW_none, errW_some] <;> rfl) | (simp [*, errW_none, errW_some] <;> rfl), by repeat (first | (with_reducible first | exact HB.out | apply below_alloc | apply pw_below_drewN | apply below_drew1) | exact HB.out)⟩
    · rw [if_neg c3] at H
      have c3b0 : decide (8 < a0) = false := decide_eq_false c3
      clear c3
      obtain ⟨y1001, hy1001⟩ : ∃ y_ : List Int, y_ = (([105, (a0) % 256] : List Int)) := ⟨_, rfl⟩
      replace H : (some (strOfNums y1001, 0)) = some (r1, r2) := by first | (rw [hy1001]; with_reducible exact H) | (have H2_ := (Option.bind_some _ _).symm.trans H; rw [hy1001]; with_reducible exact H2_) | (have H2_ := (Option.bind_some _ _).symm.trans H; with_reducible exact H2_) | with_reducible exact H | (rw [hy1001]; exact H) | exact H
      have Ny1001 := Aside0.mk hy1001
      clear hy1001
      simp only [Option.some.injEq, Prod.mk.injEq] at H
      obtain ⟨rfl, rfl⟩ := H
      go_enter Try.func54, Try.ntmps54
      go_wp2_with (first | ((with_reducible refine gate_dst (N := 12) rfl ?_); refine Kd.R_lit (Kd.int .u8) _ 5 ?hg (N := 12) ?hd (xs := ([105, (a0) % 256] : List Int)) (inner := [.int .u8 105, .int .u8 ((a0) % 256)]) (ok := fun _ => True) (okp := fun _ => True) ?hr ?hp (fun _ hk => hk) trivial (Below.refl _ _) (Nat.le_refl _) (by simp) ?_; (case hd => rfl); (case hg => rfl); (case hr => first | (go_simp; done) | (go_simp; rfl)); (case hp => exact (Reps.one (show Kd.M (Kd.int .u8) _ _ _ 105 [.int .u8 105] from rfl) (Reps.one (show Kd.M (Kd.int .u8) _ _ _ ((a0) % 256) [.int .u8 ((a0) % 256)] from rfl) (Reps.none _ _)))); intro v1002 w4 ho5 hb hg_ hnew_; clear hg_ hnew_; (first | rw [← Ny1001.out] at ho5 | (simp only [Int.reduceToNat] at ho5; rw [← Ny1001.out] at ho5)); have n0_ := Aside0.mk (Kd.R_lower ho5 (below_size (by repeat with_reducible first | exact HB.out | apply below_alloc | apply pw_below_drewN | apply below_drew1))); have n1_ := Aside0.mk (below_step (by repeat with_reducible first | exact HB.out | apply below_alloc | apply pw_below_drewN | apply below_drew1) hb); clear HB; have HO1003 := n0_; have HB := n1_; clear n0_ n1_; clear hb ho5; have hcv6 := own_string (P := Try.prog) Try.underlying171 Try.underlying5 Try.underlying48 (Kd.own_of_R HO1003.out)))
      go_ret2
      exact ⟨by first | rfl | (simp [errW_none, errW_some] <;> rfl) | (simp [*, errW_none, errW_some] <;> rfl), by repeat (first | (with_reducible first | exact HB.out | apply below_alloc | apply pw_below_drewN | apply below_drew1) | exact HB.out)⟩

def privF (p : Int) : ByteArray × Int := if 1 ≤ p ∧ p ≤ 8 then (strOfNums [105, p], 0) else (⟨#[]⟩, 1)
def term_Private.f (p : Int) : Option (ByteArray × Int) := some (privF p)
theorem term_Private.eq (p : Int) : term_Private_p.f p = term_Private.f p := by
  unfold term_Private_p.f term_Private.f privF
  by_cases c : p < 1
  · rw [if_pos c, if_neg (by omega)]
  · rw [if_neg c]
    by_cases d : p > 8
    · rw [if_pos d, if_neg (by omega)]
    · rw [if_neg d, if_pos (by omega), show p % 256 = p by omega]
theorem term_Private.calls (a0 : Int) (r1 : ByteArray) (r2 : Int) (w : World) (h : term_Private.f a0 = some (r1, r2)) :
    Calls Try.prog 54 #[.int .i64 a0] w fun e w' => e = .returned (.tuple #[.string r1, .int .i64 r2]) ∧ Below w.heap.size w w' :=
  term_Private_p.calls a0 r1 r2 w ((term_Private.eq a0).trans h)

end Go.Proofs.Ytppimpadfgldjaa.F
namespace Go.Proofs.Ytppimpadfgldjaa.F
open Go.RowKit Go.Proofs.YtppimpadfgldjaaW.PrintWords Go.Proofs.YtppimpadfgldjaaW.PrintLast Go.Proofs.YtppimpadfgldjaaW.PrintMore
attribute [local go_sem] max2_int min2_int max_two min_two max_three min_three max_four min_four
set_option linter.unusedVariables false
set_option linter.unusedSimpArgs false

/-! ### term_Gen: function 79 -/
def term_Gen.f  : Option (ByteArray) := some (⟨#[103]⟩ : ByteArray)
set_option maxHeartbeats 8000000 in
set_option maxRecDepth 100000 in
theorem term_Gen.calls  (r : ByteArray) (w : World) (h : term_Gen.f  = some r) :
    Calls Try.prog 79 #[] w fun e w' => e = .returned (.string r) ∧ Drawn0 w w' := by
  have H : (some (⟨#[103]⟩ : ByteArray)) = some r := h
  clear h
  obtain rfl := Option.some.inj H
  go_enter Try.func79, Try.ntmps79
  go_wp2
  go_ret
  exact ⟨by first | rfl | (simp; done) | (simp [*]; done), by repeat (first | exact Drawn0.refl _ | apply Drawn0.step)⟩

end Go.Proofs.Ytppimpadfgldjaa.F
namespace Go.Proofs.Ytppimpadfgldjaa.F
open Go.RowKit Go.Proofs.YtppimpadfgldjaaW.PrintWords Go.Proofs.YtppimpadfgldjaaW.PrintLast Go.Proofs.YtppimpadfgldjaaW.PrintMore
attribute [local go_sem] max2_int min2_int max_two min_two max_three min_three max_four min_four
set_option linter.unusedVariables false
set_option linter.unusedSimpArgs false

/-! ### term_leaf: function 163 -/
set_option maxHeartbeats 400000 in
set_option maxRecDepth 10000 in
theorem term_leaf.c1 (s : ByteArray) (w : World) (h1 : 0 < s.size) (h2 : s.size < 9223372036854775808) (hc : bt s 0 = 103) :
    Calls Try.prog 163 #[.string s] w fun e w' => e = .returned (.int .i64 (1)) ∧ Drawn0 w w' := by
  have hx : ∀ h : 0 < s.size, ((s[0]'h).toNat : Int) = bt s 0 := fun h => bt_at s 0 h
  rw [hc] at hx
  have hm1 : decide (s.size < 1) = false := decide_eq_false (by omega)
  have hd1 : decide ((s.size : Int) < 1) = false := decide_eq_false (by omega)
  go_enter Try.func163, Try.ntmps163
  go_wp2; go_ret
  exact ⟨rfl, by repeat (first | exact Drawn0.refl _ | apply Drawn0.step)⟩
set_option maxHeartbeats 400000 in
set_option maxRecDepth 10000 in
theorem term_leaf.c2 (s : ByteArray) (w : World) (h1 : 0 < s.size) (h2 : s.size < 9223372036854775808) (hc : bt s 0 = 110) (hs : 9 ≤ s.size) :
    Calls Try.prog 163 #[.string s] w fun e w' => e = .returned (.int .i64 (9)) ∧ Drawn0 w w' := by
  have hx : ∀ h : 0 < s.size, ((s[0]'h).toNat : Int) = bt s 0 := fun h => bt_at s 0 h
  rw [hc] at hx
  have hm9 : decide (s.size < 9) = false := decide_eq_false (by omega)
  have hd9 : decide ((s.size : Int) < 9) = false := decide_eq_false (by omega)
  go_enter Try.func163, Try.ntmps163
  go_wp2; go_ret
  exact ⟨rfl, by repeat (first | exact Drawn0.refl _ | apply Drawn0.step)⟩
set_option maxHeartbeats 400000 in
set_option maxRecDepth 10000 in
theorem term_leaf.c3 (s : ByteArray) (w : World) (h1 : 0 < s.size) (h2 : s.size < 9223372036854775808) (hc : bt s 0 = 110) (hs : s.size < 9) :
    Calls Try.prog 163 #[.string s] w fun e w' => e = .returned (.int .i64 (0)) ∧ Drawn0 w w' := by
  have hx : ∀ h : 0 < s.size, ((s[0]'h).toNat : Int) = bt s 0 := fun h => bt_at s 0 h
  rw [hc] at hx
  have hm9 : decide (s.size < 9) = true := decide_eq_true (by omega)
  have hd9 : decide ((s.size : Int) < 9) = true := decide_eq_true (by omega)
  go_enter Try.func163, Try.ntmps163
  go_wp2; go_ret
  exact ⟨rfl, by repeat (first | exact Drawn0.refl _ | apply Drawn0.step)⟩
set_option maxHeartbeats 400000 in
set_option maxRecDepth 10000 in
theorem term_leaf.c4 (s : ByteArray) (w : World) (h1 : 0 < s.size) (h2 : s.size < 9223372036854775808) (hc : bt s 0 = 117) (hs : 9 ≤ s.size) :
    Calls Try.prog 163 #[.string s] w fun e w' => e = .returned (.int .i64 (9)) ∧ Drawn0 w w' := by
  have hx : ∀ h : 0 < s.size, ((s[0]'h).toNat : Int) = bt s 0 := fun h => bt_at s 0 h
  rw [hc] at hx
  have hm9 : decide (s.size < 9) = false := decide_eq_false (by omega)
  have hd9 : decide ((s.size : Int) < 9) = false := decide_eq_false (by omega)
  go_enter Try.func163, Try.ntmps163
  go_wp2; go_ret
  exact ⟨rfl, by repeat (first | exact Drawn0.refl _ | apply Drawn0.step)⟩
set_option maxHeartbeats 400000 in
set_option maxRecDepth 10000 in
theorem term_leaf.c5 (s : ByteArray) (w : World) (h1 : 0 < s.size) (h2 : s.size < 9223372036854775808) (hc : bt s 0 = 117) (hs : s.size < 9) :
    Calls Try.prog 163 #[.string s] w fun e w' => e = .returned (.int .i64 (0)) ∧ Drawn0 w w' := by
  have hx : ∀ h : 0 < s.size, ((s[0]'h).toNat : Int) = bt s 0 := fun h => bt_at s 0 h
  rw [hc] at hx
  have hm9 : decide (s.size < 9) = true := decide_eq_true (by omega)
  have hd9 : decide ((s.size : Int) < 9) = true := decide_eq_true (by omega)
  go_enter Try.func163, Try.ntmps163
  go_wp2; go_ret
  exact ⟨rfl, by repeat (first | exact Drawn0.refl _ | apply Drawn0.step)⟩
set_option maxHeartbeats 400000 in
set_option maxRecDepth 10000 in
theorem term_leaf.c6 (s : ByteArray) (w : World) (h1 : 0 < s.size) (h2 : s.size < 9223372036854775808) (hc : bt s 0 = 105) (hs : s.size = 1) :
    Calls Try.prog 163 #[.string s] w fun e w' => e = .returned (.int .i64 (0)) ∧ Drawn0 w w' := by
  have hx : ∀ h : 0 < s.size, ((s[0]'h).toNat : Int) = bt s 0 := fun h => bt_at s 0 h
  rw [hc] at hx
  have hg1 : decide (1 < (s.size : Int)) = false := decide_eq_false (by omega)
  have hn1 : decide (1 < s.size) = false := decide_eq_false (by omega)
  have hz : decide ((s.size : Int) < 0) = false := decide_eq_false (by omega)
  clear hs; go_enter Try.func163, Try.ntmps163
  go_wp2; go_ret
  exact ⟨rfl, by repeat (first | exact Drawn0.refl _ | apply Drawn0.step)⟩
set_option maxHeartbeats 400000 in
set_option maxRecDepth 10000 in
theorem term_leaf.c7 (s : ByteArray) (w : World) (h1 : 0 < s.size) (h2 : s.size < 9223372036854775808) (hc : bt s 0 = 105) (hs : 1 < s.size) (hl : bt s 1 < 1) :
    Calls Try.prog 163 #[.string s] w fun e w' => e = .returned (.int .i64 (0)) ∧ Drawn0 w w' := by
  have hx : ∀ h : 0 < s.size, ((s[0]'h).toNat : Int) = bt s 0 := fun h => bt_at s 0 h
  rw [hc] at hx
  have hg1 : decide (1 < (s.size : Int)) = true := decide_eq_true (by omega)
  have hn1 : decide (1 < s.size) = true := decide_eq_true (by omega)
  have hx1 : ∀ h : 1 < s.size, ((s[1]'h).toNat : Int) = bt s 1 := fun h => bt_at s 1 h
  have hr1 := bt_range s 1; have hq : decide (1 ≤ bt s 1) = false := decide_eq_false (by omega)
  have hz : decide ((s.size : Int) < 0) = false := decide_eq_false (by omega)
  go_enter Try.func163, Try.ntmps163
  go_wp2; go_ret
  exact ⟨rfl, by repeat (first | exact Drawn0.refl _ | apply Drawn0.step)⟩
set_option maxHeartbeats 400000 in
set_option maxRecDepth 10000 in
theorem term_leaf.c8 (s : ByteArray) (w : World) (h1 : 0 < s.size) (h2 : s.size < 9223372036854775808) (hc : bt s 0 = 105) (hs : 1 < s.size) (hl : ¬ bt s 1 < 1) (hg : 8 < bt s 1) :
    Calls Try.prog 163 #[.string s] w fun e w' => e = .returned (.int .i64 (0)) ∧ Drawn0 w w' := by
  have hx : ∀ h : 0 < s.size, ((s[0]'h).toNat : Int) = bt s 0 := fun h => bt_at s 0 h
  rw [hc] at hx
  have hg1 : decide (1 < (s.size : Int)) = true := decide_eq_true (by omega)
  have hn1 : decide (1 < s.size) = true := decide_eq_true (by omega)
  have hx1 : ∀ h : 1 < s.size, ((s[1]'h).toNat : Int) = bt s 1 := fun h => bt_at s 1 h
  have hr1 := bt_range s 1; have hq : decide (1 ≤ bt s 1) = true := decide_eq_true (by omega)
  have hq2 : decide (bt s 1 ≤ 8) = false := decide_eq_false (by omega)
  have hz : decide ((s.size : Int) < 0) = false := decide_eq_false (by omega)
  go_enter Try.func163, Try.ntmps163
  go_wp2; go_ret
  exact ⟨rfl, by repeat (first | exact Drawn0.refl _ | apply Drawn0.step)⟩
set_option maxHeartbeats 400000 in
set_option maxRecDepth 10000 in
theorem term_leaf.c9 (s : ByteArray) (w : World) (h1 : 0 < s.size) (h2 : s.size < 9223372036854775808) (hc : bt s 0 = 105) (hs : 1 < s.size) (hl : ¬ bt s 1 < 1) (hg : ¬ 8 < bt s 1) :
    Calls Try.prog 163 #[.string s] w fun e w' => e = .returned (.int .i64 (2)) ∧ Drawn0 w w' := by
  have hx : ∀ h : 0 < s.size, ((s[0]'h).toNat : Int) = bt s 0 := fun h => bt_at s 0 h
  rw [hc] at hx
  have hg1 : decide (1 < (s.size : Int)) = true := decide_eq_true (by omega)
  have hn1 : decide (1 < s.size) = true := decide_eq_true (by omega)
  have hx1 : ∀ h : 1 < s.size, ((s[1]'h).toNat : Int) = bt s 1 := fun h => bt_at s 1 h
  have hr1 := bt_range s 1; have hq : decide (1 ≤ bt s 1) = true := decide_eq_true (by omega)
  have hq2 : decide (bt s 1 ≤ 8) = true := decide_eq_true (by omega)
  have hm2 : decide (s.size < 2) = false := decide_eq_false (by omega)
  have hd2 : decide ((s.size : Int) < 2) = false := decide_eq_false (by omega)
  go_enter Try.func163, Try.ntmps163
  go_wp2; go_ret
  exact ⟨rfl, by repeat (first | exact Drawn0.refl _ | apply Drawn0.step)⟩
set_option maxHeartbeats 400000 in
set_option maxRecDepth 10000 in
theorem term_leaf.c10 (s : ByteArray) (w : World) (h1 : 0 < s.size) (h2 : s.size < 9223372036854775808) (hc : bt s 0 = 116) (hs : s.size < 3) :
    Calls Try.prog 163 #[.string s] w fun e w' => e = .returned (.int .i64 (0)) ∧ Drawn0 w w' := by
  have hx : ∀ h : 0 < s.size, ((s[0]'h).toNat : Int) = bt s 0 := fun h => bt_at s 0 h
  rw [hc] at hx
  have hg1 : decide (3 ≤ (s.size : Int)) = false := decide_eq_false (by omega)
  have hn1 : decide (3 ≤ s.size) = false := decide_eq_false (by omega)
  have hz : decide ((s.size : Int) < 0) = false := decide_eq_false (by omega)
  go_enter Try.func163, Try.ntmps163
  go_wp2; go_ret
  exact ⟨rfl, by repeat (first | exact Drawn0.refl _ | apply Drawn0.step)⟩
set_option maxHeartbeats 400000 in
set_option maxRecDepth 10000 in
theorem term_leaf.c11 (s : ByteArray) (w : World) (h1 : 0 < s.size) (h2 : s.size < 9223372036854775808) (hc : bt s 0 = 116) (hs : 3 ≤ s.size) (hl : bt s 1 ≠ 0) :
    Calls Try.prog 163 #[.string s] w fun e w' => e = .returned (.int .i64 (0)) ∧ Drawn0 w w' := by
  have hx : ∀ h : 0 < s.size, ((s[0]'h).toNat : Int) = bt s 0 := fun h => bt_at s 0 h
  rw [hc] at hx
  have hg1 : decide (3 ≤ (s.size : Int)) = true := decide_eq_true (by omega)
  have hn1 : decide (3 ≤ s.size) = true := decide_eq_true (by omega)
  have hx1 : ∀ h : 1 < s.size, ((s[1]'h).toNat : Int) = bt s 1 := fun h => bt_at s 1 h
  have hx2 : ∀ h : 2 < s.size, ((s[2]'h).toNat : Int) = bt s 2 := fun h => bt_at s 2 h
  have hl1 : 1 < s.size := by omega
  have hl2 : 2 < s.size := by omega
  have hr2 := bt_range s 2; have hq : (bt s 1 == 0) = false := beq_eq_false_iff_ne.mpr hl
  have hz : decide ((s.size : Int) < 0) = false := decide_eq_false (by omega)
  clear hl; go_enter Try.func163, Try.ntmps163
  go_wp2; go_ret
  exact ⟨rfl, by repeat (first | exact Drawn0.refl _ | apply Drawn0.step)⟩
set_option maxHeartbeats 400000 in
set_option maxRecDepth 10000 in
theorem term_leaf.c12 (s : ByteArray) (w : World) (h1 : 0 < s.size) (h2 : s.size < 9223372036854775808) (hc : bt s 0 = 116) (hs : 3 ≤ s.size) (hl : bt s 1 = 0) (hg : 100 < bt s 2) :
    Calls Try.prog 163 #[.string s] w fun e w' => e = .returned (.int .i64 (0)) ∧ Drawn0 w w' := by
  have hx : ∀ h : 0 < s.size, ((s[0]'h).toNat : Int) = bt s 0 := fun h => bt_at s 0 h
  rw [hc] at hx
  have hg1 : decide (3 ≤ (s.size : Int)) = true := decide_eq_true (by omega)
  have hn1 : decide (3 ≤ s.size) = true := decide_eq_true (by omega)
  have hx1 : ∀ h : 1 < s.size, ((s[1]'h).toNat : Int) = bt s 1 := fun h => bt_at s 1 h
  have hx2 : ∀ h : 2 < s.size, ((s[2]'h).toNat : Int) = bt s 2 := fun h => bt_at s 2 h
  have hl1 : 1 < s.size := by omega
  have hl2 : 2 < s.size := by omega
  have hr2 := bt_range s 2; rw [hl] at hx1
  have hq2 : decide (bt s 2 ≤ 100) = false := decide_eq_false (by omega)
  have hz : decide ((s.size : Int) < 0) = false := decide_eq_false (by omega)
  clear hl; go_enter Try.func163, Try.ntmps163
  go_wp2; go_ret
  exact ⟨rfl, by repeat (first | exact Drawn0.refl _ | apply Drawn0.step)⟩
set_option maxHeartbeats 400000 in
set_option maxRecDepth 10000 in
theorem term_leaf.c13 (s : ByteArray) (w : World) (h1 : 0 < s.size) (h2 : s.size < 9223372036854775808) (hc : bt s 0 = 116) (hs : 3 ≤ s.size) (hl : bt s 1 = 0) (hg : bt s 2 ≤ 100) (hf : 3 + bt s 2 ≤ s.size) :
    Calls Try.prog 163 #[.string s] w fun e w' => e = .returned (.int .i64 (3 + bt s 2)) ∧ Drawn0 w w' := by
  have hx : ∀ h : 0 < s.size, ((s[0]'h).toNat : Int) = bt s 0 := fun h => bt_at s 0 h
  rw [hc] at hx
  have hg1 : decide (3 ≤ (s.size : Int)) = true := decide_eq_true (by omega)
  have hn1 : decide (3 ≤ s.size) = true := decide_eq_true (by omega)
  have hx1 : ∀ h : 1 < s.size, ((s[1]'h).toNat : Int) = bt s 1 := fun h => bt_at s 1 h
  have hx2 : ∀ h : 2 < s.size, ((s[2]'h).toNat : Int) = bt s 2 := fun h => bt_at s 2 h
  have hl1 : 1 < s.size := by omega
  have hl2 : 2 < s.size := by omega
  have hr2 := bt_range s 2; rw [hl] at hx1
  have hq2 : decide (bt s 2 ≤ 100) = true := decide_eq_true (by omega)
  have hz : decide ((s.size : Int) < 3 + bt s 2) = false := decide_eq_false (by omega)
  clear hl; go_enter Try.func163, Try.ntmps163
  go_wp2; go_ret
  exact ⟨rfl, by repeat (first | exact Drawn0.refl _ | apply Drawn0.step)⟩
set_option maxHeartbeats 400000 in
set_option maxRecDepth 10000 in
theorem term_leaf.c14 (s : ByteArray) (w : World) (h1 : 0 < s.size) (h2 : s.size < 9223372036854775808) (hc : bt s 0 = 116) (hs : 3 ≤ s.size) (hl : bt s 1 = 0) (hg : bt s 2 ≤ 100) (hf : ¬ 3 + bt s 2 ≤ s.size) :
    Calls Try.prog 163 #[.string s] w fun e w' => e = .returned (.int .i64 (0)) ∧ Drawn0 w w' := by
  have hx : ∀ h : 0 < s.size, ((s[0]'h).toNat : Int) = bt s 0 := fun h => bt_at s 0 h
  rw [hc] at hx
  have hg1 : decide (3 ≤ (s.size : Int)) = true := decide_eq_true (by omega)
  have hn1 : decide (3 ≤ s.size) = true := decide_eq_true (by omega)
  have hx1 : ∀ h : 1 < s.size, ((s[1]'h).toNat : Int) = bt s 1 := fun h => bt_at s 1 h
  have hx2 : ∀ h : 2 < s.size, ((s[2]'h).toNat : Int) = bt s 2 := fun h => bt_at s 2 h
  have hl1 : 1 < s.size := by omega
  have hl2 : 2 < s.size := by omega
  have hr2 := bt_range s 2; rw [hl] at hx1
  have hq2 : decide (bt s 2 ≤ 100) = true := decide_eq_true (by omega)
  have hz : decide ((s.size : Int) < 3 + bt s 2) = true := decide_eq_true (by omega)
  clear hl; go_enter Try.func163, Try.ntmps163
  go_wp2; go_ret
  exact ⟨rfl, by repeat (first | exact Drawn0.refl _ | apply Drawn0.step)⟩
set_option maxHeartbeats 400000 in
set_option maxRecDepth 10000 in
theorem term_leaf.c15 (s : ByteArray) (w : World) (h1 : 0 < s.size) (h2 : s.size < 9223372036854775808) (n0 : bt s 0 ≠ 103) (n1 : bt s 0 ≠ 110) (n2 : bt s 0 ≠ 117) (n3 : bt s 0 ≠ 105) (n4 : bt s 0 ≠ 116) :
    Calls Try.prog 163 #[.string s] w fun e w' => e = .returned (.int .i64 (0)) ∧ Drawn0 w w' := by
  have hx : ∀ h : 0 < s.size, ((s[0]'h).toNat : Int) = bt s 0 := fun h => bt_at s 0 h
  have q0 : (bt s 0 == 103) = false := beq_eq_false_iff_ne.mpr n0
  have q1 : (bt s 0 == 110) = false := beq_eq_false_iff_ne.mpr n1
  have q2 : (bt s 0 == 117) = false := beq_eq_false_iff_ne.mpr n2
  have q3 : (bt s 0 == 105) = false := beq_eq_false_iff_ne.mpr n3
  have q4 : (bt s 0 == 116) = false := beq_eq_false_iff_ne.mpr n4
  have hz : decide ((s.size : Int) < 0) = false := decide_eq_false (by omega)
  clear n0 n1 n2 n3 n4; go_enter Try.func163, Try.ntmps163
  go_wp2; go_ret
  exact ⟨rfl, by repeat (first | exact Drawn0.refl _ | apply Drawn0.step)⟩
def leafF (s : ByteArray) : Int :=
  if bt s 0 = 103 then 1
  else if bt s 0 = 110 ∨ bt s 0 = 117 then (if 9 ≤ s.size then 9 else 0)
  else if bt s 0 = 105 then (if 1 < s.size ∧ 1 ≤ bt s 1 ∧ bt s 1 ≤ 8 then 2 else 0)
  else if bt s 0 = 116 then (if 3 ≤ s.size ∧ bt s 1 = 0 ∧ bt s 2 ≤ 100 ∧ 3 + bt s 2 ≤ s.size then 3 + bt s 2 else 0)
  else 0
def term_leaf.f (s : ByteArray) : Option Int := if 0 < s.size ∧ s.size < 9223372036854775808 then some (leafF s) else none
theorem term_leaf.calls (a0 : ByteArray) (r : Int) (w : World) (h : term_leaf.f a0 = some r) :
    Calls Try.prog 163 #[.string a0] w fun e w' => e = .returned (.int .i64 r) ∧ Drawn0 w w' := by
  unfold term_leaf.f at h
  split at h
  case isFalse => cases h
  rename_i hb
  obtain ⟨h1, h2⟩ := hb; obtain rfl := Option.some.inj h
  clear h; unfold leafF
  by_cases k1 : bt a0 0 = 103
  · rw [if_pos k1]; exact term_leaf.c1 a0 w h1 h2 k1
  rw [if_neg k1]
  by_cases k2 : bt a0 0 = 110
  · rw [if_pos (.inl k2)]
    split
    · exact term_leaf.c2 a0 w h1 h2 k2 ‹_›
    · exact term_leaf.c3 a0 w h1 h2 k2 (by omega)
  by_cases k3 : bt a0 0 = 117
  · rw [if_pos (.inr k3)]
    split
    · exact term_leaf.c4 a0 w h1 h2 k3 ‹_›
    · exact term_leaf.c5 a0 w h1 h2 k3 (by omega)
  rw [if_neg (by rintro (h | h) <;> contradiction)]
  by_cases k4 : bt a0 0 = 105
  · rw [if_pos k4]
    by_cases k5 : 1 < a0.size
    · by_cases k6 : bt a0 1 < 1
      · rw [if_neg (by omega)]; exact term_leaf.c7 a0 w h1 h2 k4 k5 k6
      · by_cases k7 : 8 < bt a0 1
        · rw [if_neg (by omega)]; exact term_leaf.c8 a0 w h1 h2 k4 k5 k6 k7
        · rw [if_pos (by omega)]; exact term_leaf.c9 a0 w h1 h2 k4 k5 k6 k7
    · rw [if_neg (fun h => k5 h.1)]; exact term_leaf.c6 a0 w h1 h2 k4 (by omega)
  rw [if_neg k4]
  by_cases k5 : bt a0 0 = 116
  · rw [if_pos k5]
    by_cases k6 : 3 ≤ a0.size
    · by_cases k7 : bt a0 1 = 0
      · by_cases k8 : bt a0 2 ≤ 100
        · by_cases k9 : 3 + bt a0 2 ≤ a0.size
          · rw [if_pos ⟨k6, k7, k8, k9⟩]; exact term_leaf.c13 a0 w h1 h2 k5 k6 k7 k8 k9
          · rw [if_neg (fun h => k9 h.2.2.2)]; exact term_leaf.c14 a0 w h1 h2 k5 k6 k7 k8 k9
        · rw [if_neg (fun h => k8 h.2.2.1)]; exact term_leaf.c12 a0 w h1 h2 k5 k6 k7 (by omega)
      · rw [if_neg (fun h => k7 h.2.1)]; exact term_leaf.c11 a0 w h1 h2 k5 k6 k7
    · rw [if_neg (fun h => k6 h.1)]; exact term_leaf.c10 a0 w h1 h2 k5 (by omega)
  rw [if_neg k5]
  exact term_leaf.c15 a0 w h1 h2 k1 k2 k3 k4 k5

end Go.Proofs.Ytppimpadfgldjaa.F
namespace Go.Proofs.Ytppimpadfgldjaa.F
open Go.RowKit Go.Proofs.YtppimpadfgldjaaW.PrintWords Go.Proofs.YtppimpadfgldjaaW.PrintLast Go.Proofs.YtppimpadfgldjaaW.PrintMore
attribute [local go_sem] max2_int min2_int max_two min_two max_three min_three max_four min_four
set_option linter.unusedVariables false
set_option linter.unusedSimpArgs false

/-! ### term_begin: function 164 -/
set_option maxHeartbeats 400000 in
set_option maxRecDepth 10000 in
theorem term_begin.c1 (s : ByteArray) (at_ : Int) (w : World) (h0 : 0 ≤ at_) (h1 : at_ < s.size) (h2 : s.size < 9223372036854775808) (hc : bt s at_ = 107) (hs : (s.size : Int) ≤ at_ + 1) :
    Calls Try.prog 164 #[.string s, .int .i64 at_] w fun e w' => e = .returned (.tuple #[.agg #[.int .i64 (0), .int .i64 0, .bool false, .int .i64 (at_ + 1), .string (⟨#[]⟩ : ByteArray)], .int .i64 (0), .bool false]) ∧ Below w.heap.size w w' := by
  have hx := bt_at s at_
  rw [hc] at hx
  have hd1 : decide ((s.size : Int) ≤ at_ + 1) = true := decide_eq_true hs
  have HB := Aside0.mk (Below.refl w.heap.size w)
  have hu := Try.underlying230; go_enter Try.func164, Try.ntmps164
  go_wp2; exact bodyPost_ret (v := .tuple #[.agg #[.int .i64 (0), .int .i64 0, .bool false, .int .i64 (at_ + 1), .string (⟨#[]⟩ : ByteArray)], .int .i64 (0), .bool false]) (by simp [results, Try.results164, go_sem]) rfl ⟨rfl, by repeat (first | exact HB.out | apply below_alloc | apply below_drew1 | apply pw_below_drewN)⟩
set_option maxHeartbeats 400000 in
set_option maxRecDepth 10000 in
theorem term_begin.c2 (s : ByteArray) (at_ : Int) (w : World) (h0 : 0 ≤ at_) (h1 : at_ < s.size) (h2 : s.size < 9223372036854775808) (hc : bt s at_ = 107) (hs : at_ + 1 < (s.size : Int)) (hc1 : bt s (at_ + 1) = 103) :
    Calls Try.prog 164 #[.string s, .int .i64 at_] w fun e w' => e = .returned (.tuple #[.agg #[.int .i64 (1), .int .i64 0, .bool false, .int .i64 (at_ + 1), .string (⟨#[]⟩ : ByteArray)], .int .i64 (at_ + 1), .bool true]) ∧ Below w.heap.size w w' := by
  have hx := bt_at s at_
  rw [hc] at hx
  have hx1 := bt_at s (at_ + 1)
  have hd1 : decide ((s.size : Int) ≤ at_ + 1) = false := decide_eq_false (by omega)
  have hp1 : 0 ≤ at_ + 1 := by omega
  rw [hc1] at hx1
  have HB := Aside0.mk (Below.refl w.heap.size w)
  have hu := Try.underlying230; go_enter Try.func164, Try.ntmps164
  go_wp2; go_region
  go_wp2; exact bodyPost_ret (v := .tuple #[.agg #[.int .i64 (1), .int .i64 0, .bool false, .int .i64 (at_ + 1), .string (⟨#[]⟩ : ByteArray)], .int .i64 (at_ + 1), .bool true]) (by simp [results, Try.results164, go_sem]) rfl ⟨rfl, by repeat (first | exact HB.out | apply below_alloc | apply below_drew1 | apply pw_below_drewN)⟩
set_option maxHeartbeats 400000 in
set_option maxRecDepth 10000 in
theorem term_begin.c3 (s : ByteArray) (at_ : Int) (w : World) (h0 : 0 ≤ at_) (h1 : at_ < s.size) (h2 : s.size < 9223372036854775808) (hc : bt s at_ = 107) (hs : at_ + 1 < (s.size : Int)) (hc1 : bt s (at_ + 1) = 101) :
    Calls Try.prog 164 #[.string s, .int .i64 at_] w fun e w' => e = .returned (.tuple #[.agg #[.int .i64 (1), .int .i64 0, .bool false, .int .i64 (at_ + 1), .string (⟨#[]⟩ : ByteArray)], .int .i64 (at_ + 1), .bool true]) ∧ Below w.heap.size w w' := by
  have hx := bt_at s at_
  rw [hc] at hx
  have hx1 := bt_at s (at_ + 1)
  have hd1 : decide ((s.size : Int) ≤ at_ + 1) = false := decide_eq_false (by omega)
  have hp1 : 0 ≤ at_ + 1 := by omega
  rw [hc1] at hx1
  have HB := Aside0.mk (Below.refl w.heap.size w)
  have hu := Try.underlying230; go_enter Try.func164, Try.ntmps164
  go_wp2; go_region
  go_wp2; exact bodyPost_ret (v := .tuple #[.agg #[.int .i64 (1), .int .i64 0, .bool false, .int .i64 (at_ + 1), .string (⟨#[]⟩ : ByteArray)], .int .i64 (at_ + 1), .bool true]) (by simp [results, Try.results164, go_sem]) rfl ⟨rfl, by repeat (first | exact HB.out | apply below_alloc | apply below_drew1 | apply pw_below_drewN)⟩
set_option maxHeartbeats 400000 in
set_option maxRecDepth 10000 in
theorem term_begin.c4 (s : ByteArray) (at_ : Int) (w : World) (h0 : 0 ≤ at_) (h1 : at_ < s.size) (h2 : s.size < 9223372036854775808) (hc : bt s at_ = 107) (hs : at_ + 1 < (s.size : Int)) (hn1 : bt s (at_ + 1) ≠ 103) (hn2 : bt s (at_ + 1) ≠ 101) :
    Calls Try.prog 164 #[.string s, .int .i64 at_] w fun e w' => e = .returned (.tuple #[.agg #[.int .i64 (0), .int .i64 0, .bool false, .int .i64 (at_ + 1), .string (⟨#[]⟩ : ByteArray)], .int .i64 (0), .bool false]) ∧ Below w.heap.size w w' := by
  have hx := bt_at s at_
  rw [hc] at hx
  have hx1 := bt_at s (at_ + 1)
  have hd1 : decide ((s.size : Int) ≤ at_ + 1) = false := decide_eq_false (by omega)
  have hp1 : 0 ≤ at_ + 1 := by omega
  have hq1 : (bt s (at_ + 1) == 103) = false := beq_eq_false_iff_ne.mpr hn1
  have hq2 : (bt s (at_ + 1) == 101) = false := beq_eq_false_iff_ne.mpr hn2
  have hq3 : (bt s (at_ + 1) != 103) = true := bne_iff_ne.mpr hn1
  have hq4 : (bt s (at_ + 1) != 101) = true := bne_iff_ne.mpr hn2
  clear hn1 hn2; have HB := Aside0.mk (Below.refl w.heap.size w)
  have hu := Try.underlying230; go_enter Try.func164, Try.ntmps164
  go_wp2; exact bodyPost_ret (v := .tuple #[.agg #[.int .i64 (0), .int .i64 0, .bool false, .int .i64 (at_ + 1), .string (⟨#[]⟩ : ByteArray)], .int .i64 (0), .bool false]) (by simp [results, Try.results164, go_sem]) rfl ⟨rfl, by repeat (first | exact HB.out | apply below_alloc | apply below_drew1 | apply pw_below_drewN)⟩
set_option maxHeartbeats 400000 in
set_option maxRecDepth 10000 in
theorem term_begin.c5 (s : ByteArray) (at_ : Int) (w : World) (h0 : 0 ≤ at_) (h1 : at_ < s.size) (h2 : s.size < 9223372036854775808) (hc : bt s at_ = 104) :
    Calls Try.prog 164 #[.string s, .int .i64 at_] w fun e w' => e = .returned (.tuple #[.agg #[.int .i64 (1), .int .i64 0, .bool false, .int .i64 (at_ + 1), .string (⟨#[]⟩ : ByteArray)], .int .i64 (at_ + 1), .bool true]) ∧ Below w.heap.size w w' := by
  have hx := bt_at s at_
  rw [hc] at hx
  have HB := Aside0.mk (Below.refl w.heap.size w)
  have hu := Try.underlying230; go_enter Try.func164, Try.ntmps164
  go_wp2; go_region
  go_wp2; exact bodyPost_ret (v := .tuple #[.agg #[.int .i64 (1), .int .i64 0, .bool false, .int .i64 (at_ + 1), .string (⟨#[]⟩ : ByteArray)], .int .i64 (at_ + 1), .bool true]) (by simp [results, Try.results164, go_sem]) rfl ⟨rfl, by repeat (first | exact HB.out | apply below_alloc | apply below_drew1 | apply pw_below_drewN)⟩
set_option maxHeartbeats 400000 in
set_option maxRecDepth 10000 in
theorem term_begin.c6 (s : ByteArray) (at_ : Int) (w : World) (h0 : 0 ≤ at_) (h1 : at_ < s.size) (h2 : s.size < 9223372036854775808) (hc : bt s at_ = 112) :
    Calls Try.prog 164 #[.string s, .int .i64 at_] w fun e w' => e = .returned (.tuple #[.agg #[.int .i64 (2), .int .i64 0, .bool false, .int .i64 (at_ + 1), .string (⟨#[]⟩ : ByteArray)], .int .i64 (at_ + 1), .bool true]) ∧ Below w.heap.size w w' := by
  have hx := bt_at s at_
  rw [hc] at hx
  have HB := Aside0.mk (Below.refl w.heap.size w)
  have hu := Try.underlying230; go_enter Try.func164, Try.ntmps164
  go_wp2; go_region
  go_wp2; exact bodyPost_ret (v := .tuple #[.agg #[.int .i64 (2), .int .i64 0, .bool false, .int .i64 (at_ + 1), .string (⟨#[]⟩ : ByteArray)], .int .i64 (at_ + 1), .bool true]) (by simp [results, Try.results164, go_sem]) rfl ⟨rfl, by repeat (first | exact HB.out | apply below_alloc | apply below_drew1 | apply pw_below_drewN)⟩
set_option maxHeartbeats 400000 in
set_option maxRecDepth 10000 in
theorem term_begin.c7 (s : ByteArray) (at_ : Int) (w : World) (h0 : 0 ≤ at_) (h1 : at_ < s.size) (h2 : s.size < 9223372036854775808) (hc : bt s at_ = 120) :
    Calls Try.prog 164 #[.string s, .int .i64 at_] w fun e w' => e = .returned (.tuple #[.agg #[.int .i64 (2), .int .i64 0, .bool false, .int .i64 (at_ + 1), .string (⟨#[]⟩ : ByteArray)], .int .i64 (at_ + 1), .bool true]) ∧ Below w.heap.size w w' := by
  have hx := bt_at s at_
  rw [hc] at hx
  have HB := Aside0.mk (Below.refl w.heap.size w)
  have hu := Try.underlying230; go_enter Try.func164, Try.ntmps164
  go_wp2; go_region
  go_wp2; exact bodyPost_ret (v := .tuple #[.agg #[.int .i64 (2), .int .i64 0, .bool false, .int .i64 (at_ + 1), .string (⟨#[]⟩ : ByteArray)], .int .i64 (at_ + 1), .bool true]) (by simp [results, Try.results164, go_sem]) rfl ⟨rfl, by repeat (first | exact HB.out | apply below_alloc | apply below_drew1 | apply pw_below_drewN)⟩
set_option maxHeartbeats 400000 in
set_option maxRecDepth 10000 in
theorem term_begin.c8 (s : ByteArray) (at_ : Int) (w : World) (h0 : 0 ≤ at_) (h1 : at_ < s.size) (h2 : s.size < 9223372036854775808) (hc : bt s at_ = 115) :
    Calls Try.prog 164 #[.string s, .int .i64 at_] w fun e w' => e = .returned (.tuple #[.agg #[.int .i64 (3), .int .i64 0, .bool false, .int .i64 (at_ + 1), .string (⟨#[]⟩ : ByteArray)], .int .i64 (at_ + 1), .bool true]) ∧ Below w.heap.size w w' := by
  have hx := bt_at s at_
  rw [hc] at hx
  have HB := Aside0.mk (Below.refl w.heap.size w)
  have hu := Try.underlying230; go_enter Try.func164, Try.ntmps164
  go_wp2; go_region
  go_wp2; exact bodyPost_ret (v := .tuple #[.agg #[.int .i64 (3), .int .i64 0, .bool false, .int .i64 (at_ + 1), .string (⟨#[]⟩ : ByteArray)], .int .i64 (at_ + 1), .bool true]) (by simp [results, Try.results164, go_sem]) rfl ⟨rfl, by repeat (first | exact HB.out | apply below_alloc | apply below_drew1 | apply pw_below_drewN)⟩
set_option maxHeartbeats 400000 in
set_option maxRecDepth 10000 in
theorem term_begin.c9 (s : ByteArray) (at_ : Int) (w : World) (h0 : 0 ≤ at_) (h1 : at_ < s.size) (h2 : s.size < 9223372036854775808) (hc : bt s at_ = 101) (hs : (s.size : Int) ≤ at_ + 1) :
    Calls Try.prog 164 #[.string s, .int .i64 at_] w fun e w' => e = .returned (.tuple #[.agg #[.int .i64 (0), .int .i64 0, .bool false, .int .i64 (at_ + 1), .string (⟨#[]⟩ : ByteArray)], .int .i64 (0), .bool false]) ∧ Below w.heap.size w w' := by
  have hx := bt_at s at_
  rw [hc] at hx
  have hd1 : decide ((s.size : Int) ≤ at_ + 1) = true := decide_eq_true hs
  have HB := Aside0.mk (Below.refl w.heap.size w)
  have hu := Try.underlying230; go_enter Try.func164, Try.ntmps164
  go_wp2; exact bodyPost_ret (v := .tuple #[.agg #[.int .i64 (0), .int .i64 0, .bool false, .int .i64 (at_ + 1), .string (⟨#[]⟩ : ByteArray)], .int .i64 (0), .bool false]) (by simp [results, Try.results164, go_sem]) rfl ⟨rfl, by repeat (first | exact HB.out | apply below_alloc | apply below_drew1 | apply pw_below_drewN)⟩
set_option maxHeartbeats 400000 in
set_option maxRecDepth 10000 in
theorem term_begin.c10 (s : ByteArray) (at_ : Int) (w : World) (h0 : 0 ≤ at_) (h1 : at_ < s.size) (h2 : s.size < 9223372036854775808) (hc : bt s at_ = 101) (hs : at_ + 1 < (s.size : Int)) (hl : bt s (at_ + 1) < 1) :
    Calls Try.prog 164 #[.string s, .int .i64 at_] w fun e w' => e = .returned (.tuple #[.agg #[.int .i64 (0), .int .i64 0, .bool false, .int .i64 (at_ + 1), .string (⟨#[]⟩ : ByteArray)], .int .i64 (0), .bool false]) ∧ Below w.heap.size w w' := by
  have hx := bt_at s at_
  rw [hc] at hx
  have hx1 := bt_at s (at_ + 1)
  have hd1 : decide ((s.size : Int) ≤ at_ + 1) = false := decide_eq_false (by omega)
  have hp1 : 0 ≤ at_ + 1 := by omega
  have hq1 : decide (bt s (at_ + 1) < 1) = true := decide_eq_true hl
  have HB := Aside0.mk (Below.refl w.heap.size w)
  have hu := Try.underlying230; go_enter Try.func164, Try.ntmps164
  go_wp2; exact bodyPost_ret (v := .tuple #[.agg #[.int .i64 (0), .int .i64 0, .bool false, .int .i64 (at_ + 1), .string (⟨#[]⟩ : ByteArray)], .int .i64 (0), .bool false]) (by simp [results, Try.results164, go_sem]) rfl ⟨rfl, by repeat (first | exact HB.out | apply below_alloc | apply below_drew1 | apply pw_below_drewN)⟩
set_option maxHeartbeats 400000 in
set_option maxRecDepth 10000 in
theorem term_begin.c11 (s : ByteArray) (at_ : Int) (w : World) (h0 : 0 ≤ at_) (h1 : at_ < s.size) (h2 : s.size < 9223372036854775808) (hc : bt s at_ = 101) (hs : at_ + 1 < (s.size : Int)) (hl : ¬ bt s (at_ + 1) < 1) (hg : 32 < bt s (at_ + 1)) :
    Calls Try.prog 164 #[.string s, .int .i64 at_] w fun e w' => e = .returned (.tuple #[.agg #[.int .i64 (0), .int .i64 0, .bool false, .int .i64 (at_ + 1), .string (⟨#[]⟩ : ByteArray)], .int .i64 (0), .bool false]) ∧ Below w.heap.size w w' := by
  have hx := bt_at s at_
  rw [hc] at hx
  have hx1 := bt_at s (at_ + 1)
  have hd1 : decide ((s.size : Int) ≤ at_ + 1) = false := decide_eq_false (by omega)
  have hp1 : 0 ≤ at_ + 1 := by omega
  have hq1 : decide (bt s (at_ + 1) < 1) = false := decide_eq_false hl
  have hq2 : decide (32 < bt s (at_ + 1)) = true := decide_eq_true hg
  have HB := Aside0.mk (Below.refl w.heap.size w)
  have hu := Try.underlying230; go_enter Try.func164, Try.ntmps164
  go_wp2; exact bodyPost_ret (v := .tuple #[.agg #[.int .i64 (0), .int .i64 0, .bool false, .int .i64 (at_ + 1), .string (⟨#[]⟩ : ByteArray)], .int .i64 (0), .bool false]) (by simp [results, Try.results164, go_sem]) rfl ⟨rfl, by repeat (first | exact HB.out | apply below_alloc | apply below_drew1 | apply pw_below_drewN)⟩
set_option maxHeartbeats 400000 in
set_option maxRecDepth 10000 in
theorem term_begin.c12 (s : ByteArray) (at_ : Int) (w : World) (h0 : 0 ≤ at_) (h1 : at_ < s.size) (h2 : s.size < 9223372036854775808) (hc : bt s at_ = 101) (hs : at_ + 1 < (s.size : Int)) (hl : ¬ bt s (at_ + 1) < 1) (hg : ¬ 32 < bt s (at_ + 1)) :
    Calls Try.prog 164 #[.string s, .int .i64 at_] w fun e w' => e = .returned (.tuple #[.agg #[.int .i64 (bt s (at_ + 1)), .int .i64 0, .bool true, .int .i64 (at_ + 2), .string (⟨#[]⟩ : ByteArray)], .int .i64 (at_ + 2), .bool true]) ∧ Below w.heap.size w w' := by
  have hx := bt_at s at_
  rw [hc] at hx
  have hx1 := bt_at s (at_ + 1)
  have hd1 : decide ((s.size : Int) ≤ at_ + 1) = false := decide_eq_false (by omega)
  have hp1 : 0 ≤ at_ + 1 := by omega
  have hq1 : decide (bt s (at_ + 1) < 1) = false := decide_eq_false hl
  have hq2 : decide (32 < bt s (at_ + 1)) = false := decide_eq_false hg
  have hr1 := bt_range s (at_ + 1)
  have HB := Aside0.mk (Below.refl w.heap.size w)
  have hu := Try.underlying230; go_enter Try.func164, Try.ntmps164
  go_wp2; go_region
  go_wp2; exact bodyPost_ret (v := .tuple #[.agg #[.int .i64 (bt s (at_ + 1)), .int .i64 0, .bool true, .int .i64 (at_ + 2), .string (⟨#[]⟩ : ByteArray)], .int .i64 (at_ + 2), .bool true]) (by simp [results, Try.results164, go_sem]) rfl ⟨rfl, by repeat (first | exact HB.out | apply below_alloc | apply below_drew1 | apply pw_below_drewN)⟩
set_option maxHeartbeats 400000 in
set_option maxRecDepth 10000 in
theorem term_begin.c13 (s : ByteArray) (at_ : Int) (w : World) (h0 : 0 ≤ at_) (h1 : at_ < s.size) (h2 : s.size < 9223372036854775808) (n1 : bt s at_ ≠ 107) (n2 : bt s at_ ≠ 104) (n3 : bt s at_ ≠ 112) (n4 : bt s at_ ≠ 120) (n5 : bt s at_ ≠ 115) (n6 : bt s at_ ≠ 101) :
    Calls Try.prog 164 #[.string s, .int .i64 at_] w fun e w' => e = .returned (.tuple #[.agg #[.int .i64 (0), .int .i64 0, .bool false, .int .i64 (at_ + 1), .string (⟨#[]⟩ : ByteArray)], .int .i64 (0), .bool false]) ∧ Below w.heap.size w w' := by
  have hx := bt_at s at_
  have q1 : (bt s at_ == 107) = false := beq_eq_false_iff_ne.mpr n1
  have q2 : (bt s at_ == 104) = false := beq_eq_false_iff_ne.mpr n2
  have q3 : (bt s at_ == 112) = false := beq_eq_false_iff_ne.mpr n3
  have q4 : (bt s at_ == 120) = false := beq_eq_false_iff_ne.mpr n4
  have q5 : (bt s at_ == 115) = false := beq_eq_false_iff_ne.mpr n5
  have q6 : (bt s at_ == 101) = false := beq_eq_false_iff_ne.mpr n6
  clear n1 n2 n3 n4 n5 n6; have HB := Aside0.mk (Below.refl w.heap.size w)
  have hu := Try.underlying230; go_enter Try.func164, Try.ntmps164
  go_wp2; exact bodyPost_ret (v := .tuple #[.agg #[.int .i64 (0), .int .i64 0, .bool false, .int .i64 (at_ + 1), .string (⟨#[]⟩ : ByteArray)], .int .i64 (0), .bool false]) (by simp [results, Try.results164, go_sem]) rfl ⟨rfl, by repeat (first | exact HB.out | apply below_alloc | apply below_drew1 | apply pw_below_drewN)⟩
def beginF (s : ByteArray) (at_ : Int) : Int × Int × Bool × Int × ByteArray × Int × Bool :=
  if bt s at_ = 107 then (if at_ + 1 < (s.size : Int) ∧ (bt s (at_ + 1) = 103 ∨ bt s (at_ + 1) = 101) then (1, 0, false, at_ + 1, ⟨#[]⟩, at_ + 1, true) else (0, 0, false, at_ + 1, ⟨#[]⟩, 0, false))
  else if bt s at_ = 104 then (1, 0, false, at_ + 1, ⟨#[]⟩, at_ + 1, true)
  else if bt s at_ = 112 ∨ bt s at_ = 120 then (2, 0, false, at_ + 1, ⟨#[]⟩, at_ + 1, true)
  else if bt s at_ = 115 then (3, 0, false, at_ + 1, ⟨#[]⟩, at_ + 1, true)
  else if bt s at_ = 101 then (if at_ + 1 < (s.size : Int) ∧ 1 ≤ bt s (at_ + 1) ∧ bt s (at_ + 1) ≤ 32 then (bt s (at_ + 1), 0, true, at_ + 2, ⟨#[]⟩, at_ + 2, true) else (0, 0, false, at_ + 1, ⟨#[]⟩, 0, false))
  else (0, 0, false, at_ + 1, ⟨#[]⟩, 0, false)
def term_begin.f (s : ByteArray) (at_ : Int) : Option (Int × Int × Bool × Int × ByteArray × Int × Bool) := if 0 ≤ at_ ∧ at_ < s.size ∧ s.size < 9223372036854775808 then some (beginF s at_) else none
theorem term_begin.calls (a0 : ByteArray) (a1 : Int) (r1 : Int) (r2 : Int) (r3 : Bool) (r4 : Int) (r5 : ByteArray) (r6 : Int) (r7 : Bool) (w : World) (h : term_begin.f a0 a1 = some (r1, r2, r3, r4, r5, r6, r7)) :
    Calls Try.prog 164 #[.string a0, .int .i64 a1] w fun e w' => e = .returned (.tuple #[.agg #[.int .i64 r1, .int .i64 r2, .bool r3, .int .i64 r4, .string r5], .int .i64 r6, .bool r7]) ∧ Below w.heap.size w w' := by
  unfold term_begin.f at h
  split at h
  case isFalse => cases h
  rename_i hb
  obtain ⟨h0, h1, h2⟩ := hb; replace h := Option.some.inj h
  unfold beginF at h
  by_cases k1 : bt a0 a1 = 107
  · rw [if_pos k1] at h
    by_cases k2 : a1 + 1 < (a0.size : Int)
    · by_cases k3 : bt a0 (a1 + 1) = 103
      · rw [if_pos ⟨k2, .inl k3⟩] at h
        simp only [Prod.mk.injEq] at h; obtain ⟨rfl, rfl, rfl, rfl, rfl, rfl, rfl⟩ := h; exact term_begin.c2 a0 a1 w h0 h1 h2 k1 k2 k3
      · by_cases k4 : bt a0 (a1 + 1) = 101
        · rw [if_pos ⟨k2, .inr k4⟩] at h
          simp only [Prod.mk.injEq] at h; obtain ⟨rfl, rfl, rfl, rfl, rfl, rfl, rfl⟩ := h; exact term_begin.c3 a0 a1 w h0 h1 h2 k1 k2 k4
        · rw [if_neg (by rintro ⟨_, h | h⟩ <;> contradiction)] at h
          simp only [Prod.mk.injEq] at h; obtain ⟨rfl, rfl, rfl, rfl, rfl, rfl, rfl⟩ := h; exact term_begin.c4 a0 a1 w h0 h1 h2 k1 k2 k3 k4
    · rw [if_neg (fun h => k2 h.1)] at h
      simp only [Prod.mk.injEq] at h; obtain ⟨rfl, rfl, rfl, rfl, rfl, rfl, rfl⟩ := h; exact term_begin.c1 a0 a1 w h0 h1 h2 k1 (by omega)
  rw [if_neg k1] at h
  by_cases k2 : bt a0 a1 = 104
  · rw [if_pos k2] at h
    simp only [Prod.mk.injEq] at h; obtain ⟨rfl, rfl, rfl, rfl, rfl, rfl, rfl⟩ := h; exact term_begin.c5 a0 a1 w h0 h1 h2 k2
  rw [if_neg k2] at h
  by_cases k3 : bt a0 a1 = 112
  · rw [if_pos (.inl k3)] at h
    simp only [Prod.mk.injEq] at h; obtain ⟨rfl, rfl, rfl, rfl, rfl, rfl, rfl⟩ := h; exact term_begin.c6 a0 a1 w h0 h1 h2 k3
  by_cases k4 : bt a0 a1 = 120
  · rw [if_pos (.inr k4)] at h
    simp only [Prod.mk.injEq] at h; obtain ⟨rfl, rfl, rfl, rfl, rfl, rfl, rfl⟩ := h; exact term_begin.c7 a0 a1 w h0 h1 h2 k4
  rw [if_neg (by rintro (h | h) <;> contradiction)] at h
  by_cases k5 : bt a0 a1 = 115
  · rw [if_pos k5] at h
    simp only [Prod.mk.injEq] at h; obtain ⟨rfl, rfl, rfl, rfl, rfl, rfl, rfl⟩ := h; exact term_begin.c8 a0 a1 w h0 h1 h2 k5
  rw [if_neg k5] at h
  by_cases k6 : bt a0 a1 = 101
  · rw [if_pos k6] at h
    by_cases k7 : a1 + 1 < (a0.size : Int)
    · by_cases k8 : bt a0 (a1 + 1) < 1
      · rw [if_neg (by omega)] at h
        simp only [Prod.mk.injEq] at h; obtain ⟨rfl, rfl, rfl, rfl, rfl, rfl, rfl⟩ := h; exact term_begin.c10 a0 a1 w h0 h1 h2 k6 k7 k8
      · by_cases k9 : 32 < bt a0 (a1 + 1)
        · rw [if_neg (by omega)] at h
          simp only [Prod.mk.injEq] at h; obtain ⟨rfl, rfl, rfl, rfl, rfl, rfl, rfl⟩ := h; exact term_begin.c11 a0 a1 w h0 h1 h2 k6 k7 k8 k9
        · rw [if_pos (by omega)] at h
          simp only [Prod.mk.injEq] at h; obtain ⟨rfl, rfl, rfl, rfl, rfl, rfl, rfl⟩ := h; exact term_begin.c12 a0 a1 w h0 h1 h2 k6 k7 k8 k9
    · rw [if_neg (fun h => k7 h.1)] at h
      simp only [Prod.mk.injEq] at h; obtain ⟨rfl, rfl, rfl, rfl, rfl, rfl, rfl⟩ := h; exact term_begin.c9 a0 a1 w h0 h1 h2 k6 (by omega)
  rw [if_neg k6] at h
  simp only [Prod.mk.injEq] at h; obtain ⟨rfl, rfl, rfl, rfl, rfl, rfl, rfl⟩ := h; exact term_begin.c13 a0 a1 w h0 h1 h2 k1 k2 k3 k4 k5 k6

end Go.Proofs.Ytppimpadfgldjaa.F
namespace Go.Proofs.Ytppimpadfgldjaa.F
open Go.RowKit Go.Proofs.YtppimpadfgldjaaW.PrintWords Go.Proofs.YtppimpadfgldjaaW.PrintLast Go.Proofs.YtppimpadfgldjaaW.PrintMore
attribute [local go_sem] max2_int min2_int max_two min_two max_three min_three max_four min_four
set_option linter.unusedVariables false
set_option linter.unusedSimpArgs false

/-! ### term_scan: function 128 -/
mutual
def term_scan.o : Nat → ByteArray → List S230 → Int → Option (Int × Int × Int)
  | 0, _, _, _ => none
  | k + 1, s, st, at_ => if (st.length : Int) = 400 then some (0, 0, 4) else if (s.size : Int) ≤ at_ then some (0, 0, 2) else
      if leafF (s.extract at_.toNat s.size) = 0 then
        (if (beginF s at_).2.2.2.2.2.2 = true then term_scan.o k s (st ++ [⟨(beginF s at_).1, (beginF s at_).2.1, (beginF s at_).2.2.1, (beginF s at_).2.2.2.1, (beginF s at_).2.2.2.2.1⟩]) (beginF s at_).2.2.2.2.2.1 else some (0, 0, 2))
      else term_scan.i k s st (at_ + leafF (s.extract at_.toNat s.size)) 1
def term_scan.i : Nat → ByteArray → List S230 → Int → Int → Option (Int × Int × Int)
  | 0, _, _, _, _ => none
  | k + 1, s, st, at_, depth => if st.length = 0 then some (at_, depth, 0) else
      if (st.getD (st.length - 1) z230).f2 = true ∧ Op.bytesLess (s.extract (st.getD (st.length - 1) z230).f3.toNat at_.toNat).toList (st.getD (st.length - 1) z230).f4.toList = true then some (0, 0, 2) else
      if (st.getD (st.length - 1) z230).f0 - 1 > 0 then
        term_scan.o k s (st.take (st.length - 1) ++ [⟨(st.getD (st.length - 1) z230).f0 - 1, (if (st.getD (st.length - 1) z230).f1 < depth then depth else (st.getD (st.length - 1) z230).f1), (st.getD (st.length - 1) z230).f2, at_, s.extract (st.getD (st.length - 1) z230).f3.toNat at_.toNat⟩]) at_
      else term_scan.i k s (st.take (st.length - 1)) at_ (wrap64 ((if (st.getD (st.length - 1) z230).f1 < depth then depth else (st.getD (st.length - 1) z230).f1) + 1))
end
/-- What the loops keep. -/
def term_scan.ok (s : ByteArray) (st : List S230) (at_ : Int) : Prop := 0 ≤ at_ ∧ at_ ≤ s.size ∧ st.length ≤ 400 ∧ ∀ x ∈ st, 1 ≤ x.f0 ∧ x.f0 ≤ 32 ∧ 0 ≤ x.f3 ∧ x.f3 ≤ at_
theorem beginF_ok {s : ByteArray} {at_ : Int} (h0 : 0 ≤ at_) (h1 : at_ < s.size) {b1 b2 : Int} {b3 : Bool} {b4 : Int} {b5 : ByteArray} {b6 : Int} (h : beginF s at_ = (b1, b2, b3, b4, b5, b6, true)) :
    1 ≤ b1 ∧ b1 ≤ 32 ∧ b2 = 0 ∧ b4 = b6 ∧ at_ + 1 ≤ b6 ∧ b6 ≤ s.size ∧ b5 = ⟨#[]⟩ := by
  unfold beginF at h
  repeat' split at h
  all_goals
    simp only [Prod.mk.injEq] at h; obtain ⟨rfl, rfl, rfl, rfl, rfl, rfl, h⟩ := h
    first
      | (refine ⟨?_, ?_, rfl, rfl, ?_, ?_, rfl⟩ <;> omega)
      | exact Bool.noConfusion h
theorem leafF_ok {s : ByteArray} (h0 : 0 < s.size) (h : leafF s ≠ 0) : 1 ≤ leafF s ∧ leafF s ≤ s.size := by
  have := bt_range s 2
  unfold leafF at h ⊢
  repeat' split at h
  all_goals first
    | exact absurd rfl h
    | (repeat' split) <;> omega
theorem term_scan.info : (Try.prog.info? 230).map (fun i => (i.zero, i.size, i.bytes)) = some (some (.agg #[.int .i64 0, .int .i64 0, .bool false, .int .i64 0, .string ⟨#[]⟩]), 5, 48) := by kernel_rfl
theorem term_scan.put {T base g n cap : Nat} {W : World} {ok : Nat → Prop} {xs : List S230} (h : k230.R T W base ok (.slice (some ⟨g, 0, none⟩) n cap) xs) (i : Nat) (hi : i < n) (j : Nat) (u : Value) (hj : j < 5) (x' : S230)
    (hx : [.int .i64 x'.f0, .int .i64 x'.f1, .bool x'.f2, .int .i64 x'.f3, .string x'.f4] = ([.int .i64 (xs.getD i z230).f0, .int .i64 (xs.getD i z230).f1, .bool (xs.getD i z230).f2, .int .i64 (xs.getD i z230).f3, .string (xs.getD i z230).f4] : List Value).set j u) :
    k230.R T (W.setCell ⟨g, i * 5 + j, none⟩ u) base ok (.slice (some ⟨g, 0, none⟩) n cap) (xs.set i x') := by
  obtain ⟨hn, _, hC⟩ := Kd.R_reads' h; obtain ⟨ad, c, e, hcl, hK, hcc⟩ := Kd.C_get hC z230 (i : Int) (by omega) (by omega)
  cases e
  rw [Int.toNat_natCast] at hK hcc
  obtain rfl := k230_open hK
  have h2 := (Kd.R_seg h (i : Int) (by omega) (by omega) (c := [.int .i64 (xs.getD i z230).f0, .int .i64 (xs.getD i z230).f1, .bool (xs.getD i z230).f2, .int .i64 (xs.getD i z230).f3, .string (xs.getD i z230).f4]) (seg := [u]) (j := j) (okp := fun _ => False) (x' := x') hcl
    (fun j' u' hu => by have := hcc j' u' hu; rw [add_plain] at this; rwa [Int.toNat_natCast]) (by show j + 1 ≤ 5; omega) ?_ (fun _ h => h.elim)).1
  · rw [Int.toNat_natCast] at h2
    exact h2
  · have he : ([.int .i64 (xs.getD i z230).f0, .int .i64 (xs.getD i z230).f1, .bool (xs.getD i z230).f2, .int .i64 (xs.getD i z230).f3, .string (xs.getD i z230).f4] : List Value).take j ++ [u] ++ ([.int .i64 (xs.getD i z230).f0, .int .i64 (xs.getD i z230).f1, .bool (xs.getD i z230).f2, .int .i64 (xs.getD i z230).f3, .string (xs.getD i z230).f4] : List Value).drop (j + [u].length) = ([.int .i64 (xs.getD i z230).f0, .int .i64 (xs.getD i z230).f1, .bool (xs.getD i z230).f2, .int .i64 (xs.getD i z230).f3, .string (xs.getD i z230).f4] : List Value).set j u := by
      rw [List.set_eq_take_append_cons_drop, if_pos (by simpa using hj), List.append_assoc]
      rfl
    rw [he, ← hx]
    exact k230_mkM _ _ _ _
theorem term_scan.cells {T base g n cap : Nat} {W : World} {ok : Nat → Prop} {xs : List S230} (h : k230.R T W base ok (.slice (some ⟨g, 0, none⟩) n cap) xs) (i : Nat) (hi : i < n) :
    W.cell? ⟨g, i * 5, none⟩ = some (.int .i64 (xs.getD i z230).f0) ∧ W.cell? ⟨g, i * 5 + 1, none⟩ = some (.int .i64 (xs.getD i z230).f1) ∧ W.cell? ⟨g, i * 5 + 2, none⟩ = some (.bool (xs.getD i z230).f2) ∧ W.cell? ⟨g, i * 5 + 3, none⟩ = some (.int .i64 (xs.getD i z230).f3) ∧ W.cell? ⟨g, i * 5 + 4, none⟩ = some (.string (xs.getD i z230).f4) := by
  obtain ⟨hn, _, hC⟩ := Kd.R_reads' h; obtain ⟨ad, c, e, hcl, hK, hcc⟩ := Kd.C_get hC z230 (i : Int) (by omega) (by omega)
  cases e
  rw [Int.toNat_natCast] at hK hcc
  obtain rfl := k230_open hK
  have hq : ∀ j u, _ → W.cell? ⟨g, i * 5 + j, none⟩ = some u := fun j u hu => by have := hcc j u hu; rw [add_plain] at this; exact this
  exact ⟨hq 0 _ rfl, hq 1 _ rfl, hq 2 _ rfl, hq 3 _ rfl, hq 4 _ rfl⟩
theorem term_scan.getD_set {α : Type} (l : List α) (m : Nat) (a z : α) (h : m < l.length) : (l.set m a).getD m z = a := by
  simp [List.getD_eq_getElem?_getD, h]
theorem term_scan.set_last {α : Type} (l : List α) (m : Nat) (a : α) (h : l.length = m + 1) : l.set m a = l.take m ++ [a] := by
  rw [List.set_eq_take_append_cons_drop, if_pos (by omega), List.drop_of_length_le (by omega)]
def term_scan.fk (k : Nat) (s : ByteArray) : Option (Int × Int × Int) := if s.size < 9223372036854775808 then term_scan.o k s [] 0 else none
set_option maxHeartbeats 1000000 in
set_option maxRecDepth 100000 in
theorem term_scan.callsk (k : Nat) (a0 : ByteArray) (r1 : Int) (r2 : Int) (r3 : Int) (w : World) (h : term_scan.fk k a0 = some (r1, r2, r3)) :
    Calls Try.prog 128 #[.string a0] w fun e w' => e = .returned (.tuple #[.int .i64 r1, .int .i64 r2, .int .i64 r3]) ∧ Below w.heap.size w w' := by
  unfold term_scan.fk at h
  split at h
  case isFalse => cases h
  rename_i hsz
  have H' := Aside0.mk h
  have HB := Aside0.mk (Below.refl w.heap.size w)
  have HN := Aside0.mk (Kd.R_nil k230 230 w w.heap.size (fun _ => True))
  clear h; go_enter Try.func128, Try.ntmps128
  go_wp2; go_step3
  go_wp2; go_step3
  go_wp2; go_loopg [5, 6] k (fun kq v5 v6 w' => ∃ (st : List S230) (at_ : Int), v6 = .int .i64 at_ ∧ Aside0 (term_scan.o kq a0 st at_ = some (r1, r2, r3)) ∧ Aside0 (kq ≤ k) ∧ Aside0 (term_scan.ok a0 st at_) ∧ Aside0 (k230.R 230 w' w.heap.size (fun _ => True) v5 st) ∧ Aside0 (Below w.heap.size w w'))
  case atStart => exact ⟨[], 0, rfl, H', ⟨Nat.le_refl _⟩, ⟨⟨by omega, by omega, by simp, by simp⟩⟩, HN, HB⟩
  case round =>
    clear H' HB HN; obtain ⟨st, at_, rfl, HA, HK, HI, HR, HB⟩ := hrel; cases gk with
    | zero => exact absurd HA.out (by simp [term_scan.o])
    | succ k1 =>
      have H := HA.out; clear HA; obtain ⟨hat0, hat1, hsl, hall⟩ := HI.out; simp only [term_scan.o] at H; obtain ⟨ao, co, ev⟩ := Kd.R_slice HR.out; subst ev; by_cases c1 : (st.length : Int) = 400
      · rw [if_pos c1] at H
        simp only [Option.some.injEq, Prod.mk.injEq] at H; obtain ⟨rfl, rfl, rfl⟩ := H; have c1a : ((st.length : Int) == 400) = true := beq_iff_eq.mpr c1
        have c1b : (st.length == 400) = true := beq_iff_eq.mpr (by omega)
        clear c1 hsl hall; go_wp2; rw [Exit.noGoto_ret]
        go_ret3
        exact ⟨rfl, HB.out⟩
      · rw [if_neg c1] at H
        have c1a : ((st.length : Int) == 400) = false := beq_eq_false_iff_ne.mpr c1
        have c1b : (st.length == 400) = false := beq_eq_false_iff_ne.mpr (by omega)
        by_cases c2 : (a0.size : Int) ≤ at_
        · rw [if_pos c2] at H
          simp only [Option.some.injEq, Prod.mk.injEq] at H; obtain ⟨rfl, rfl, rfl⟩ := H; have c2a : decide ((a0.size : Int) ≤ at_) = true := decide_eq_true c2
          clear c1 c2 hsl hall; go_wp2; rw [Exit.noGoto_ret]
          go_ret3
          exact ⟨rfl, HB.out⟩
        · rw [if_neg c2] at H
          have c2a : decide ((a0.size : Int) ≤ at_) = false := decide_eq_false c2
          have HL := Aside0.mk (fun W => term_leaf.calls (a0.extract at_.toNat a0.size) (leafF (a0.extract at_.toNat a0.size)) W (by
            unfold term_leaf.f
            rw [if_pos]
            rw [ByteArray.size_extract]
            omega))
          obtain ⟨n, hn⟩ : ∃ n, n = leafF (a0.extract at_.toNat a0.size) := ⟨_, rfl⟩
          rw [← hn] at H HL
          by_cases c3 : n = 0
          · subst c3; rw [if_pos rfl] at H
            obtain ⟨b1, b2, b3, b4, b5, b6, b7, hb⟩ : ∃ b1 b2 b3 b4 b5 b6 b7, beginF a0 at_ = (b1, b2, b3, b4, b5, b6, b7) := ⟨_, _, _, _, _, _, _, rfl⟩
            have HG := Aside0.mk (fun W => term_begin.calls a0 at_ b1 b2 b3 b4 b5 b6 b7 W (by rw [term_begin.f, if_pos (by omega), hb]))
            rw [hb] at H
            have HBF := Aside0.mk hb
            clear hb hn; simp only at H
            by_cases c4 : b7 = true
            · subst c4; rw [if_pos rfl] at H
              have H2 := Aside0.mk H
              have HI2 : Aside0 (term_scan.ok a0 (st ++ [⟨b1, b2, b3, b4, b5⟩]) b6) := by
                obtain ⟨q1, q2, q3, q4, q5, q6, q7⟩ := beginF_ok hat0 (by omega) HBF.out
                refine ⟨⟨by omega, q6, by simp; omega, ?_⟩⟩
                intro x hx; rcases List.mem_append.1 hx with hx | hx
                · have := hall x hx; omega
                · rw [List.mem_singleton.1 hx]; exact ⟨q1, q2, by show 0 ≤ b4; omega, by show b4 ≤ b6; omega⟩
              clear H c1 c2 hsl hall HBF; go_wp2_with (first | (go_at_call 163; refine (HL.out _).mono ?_; rintro e w' ⟨rfl, ⟨nd, rfl⟩⟩) | (go_at_call 164; refine (HG.out _).mono ?_; rintro e w1 ⟨rfl, hb1⟩; have HR1 := Aside0.mk (Kd.R_below (Kd.R_drewN HR.out nd) hb1); have HB1 := Aside0.mk (below_then (pw_below_drewN HB.out nd) (by have := HB.out.size; simpa using this) hb1); clear hb1) | (at_builtin; go_loud (refine Kd.R_append k230 (w0 := w) w.heap.size rfl (.tmp 36) (.tmp 38) 227 230 _ 48 rfl Try.underlying227 term_scan.info rfl (by decide) (by omega) _ st ⟨b1, b2, b3, b4, b5⟩ [.int .i64 b1, .int .i64 b2, .bool b3, .int .i64 b4, .string b5] (fun _ => True) (fun _ => False) rfl ?aX ?aP (fun _ hk => hk.elim) ?aF ?aO ?aB ?aS ?aL ?_; (case aX => exact (by simp : Value.slice (some ⟨w1.heap.size + 1, 0, none⟩) 1 1 = .slice (some ⟨(w1.alloc (.cells #[.int .i64 b1, .int .i64 b2, .bool b3, .int .i64 b4, .string b5] 230)).heap.size, 0, none⟩) 1 1)); (case aP => exact k230_mkM _ _ _ _); (case aB => exact below_alloc HB1.out _); (case aF => exact fun _ _ => trivial); (case aO => exact Kd.R_alloc HR1.out _); (case aS => exact below_size (below_alloc HB1.out _)); (case aL => have := HI.out.2.2.1; omega); intro v2 w2 ho hb2 hg hat; have HO2 := Aside0.mk ho; have HB2 := Aside0.mk hb2; clear ho hb2 hg hat)))
              go_roundg k1
              case measure => have := HK.out; omega
              case rel => exact ⟨_, b6, rfl, H2, ⟨by have := HK.out; omega⟩, HI2, HO2, HB2⟩
            · replace c4 := Bool.eq_false_iff.mpr c4
              subst c4; rw [if_neg (by simp)] at H
              simp only [Option.some.injEq, Prod.mk.injEq] at H; obtain ⟨rfl, rfl, rfl⟩ := H; clear c1 c2 hsl hall HBF; go_wp2_with (first | (go_at_call 163; refine (HL.out _).mono ?_; rintro e w' ⟨rfl, ⟨nd, rfl⟩⟩) | (go_at_call 164; refine (HG.out _).mono ?_; rintro e w1 ⟨rfl, hb1⟩; have HB1 := Aside0.mk (below_then (pw_below_drewN HB.out nd) (by have := HB.out.size; simpa using this) hb1); clear hb1))
              rw [Exit.noGoto_ret]
              go_ret3
              exact ⟨rfl, by repeat (first | exact HB1.out | apply below_alloc)⟩
          · rw [if_neg c3] at H
            have c3a : (n == 0) = false := beq_eq_false_iff_ne.mpr c3
            obtain ⟨hn1, hn2⟩ : 1 ≤ n ∧ at_ + n ≤ a0.size := by
              have h9 := leafF_ok (s := a0.extract at_.toNat a0.size) (by rw [ByteArray.size_extract]; omega) (by rw [← hn]; exact c3)
              rw [← hn, ByteArray.size_extract] at h9
              omega
            have H2 := Aside0.mk H
            have HI2 : Aside0 (term_scan.ok a0 st (at_ + n)) := ⟨⟨by omega, hn2, hsl, fun x hx => by have := hall x hx; omega⟩⟩
            clear H c1 c2 c3 hsl hall hn; go_wp2_with (go_at_call 163; refine (HL.out _).mono ?_; rintro e w' ⟨rfl, ⟨nd, rfl⟩⟩)
            go_loopg [5, 11] k1 (fun kq v5 v11 w' => ∃ (st2 : List S230) (depth : Int), v11 = .int .i64 depth ∧ Aside0 (term_scan.i kq a0 st2 (at_ + n) depth = some (r1, r2, r3)) ∧ Aside0 (kq ≤ k1) ∧ Aside0 (term_scan.ok a0 st2 (at_ + n)) ∧ Aside0 (k230.R 230 w' w.heap.size (fun _ => True) v5 st2) ∧ Aside0 (Below w.heap.size w w'))
            case atStart => exact ⟨st, 1, rfl, H2, ⟨Nat.le_refl _⟩, HI2, ⟨Kd.R_drewN HR.out _⟩, ⟨pw_below_drewN HB.out _⟩⟩
            case round =>
              clear H2 HI2 HB HR HI HL; obtain ⟨st, depth, rfl, HA, HK2, HI, HR, HB⟩ := hrel; cases gk with
              | zero => exact absurd HA.out (by simp [term_scan.i])
              | succ k2 =>
                have H := HA.out; clear HA; obtain ⟨hbt0, hbt1, hsl, hall⟩ := HI.out; simp only [term_scan.i] at H; by_cases c4 : st.length = 0
                · rw [if_pos c4] at H
                  simp only [Option.some.injEq, Prod.mk.injEq] at H; obtain ⟨rfl, rfl, rfl⟩ := H; obtain ⟨ao, co, ev⟩ := Kd.R_slice HR.out; rw [c4] at ev
                  subst ev; clear c4 hsl hall; go_wp2; rw [Exit.noGoto_ret]
                  go_ret3
                  exact ⟨rfl, HB.out⟩
                · rw [if_neg c4] at H
                  obtain ⟨m, hm⟩ : ∃ m, st.length = m + 1 := ⟨st.length - 1, by omega⟩
                  obtain ⟨g, co, ev, hg, _, cells, hcells⟩ := Kd.R_form HR.out (by omega)
                  rw [hm] at ev
                  subst ev; obtain ⟨x, hx⟩ : ∃ x, x = st.getD m z230 := ⟨_, rfl⟩
                  have hmm : st.length - 1 = m := by omega
                  rw [hmm, ← hx] at H
                  obtain ⟨hx0, hx1, hx2, hx3⟩ : 1 ≤ x.f0 ∧ x.f0 ≤ 32 ∧ 0 ≤ x.f3 ∧ x.f3 ≤ at_ + n := by
                    refine hall x ?_
                    rw [hx, List.getD_eq_getElem?_getD, List.getElem?_eq_getElem (by omega)]
                    exact List.getElem_mem _
                  have hcs := term_scan.cells HR.out m (by omega)
                  rw [← hx] at hcs
                  obtain ⟨hc0, hc1, hc2, hc3, hc4⟩ := hcs; have hf0 := blk_frozen hcells (m * 5)
                  have hf1 := blk_frozen hcells (m * 5 + 1)
                  have hf3 := blk_frozen hcells (m * 5 + 3)
                  have hf4 := blk_frozen hcells (m * 5 + 4)
                  have HX := Aside0.mk hx
                  clear hx hcells c4 hmm; have HM := Aside0.mk hm
                  have hml : m < 400 := by omega
                  clear hm hsl hall; by_cases c6 : x.f2 = true ∧ Op.bytesLess (a0.extract x.f3.toNat (at_ + n).toNat).toList x.f4.toList = true
                  · rw [if_pos c6] at H
                    simp only [Option.some.injEq, Prod.mk.injEq] at H; obtain ⟨rfl, rfl, rfl⟩ := H; obtain ⟨c6, c7⟩ := c6; rw [c6] at hc2
                    clear c6; go_wp2; rw [Exit.noGoto_ret]
                    go_ret3
                    exact ⟨rfl, HB.out⟩
                  · rw [if_neg c6] at H
                    have H3 := Aside0.mk H
                    clear H
                    have c8 : x.f2 = false ∨ x.f2 = true ∧ Op.bytesLess (a0.extract x.f3.toNat (at_ + n).toNat).toList x.f4.toList = false := by
                      rcases hq : x.f2 with _ | _
                      · exact .inl rfl
                      · refine .inr ⟨rfl, ?_⟩
                        rw [hq] at c6
                        simpa using c6
                    clear c6; rcases c8 with c8 | ⟨c8, c9⟩
                    all_goals
                      rw [c8] at hc2
                      clear c8; go_wp2; refine start_ (n := 29) (S := fun w' => w'.cell? ⟨g, m * 5, none⟩ = some (.int .i64 x.f0) ∧ w'.cell? ⟨g, m * 5 + 1, none⟩ = some (.int .i64 x.f1)) (ds := [19, 22, 25, 28]) #[false, false, false, false, false, false, false, false, false, false, false, false, false, false, false, false, false, false, false, false, false, false, false, false, false, false, false, false, false] (by kernel_rfl) rfl rfl ⟨hc0, hc1⟩ (fun hHeld => ?_)
                      have HRq := Aside0.mk (Kd.R_drewN HR.out 1)
                      have HBq := Aside0.mk (pw_below_drewN HB.out 1)
                      have hq0 : wr.drew.frozen? ⟨g, m * 5, none⟩ = false := hf0
                      have hq1 : wr.drew.frozen? ⟨g, m * 5 + 1, none⟩ = false := hf1
                      have hq3 : wr.drew.frozen? ⟨g, m * 5 + 3, none⟩ = false := hf3
                      have hq4 : wr.drew.frozen? ⟨g, m * 5 + 4, none⟩ = false := hf4
                      have hd3 : wr.drew.cell? ⟨g, m * 5 + 3, none⟩ = some (.int .i64 x.f3) := hc3
                      have hd4 : wr.drew.cell? ⟨g, m * 5 + 4, none⟩ = some (.string x.f4) := hc4
                      have hd0 := hHeld.1; have hd1 := hHeld.2; replace HRq : Aside0 (k230.R 230 wr.drew w.heap.size (fun _ => True) (.slice (some ⟨g, 0, none⟩) (m + 1) co) st) := HRq
                      replace HBq : Aside0 (Below w.heap.size w wr.drew) := HBq
                      generalize wr.drew = wq at hHeld HRq HBq hq0 hq1 hq3 hq4 hd0 hd1 hd3 hd4 ⊢
                      refine pure_ (i := 0) (N := some 73) (v := ?_) (a' := ?_) #[true, false, false, false, false, false, false, false, false, false, false, false, false, false, false, false, false, false, false, false, false, false, false, false, false, false, false, false, false] rfl rfl (by kernel_rfl) (fun _ _ _ h => h) (Or.inl ⟨by rfl, ?_⟩) ?_ ?_
                      rotate_left
                      · intro w'; go_simp; with_reducible rfl
                      rotate_left; · (simp only [Act.put, List.setIfInBounds_toArray, List.set_cons_zero, List.set_cons_succ, i64_w, i32_w]; rfl)
                      refine pure_ (i := 1) (N := some 74) (v := ?_) (a' := ?_) #[true, true, false, false, false, false, false, false, false, false, false, false, false, false, false, false, false, false, false, false, false, false, false, false, false, false, false, false, false] rfl rfl (by kernel_rfl) (fun _ _ _ h => h) (Or.inl ⟨by rfl, ?_⟩) ?_ ?_
                      rotate_left
                      · intro w'; go_simp; with_reducible rfl
                      rotate_left; · (simp only [Act.put, List.setIfInBounds_toArray, List.set_cons_zero, List.set_cons_succ, i64_w, i32_w]; rfl)
                      refine pure_ (i := 2) (N := some 75) (v := ?_) (a' := ?_) #[true, true, true, false, false, false, false, false, false, false, false, false, false, false, false, false, false, false, false, false, false, false, false, false, false, false, false, false, false] rfl rfl (by kernel_rfl) (fun _ _ _ h => h) (Or.inl ⟨by rfl, ?_⟩) ?_ ?_
                      rotate_left
                      · intro w'; go_simp; with_reducible rfl
                      rotate_left; · (simp only [Act.put, List.setIfInBounds_toArray, List.set_cons_zero, List.set_cons_succ, i64_w, i32_w]; rfl)
                      refine pure_ (i := 3) (N := some 76) (v := ?_) (a' := ?_) #[true, true, true, true, false, false, false, false, false, false, false, false, false, false, false, false, false, false, false, false, false, false, false, false, false, false, false, false, false] rfl rfl (by kernel_rfl) (fun _ _ _ h => h) (Or.inl ⟨by rfl, ?_⟩) ?_ ?_
                      rotate_left
                      · intro w'; go_simp; with_reducible rfl
                      rotate_left; · (simp only [Act.put, List.setIfInBounds_toArray, List.set_cons_zero, List.set_cons_succ, i64_w, i32_w]; rfl)
                      refine pure_ (i := 4) (N := some 77) (v := ?_) (a' := ?_) #[true, true, true, true, true, false, false, false, false, false, false, false, false, false, false, false, false, false, false, false, false, false, false, false, false, false, false, false, false] rfl rfl (by kernel_rfl) (fun _ _ _ h => h) (Or.inl ⟨by rfl, ?_⟩) ?_ ?_
                      rotate_left
                      · intro w'; go_simp; with_reducible rfl
                      rotate_left; · (simp only [Act.put, List.setIfInBounds_toArray, List.set_cons_zero, List.set_cons_succ, i64_w, i32_w]; rfl)
                      refine pure_ (i := 5) (N := some 78) (v := ?_) (a' := ?_) #[true, true, true, true, true, true, false, false, false, false, false, false, false, false, false, false, false, false, false, false, false, false, false, false, false, false, false, false, false] rfl rfl (by kernel_rfl) (fun _ _ _ h => h) (Or.inl ⟨by rfl, ?_⟩) ?_ ?_
                      rotate_left
                      · intro w'; go_simp; with_reducible rfl
                      rotate_left; · (simp only [Act.put, List.setIfInBounds_toArray, List.set_cons_zero, List.set_cons_succ, i64_w, i32_w]; rfl)
                      refine pure_ (i := 6) (N := some 79) (v := ?_) (a' := ?_) #[true, true, true, true, true, true, true, false, false, false, false, false, false, false, false, false, false, false, false, false, false, false, false, false, false, false, false, false, false] rfl rfl (by kernel_rfl) (fun _ _ _ h => h) (Or.inl ⟨by rfl, ?_⟩) ?_ ?_
                      rotate_left
                      · intro w'; go_simp; with_reducible rfl
                      rotate_left; · (simp only [Act.put, List.setIfInBounds_toArray, List.set_cons_zero, List.set_cons_succ, i64_w, i32_w]; rfl)
                      refine take_ (i := 7) (N := some 80) (v := ?_) (a' := ?_) #[true, true, true, true, true, true, true, true, false, false, false, false, false, false, false, false, false, false, false, false, false, false, false, false, false, false, false, false, false] rfl rfl (by kernel_rfl) (fun _ _ _ h => h) (Or.inl ⟨by rfl, ?_⟩) hHeld ?_ ?_
                      rotate_left
                      · rintro w' ⟨s0, s1⟩; go_simp; with_reducible rfl
                      rotate_left; · (simp only [Act.put, List.setIfInBounds_toArray, List.set_cons_zero, List.set_cons_succ, i64_w, i32_w]; rfl)
                      refine pure_ (i := 8) (N := some 81) (v := ?_) (a' := ?_) #[true, true, true, true, true, true, true, true, true, false, false, false, false, false, false, false, false, false, false, false, false, false, false, false, false, false, false, false, false] rfl rfl (by kernel_rfl) (fun _ _ _ h => h) (Or.inl ⟨by rfl, ?_⟩) ?_ ?_
                      rotate_left
                      · intro w'; go_simp; with_reducible rfl
                      rotate_left; · (simp only [Act.put, List.setIfInBounds_toArray, List.set_cons_zero, List.set_cons_succ, i64_w, i32_w]; rfl)
                      refine pure_ (i := 9) (N := some 82) (v := ?_) (a' := ?_) #[true, true, true, true, true, true, true, true, true, true, false, false, false, false, false, false, false, false, false, false, false, false, false, false, false, false, false, false, false] rfl rfl (by kernel_rfl) (fun _ _ _ h => h) (Or.inl ⟨by rfl, ?_⟩) ?_ ?_
                      rotate_left
                      · intro w'; go_simp; with_reducible rfl
                      rotate_left; · (simp only [Act.put, List.setIfInBounds_toArray, List.set_cons_zero, List.set_cons_succ, i64_w, i32_w]; rfl)
                      refine pure_ (i := 10) (N := some 83) (v := ?_) (a' := ?_) #[true, true, true, true, true, true, true, true, true, true, true, false, false, false, false, false, false, false, false, false, false, false, false, false, false, false, false, false, false] rfl rfl (by kernel_rfl) (fun _ _ _ h => h) (Or.inl ⟨by rfl, ?_⟩) ?_ ?_
                      rotate_left
                      · intro w'; go_simp; with_reducible rfl
                      rotate_left; · (simp only [Act.put, List.setIfInBounds_toArray, List.set_cons_zero, List.set_cons_succ, i64_w, i32_w]; rfl)
                      refine pure_ (i := 11) (N := some 84) (v := ?_) (a' := ?_) #[true, true, true, true, true, true, true, true, true, true, true, true, false, false, false, false, false, false, false, false, false, false, false, false, false, false, false, false, false] rfl rfl (by kernel_rfl) (fun _ _ _ h => h) (Or.inl ⟨by rfl, ?_⟩) ?_ ?_
                      rotate_left
                      · intro w'; go_simp; with_reducible rfl
                      rotate_left; · (simp only [Act.put, List.setIfInBounds_toArray, List.set_cons_zero, List.set_cons_succ, i64_w, i32_w]; rfl)
                      refine take_ (i := 12) (N := some 85) (v := ?_) (a' := ?_) #[true, true, true, true, true, true, true, true, true, true, true, true, true, false, false, false, false, false, false, false, false, false, false, false, false, false, false, false, false] rfl rfl (by kernel_rfl) (fun _ _ _ h => h) (Or.inl ⟨by rfl, ?_⟩) hHeld ?_ ?_
                      rotate_left
                      · rintro w' ⟨s0, s1⟩; go_simp; with_reducible rfl
                      rotate_left; · (simp only [Act.put, List.setIfInBounds_toArray, List.set_cons_zero, List.set_cons_succ, i64_w, i32_w]; rfl)
                      refine pure_ (i := 13) (N := some 86) (v := ?_) (a' := ?_) #[true, true, true, true, true, true, true, true, true, true, true, true, true, true, false, false, false, false, false, false, false, false, false, false, false, false, false, false, false] rfl rfl (by kernel_rfl) (fun _ _ _ h => h) (Or.inl ⟨by rfl, ?_⟩) ?_ ?_
                      rotate_left
                      · intro w'; go_simp; with_reducible rfl
                      rotate_left; · (simp only [Act.put, List.setIfInBounds_toArray, List.set_cons_zero, List.set_cons_succ, i64_w, i32_w]; rfl)
                      refine pure_ (i := 14) (N := some 87) (v := ?_) (a' := ?_) #[true, true, true, true, true, true, true, true, true, true, true, true, true, true, true, false, false, false, false, false, false, false, false, false, false, false, false, false, false] rfl rfl (by kernel_rfl) (fun _ _ _ h => h) (Or.inl ⟨by rfl, ?_⟩) ?_ ?_
                      rotate_left
                      · intro w'; go_simp; with_reducible rfl
                      rotate_left; · (simp only [Act.put, List.setIfInBounds_toArray, List.set_cons_zero, List.set_cons_succ, i64_w, i32_w]; rfl)
                      refine pure_ (i := 15) (N := some 88) (v := ?_) (a' := ?_) #[true, true, true, true, true, true, true, true, true, true, true, true, true, true, true, true, false, false, false, false, false, false, false, false, false, false, false, false, false] rfl rfl (by kernel_rfl) (fun _ _ _ h => h) (Or.inl ⟨by rfl, ?_⟩) ?_ ?_
                      rotate_left
                      · intro w'; go_simp; with_reducible rfl
                      rotate_left; · (simp only [Act.put, List.setIfInBounds_toArray, List.set_cons_zero, List.set_cons_succ, i64_w, i32_w]; rfl)
                      refine pure_ (i := 16) (N := some 89) (v := ?_) (a' := ?_) #[true, true, true, true, true, true, true, true, true, true, true, true, true, true, true, true, true, false, false, false, false, false, false, false, false, false, false, false, false] rfl rfl (by kernel_rfl) (fun _ _ _ h => h) (Or.inl ⟨by rfl, ?_⟩) ?_ ?_
                      rotate_left
                      · intro w'; go_simp; with_reducible rfl
                      rotate_left; · (simp only [Act.put, List.setIfInBounds_toArray, List.set_cons_zero, List.set_cons_succ, i64_w, i32_w]; rfl)
                      refine pure_ (i := 17) (N := some 90) (v := ?_) (a' := ?_) #[true, true, true, true, true, true, true, true, true, true, true, true, true, true, true, true, true, true, false, false, false, false, false, false, false, false, false, false, false] rfl rfl (by kernel_rfl) (fun _ _ _ h => h) (Or.inl ⟨by rfl, ?_⟩) ?_ ?_
                      rotate_left
                      · intro w'; go_simp; with_reducible rfl
                      rotate_left; · (simp only [Act.put, List.setIfInBounds_toArray, List.set_cons_zero, List.set_cons_succ, i64_w, i32_w]; rfl)
                      refine pure_ (i := 18) (N := some 91) (v := ?_) (a' := ?_) #[true, true, true, true, true, true, true, true, true, true, true, true, true, true, true, true, true, true, true, false, false, false, false, false, false, false, false, false, false] rfl rfl (by kernel_rfl) (fun _ _ _ h => h) (Or.inl ⟨by rfl, ?_⟩) ?_ ?_
                      rotate_left
                      · intro w'; go_simp; with_reducible rfl
                      rotate_left; · (simp only [Act.put, List.setIfInBounds_toArray, List.set_cons_zero, List.set_cons_succ, i64_w, i32_w]; rfl)
                      refine last_ (i := 19) (N := none) #[true, true, true, true, true, true, true, true, true, true, true, true, true, true, true, true, true, true, true, true, false, false, false, false, false, false, false, false, false] rfl rfl (by kernel_rfl) (by decide) (fun K hK => ?_)
                      refine skip_ (w1 := ?_) (by rfl) rfl ?_ ?_
                      rotate_left; · (go_simp; rfl)
                      refine hK.out _ _ ?_
                      clear hK K; refine pure_ (i := 20) (N := some 92) (v := ?_) (a' := ?_) #[true, true, true, true, true, true, true, true, true, true, true, true, true, true, true, true, true, true, true, true, true, false, false, false, false, false, false, false, false] rfl rfl (by kernel_rfl) (fun _ _ _ h => h) (Or.inl ⟨by rfl, ?_⟩) ?_ ?_
                      rotate_left
                      · intro w'; go_simp; with_reducible rfl
                      rotate_left; · (simp only [Act.put, List.setIfInBounds_toArray, List.set_cons_zero, List.set_cons_succ, i64_w, i32_w]; rfl)
                      refine pure_ (i := 21) (N := some 93) (v := ?_) (a' := ?_) #[true, true, true, true, true, true, true, true, true, true, true, true, true, true, true, true, true, true, true, true, true, true, false, false, false, false, false, false, false] rfl rfl (by kernel_rfl) (fun _ _ _ h => h) (Or.inl ⟨by rfl, ?_⟩) ?_ ?_
                      rotate_left
                      · intro w'; go_simp; with_reducible rfl
                      rotate_left; · (simp only [Act.put, List.setIfInBounds_toArray, List.set_cons_zero, List.set_cons_succ, i64_w, i32_w]; rfl)
                      refine last_ (i := 22) (N := none) #[true, true, true, true, true, true, true, true, true, true, true, true, true, true, true, true, true, true, true, true, true, true, true, false, false, false, false, false, false] rfl rfl (by kernel_rfl) (by decide) (fun K hK => ?_)
                      refine skip_ (w1 := ?_) (by rfl) rfl ?_ ?_
                      rotate_left; · (go_simp; rfl)
                      refine hK.out _ _ ?_
                      clear hK K; refine pure_ (i := 23) (N := some 94) (v := ?_) (a' := ?_) #[true, true, true, true, true, true, true, true, true, true, true, true, true, true, true, true, true, true, true, true, true, true, true, true, false, false, false, false, false] rfl rfl (by kernel_rfl) (fun _ _ _ h => h) (Or.inl ⟨by rfl, ?_⟩) ?_ ?_
                      rotate_left
                      · intro w'; go_simp; with_reducible rfl
                      rotate_left; · (simp only [Act.put, List.setIfInBounds_toArray, List.set_cons_zero, List.set_cons_succ, i64_w, i32_w]; rfl)
                      refine pure_ (i := 24) (N := some 95) (v := ?_) (a' := ?_) #[true, true, true, true, true, true, true, true, true, true, true, true, true, true, true, true, true, true, true, true, true, true, true, true, true, false, false, false, false] rfl rfl (by kernel_rfl) (fun _ _ _ h => h) (Or.inl ⟨by rfl, ?_⟩) ?_ ?_
                      rotate_left
                      · intro w'; go_simp; with_reducible rfl
                      rotate_left; · (simp only [Act.put, List.setIfInBounds_toArray, List.set_cons_zero, List.set_cons_succ, i64_w, i32_w]; rfl)
                      refine last_ (i := 25) (N := none) #[true, true, true, true, true, true, true, true, true, true, true, true, true, true, true, true, true, true, true, true, true, true, true, true, true, true, false, false, false] rfl rfl (by kernel_rfl) (by decide) (fun K hK => ?_)
                      refine skip_ (w1 := ?_) (by rfl) rfl ?_ ?_
                      rotate_left; · (go_simp; rfl)
                      refine hK.out _ _ ?_
                      clear hK K; refine pure_ (i := 26) (N := some 96) (v := ?_) (a' := ?_) #[true, true, true, true, true, true, true, true, true, true, true, true, true, true, true, true, true, true, true, true, true, true, true, true, true, true, true, false, false] rfl rfl (by kernel_rfl) (fun _ _ _ h => h) (Or.inl ⟨by rfl, ?_⟩) ?_ ?_
                      rotate_left
                      · intro w'; go_simp; with_reducible rfl
                      rotate_left; · (simp only [Act.put, List.setIfInBounds_toArray, List.set_cons_zero, List.set_cons_succ, i64_w, i32_w]; rfl)
                      refine pure_ (i := 27) (N := some 97) (v := ?_) (a' := ?_) #[true, true, true, true, true, true, true, true, true, true, true, true, true, true, true, true, true, true, true, true, true, true, true, true, true, true, true, true, false] rfl rfl (by kernel_rfl) (fun _ _ _ h => h) (Or.inl ⟨by rfl, ?_⟩) ?_ ?_
                      rotate_left
                      · intro w'; go_simp; with_reducible rfl
                      rotate_left; · (simp only [Act.put, List.setIfInBounds_toArray, List.set_cons_zero, List.set_cons_succ, i64_w, i32_w]; rfl)
                      refine last_ (i := 28) (N := none) #[true, true, true, true, true, true, true, true, true, true, true, true, true, true, true, true, true, true, true, true, true, true, true, true, true, true, true, true, true] rfl rfl (by kernel_rfl) (by decide) (fun K hK => ?_)
                      refine skip_ (w1 := ?_) (by rfl) rfl ?_ ?_
                      rotate_left; · (go_simp; rfl)
                      refine hK.out _ _ ?_
                      clear hK K; refine done_ (by kernel_rfl) ?_
                      have hw0 : wrap64 (x.f0 - 1) = x.f0 - 1 := by unfold wrap64; omega
                      rw [hw0]
                      obtain ⟨dd, hdd⟩ : ∃ dd : Int, dd = if x.f1 < depth then depth else x.f1 := ⟨_, rfl⟩
                      rw [← hdd]
                      obtain ⟨part, hpart⟩ : ∃ part : ByteArray, part = a0.extract x.f3.toNat (at_ + n).toNat := ⟨_, rfl⟩
                      rw [← hpart]
                      have hml2 : m < st.length := by have := HM.out; omega
                      have hp1 := term_scan.put HRq.out m (by omega) 0 (.int .i64 (x.f0 - 1)) (by omega) ⟨x.f0 - 1, x.f1, x.f2, x.f3, x.f4⟩ (by rw [← HX.out]; rfl)
                      have hp2 := term_scan.put hp1 m (by omega) 1 (.int .i64 dd) (by omega) ⟨x.f0 - 1, dd, x.f2, x.f3, x.f4⟩ (by rw [term_scan.getD_set st m _ _ hml2]; rfl)
                      have hp3 := term_scan.put hp2 m (by omega) 3 (.int .i64 (at_ + n)) (by omega) ⟨x.f0 - 1, dd, x.f2, at_ + n, x.f4⟩ (by rw [term_scan.getD_set _ m _ _ (by simpa using hml2)]; rfl)
                      have hp4 := term_scan.put hp3 m (by omega) 4 (.string part) (by omega) ⟨x.f0 - 1, dd, x.f2, at_ + n, part⟩ (by rw [term_scan.getD_set _ m _ _ (by simpa using hml2)]; rfl)
                      rw [List.set_set, List.set_set, List.set_set, term_scan.set_last st m _ HM.out] at hp4
                      have hb4 : Below w.heap.size w ((((wq.setCell ⟨g, m * 5, none⟩ (.int .i64 (x.f0 - 1))).setCell ⟨g, m * 5 + 1, none⟩ (.int .i64 dd)).setCell ⟨g, m * 5 + 3, none⟩ (.int .i64 (at_ + n))).setCell ⟨g, m * 5 + 4, none⟩ (.string part)) := below_set (below_set (below_set (below_set HBq.out hg) hg) hg) hg
                      replace hp4 : k230.R 230 ((((wq.setCell ⟨g, m * 5, none⟩ (.int .i64 (x.f0 - 1))).setCell ⟨g, m * 5 + 1, none⟩ (.int .i64 dd)).setCell ⟨g, m * 5 + 3, none⟩ (.int .i64 (at_ + n))).setCell ⟨g, m * 5 + 4, none⟩ (.string part)) w.heap.size (fun _ => True) (.slice (some ⟨g, 0, none⟩) (m + 1) co) (st.take m ++ [⟨x.f0 - 1, dd, x.f2, at_ + n, part⟩]) := hp4
                      clear hp1 hp2 hp3 hd0 hd1 hd3 hd4 hq0 hq1 hq3 hq4 HRq HBq hHeld hc0 hc1 hc2 hc3 hc4 hf0 hf1 hf3 hf4; generalize ((((wq.setCell ⟨g, m * 5, none⟩ (.int .i64 (x.f0 - 1))).setCell ⟨g, m * 5 + 1, none⟩ (.int .i64 dd)).setCell ⟨g, m * 5 + 3, none⟩ (.int .i64 (at_ + n))).setCell ⟨g, m * 5 + 4, none⟩ (.string part)) = W4 at hp4 hb4 ⊢
                      have HP := Aside0.mk hp4
                      have HB4 := Aside0.mk hb4
                      have hcs := term_scan.cells hp4 m (by omega)
                      have hgl : (st.take m ++ [(⟨x.f0 - 1, dd, x.f2, at_ + n, part⟩ : S230)]).getD m z230 = ⟨x.f0 - 1, dd, x.f2, at_ + n, part⟩ := by
                        simp only [List.getD_eq_getElem?_getD]; rw [List.getElem?_append_right (by rw [List.length_take]; omega)]
                        rw [List.length_take, Nat.min_eq_left (by omega)]
                        simp
                      rw [hgl] at hcs
                      obtain ⟨hc0, hc1, _⟩ := hcs
                      have H4 : (if x.f0 - 1 > 0 then term_scan.o k2 a0 (st.take m ++ [⟨x.f0 - 1, dd, x.f2, at_ + n, part⟩]) (at_ + n) else term_scan.i k2 a0 (st.take m) (at_ + n) (wrap64 (dd + 1))) = some (r1, r2, r3) := by
                        rw [hdd, hpart]; exact H3.out
                      have hin : ∀ y ∈ st.take m, 1 ≤ y.f0 ∧ y.f0 ≤ 32 ∧ 0 ≤ y.f3 ∧ y.f3 ≤ at_ + n := fun y hy => HI.out.2.2.2 y (List.mem_of_mem_take hy)
                      clear hp4 hb4 hgl hdd hpart HX H3 HR HB; by_cases c10 : x.f0 - 1 > 0
                      · rw [if_pos c10] at H4
                        have H5 := Aside0.mk H4
                        have c10a : decide (0 < x.f0 - 1) = true := decide_eq_true c10
                        have c10b : decide (1 < x.f0) = true := decide_eq_true (by omega)
                        have HI5 : Aside0 (term_scan.ok a0 (st.take m ++ [⟨x.f0 - 1, dd, x.f2, at_ + n, part⟩]) (at_ + n)) := by
                          refine ⟨⟨hbt0, hbt1, by simp; omega, ?_⟩⟩
                          intro y hy; rcases List.mem_append.1 hy with hy | hy
                          · exact hin y hy
                          · rw [List.mem_singleton.1 hy]; exact ⟨by show 1 ≤ x.f0 - 1; omega, by show x.f0 - 1 ≤ 32; omega, hbt0, by show at_ + n ≤ at_ + n; omega⟩
                        clear H4 c10 hin; go_wp2; go_roundg k2
                        case measure => have := HK2.out; have := HK.out; omega
                        case rel => exact ⟨_, _, rfl, H5, ⟨by have := HK2.out; have := HK.out; omega⟩, HI5, HP, HB4⟩

                      · rw [if_neg c10] at H4
                        have H5 := Aside0.mk H4
                        have c10a : decide (0 < x.f0 - 1) = false := decide_eq_false c10
                        have c10b : decide (1 < x.f0) = false := decide_eq_false (by omega)
                        have HI5 : Aside0 (term_scan.ok a0 (st.take m) (at_ + n)) := ⟨⟨hbt0, hbt1, by rw [List.length_take]; omega, hin⟩⟩
                        have HP5 := Aside0.mk (Kd.R_take HP.out (m := m) (by rw [List.length_append, List.length_take]; omega))
                        have htk : (st.take m ++ [(⟨x.f0 - 1, dd, x.f2, at_ + n, part⟩ : S230)]).take m = st.take m := by
                          rw [List.take_append_of_le_length (by rw [List.length_take]; omega), List.take_take, Nat.min_self]
                        rw [htk] at HP5
                        have hco : m ≤ co := by have := (Kd.R_reads' HP.out).2.1; omega
                        clear H4 c10 hin htk; go_wp2; go_roundg k2
                        case measure => have := HK2.out; omega
                        case rel => exact ⟨_, _, rfl, H5, ⟨by have := HK2.out; omega⟩, HI5, HP5, HB4⟩
/-- How parts that stand one behind the other end: each read by p. -/
def partsF (s : ByteArray) (p : Int → Int × Int × Int) (pow : Bool) : Nat → Int → Int → ByteArray → Int × Int × Int
  | 0, at_, dep, _ => (at_, dep + 1, 0)
  | m + 1, at_, dep, last =>
    if (p at_).2.2 ≠ 0 then (0, 0, (p at_).2.2) else
    if pow = true ∧ Op.bytesLess (s.extract at_.toNat (p at_).1.toNat).toList last.toList = true then (0, 0, 2) else
    partsF s p pow m (p at_).1 (if dep < (p at_).2.1 then (p at_).2.1 else dep) (s.extract at_.toNat (p at_).1.toNat)
/-- Where the term ends that begins at a place, no deeper than d; its depth; 0, or what is wrong. -/
def endF (s : ByteArray) : Nat → Int → Int × Int × Int
  | 0, _ => (0, 0, 4)
  | d + 1, at_ =>
    if (s.size : Int) ≤ at_ then (0, 0, 2) else
    if leafF (s.extract at_.toNat s.size) ≠ 0 then (at_ + leafF (s.extract at_.toNat s.size), 1, 0) else
    if (beginF s at_).2.2.2.2.2.2 = true then partsF s (endF s d) (beginF s at_).2.2.1 (beginF s at_).1.toNat (beginF s at_).2.2.2.2.2.1 0 ⟨#[]⟩ else (0, 0, 2)
theorem partsF_ok {s : ByteArray} {p : Int → Int × Int × Int} {pow : Bool} {D : Int} (hD : 0 ≤ D) (hp : ∀ at_, 0 ≤ at_ → (p at_).2.2 = 0 → at_ < (p at_).1 ∧ (p at_).1 ≤ s.size ∧ 1 ≤ (p at_).2.1 ∧ (p at_).2.1 ≤ D) :
    ∀ (m : Nat) (at_ dep : Int) (last : ByteArray), 0 ≤ at_ → at_ ≤ s.size → 0 ≤ dep → dep ≤ D → (partsF s p pow m at_ dep last).2.2 = 0 →
      at_ ≤ (partsF s p pow m at_ dep last).1 ∧ (partsF s p pow m at_ dep last).1 ≤ s.size ∧ 1 ≤ (partsF s p pow m at_ dep last).2.1 ∧ (partsF s p pow m at_ dep last).2.1 ≤ D + 1
  | 0, at_, dep, last, h0, h1, h2, h3, _ => by simp only [partsF]; omega
  | m + 1, at_, dep, last, h0, h1, h2, h3, h => by
    simp only [partsF] at h ⊢
    by_cases c1 : (p at_).2.2 ≠ 0
    · rw [if_pos c1] at h; exact absurd h c1
    · rw [if_neg c1] at h ⊢
      have h4 := hp at_ h0 (by simpa using c1)
      by_cases c2 : pow = true ∧ Op.bytesLess (s.extract at_.toNat (p at_).1.toNat).toList last.toList = true
      · rw [if_pos c2] at h; exact absurd h (by simp)
      · rw [if_neg c2] at h ⊢
        have h5 := partsF_ok hD hp m (p at_).1 (if dep < (p at_).2.1 then (p at_).2.1 else dep) _ (by omega) (by omega) (by split <;> omega) (by split <;> omega) h
        omega
theorem endF_ok {s : ByteArray} : ∀ (d : Nat) (at_ : Int), 0 ≤ at_ → (endF s d at_).2.2 = 0 → at_ < (endF s d at_).1 ∧ (endF s d at_).1 ≤ s.size ∧ 1 ≤ (endF s d at_).2.1 ∧ (endF s d at_).2.1 ≤ d
  | 0, _, _, h => by simp [endF] at h
  | d + 1, at_, h0, h => by
    simp only [endF] at h ⊢
    by_cases c1 : (s.size : Int) ≤ at_
    · rw [if_pos c1] at h; exact absurd h (by simp)
    rw [if_neg c1] at h ⊢
    by_cases c2 : leafF (s.extract at_.toNat s.size) ≠ 0
    · rw [if_pos c2] at h ⊢
      have := leafF_ok (s := s.extract at_.toNat s.size) (by rw [ByteArray.size_extract]; omega) c2
      rw [ByteArray.size_extract] at this
      simp only
      omega
    rw [if_neg c2] at h ⊢
    by_cases c3 : (beginF s at_).2.2.2.2.2.2 = true
    · rw [if_pos c3] at h ⊢
      have h4 := beginF_ok (s := s) (at_ := at_) h0 (by omega) (b1 := (beginF s at_).1) (b2 := (beginF s at_).2.1) (b3 := (beginF s at_).2.2.1) (b4 := (beginF s at_).2.2.2.1) (b5 := (beginF s at_).2.2.2.2.1) (b6 := (beginF s at_).2.2.2.2.2.1) (by rw [← c3])
      have h5 := partsF_ok (D := d) (by omega) (fun a ha hq => endF_ok d a ha hq) (beginF s at_).1.toNat (beginF s at_).2.2.2.2.2.1 0 ⟨#[]⟩ (by omega) (by omega) (by omega) (by omega) h
      exact ⟨Int.lt_of_lt_of_le (by omega) h5.1, h5.2.1, h5.2.2.1, Int.le_trans h5.2.2.2 (by omega)⟩
    · rw [if_neg c3] at h; exact absurd h (by simp)
/-- What a machine of the stack comes to, from what its first term comes to. -/
def Goes (s : ByteArray) (st : List S230) (at_ : Int) (r : Int × Int × Int) (rest : List S230) : Prop :=
  (r.2.2 ≠ 0 → ∃ k, term_scan.o k s st at_ = some (0, 0, r.2.2)) ∧ (r.2.2 = 0 → ∀ k R, term_scan.i k s rest r.1 r.2.1 = some R → ∃ k', term_scan.o k' s st at_ = some R)
theorem partsF_goes (s : ByteArray) (p : Int → Int × Int × Int) (pow : Bool) (D : Int) (hD : 0 ≤ D) (hD2 : D ≤ 1000) (hp : ∀ at_, 0 ≤ at_ → (p at_).2.2 = 0 → at_ < (p at_).1 ∧ (p at_).1 ≤ s.size ∧ 1 ≤ (p at_).2.1 ∧ (p at_).2.1 ≤ D)
    (st : List S230) (hgo : ∀ (x : S230) (at_ : Int), 0 ≤ at_ → Goes s (st ++ [x]) at_ (p at_) (st ++ [x])) :
    ∀ (m : Nat) (at_ dep : Int) (last : ByteArray), 0 ≤ at_ → 0 ≤ dep → dep ≤ D → Goes s (st ++ [⟨(m : Int) + 1, dep, pow, at_, last⟩]) at_ (partsF s p pow (m + 1) at_ dep last) st := by
  intro m; induction m with
  | zero =>
    intro at_ dep last h0 h1 h2; have hg := hgo ⟨((0 : Nat) : Int) + 1, dep, pow, at_, last⟩ at_ h0
    have hb := hp at_ h0
    simp only [partsF]; generalize p at_ = r at hg hb ⊢
    obtain ⟨e, dp, er⟩ := r; simp only at hg hb ⊢
    by_cases c1 : er ≠ 0
    · rw [if_pos c1]
      exact ⟨fun _ => hg.1 c1, fun h => absurd h c1⟩
    rw [if_neg c1]
    have c1' : er = 0 := by simpa using c1
    have hb := hb c1'
    have hi : ∀ k, term_scan.i (k + 1) s (st ++ [⟨((0 : Nat) : Int) + 1, dep, pow, at_, last⟩]) e dp = if pow = true ∧ Op.bytesLess (s.extract at_.toNat e.toNat).toList last.toList = true then some (0, 0, 2) else term_scan.i k s st e (wrap64 ((if dep < dp then dp else dep) + 1)) := by
      intro k; simp only [term_scan.i]; rw [if_neg (by simp)]
      simp [List.getD_eq_getElem?_getD]
    by_cases c2 : pow = true ∧ Op.bytesLess (s.extract at_.toNat e.toNat).toList last.toList = true
    · rw [if_pos c2]
      refine ⟨fun _ => hg.2 c1' 1 _ ?_, fun h => absurd h (by simp)⟩
      rw [hi, if_pos c2]
    · rw [if_neg c2]
      refine ⟨fun h => absurd rfl h, fun _ k R hR => hg.2 c1' (k + 1) R ?_⟩
      rw [hi, if_neg c2]
      have hw : wrap64 ((if dep < dp then dp else dep) + 1) = (if dep < dp then dp else dep) + 1 := by unfold wrap64; split <;> omega
      rw [hw]; exact hR
  | succ m ih =>
    intro at_ dep last h0 h1 h2; have hg := hgo ⟨((m + 1 : Nat) : Int) + 1, dep, pow, at_, last⟩ at_ h0
    have hb := hp at_ h0
    rw [partsF]
    generalize p at_ = r at hg hb ⊢
    obtain ⟨e, dp, er⟩ := r; simp only at hg hb ⊢
    by_cases c1 : er ≠ 0
    · rw [if_pos c1]
      exact ⟨fun _ => hg.1 c1, fun h => absurd h c1⟩
    rw [if_neg c1]
    have c1' : er = 0 := by simpa using c1
    have hb := hb c1'
    have hi : ∀ k, term_scan.i (k + 1) s (st ++ [⟨((m + 1 : Nat) : Int) + 1, dep, pow, at_, last⟩]) e dp = if pow = true ∧ Op.bytesLess (s.extract at_.toNat e.toNat).toList last.toList = true then some (0, 0, 2) else term_scan.o k s (st ++ [⟨(m : Int) + 1, if dep < dp then dp else dep, pow, e, s.extract at_.toNat e.toNat⟩]) e := by
      intro k; simp only [term_scan.i]; rw [if_neg (by simp)]
      have hl : (st ++ [(⟨((m + 1 : Nat) : Int) + 1, dep, pow, at_, last⟩ : S230)]).getD ((st ++ [(⟨((m + 1 : Nat) : Int) + 1, dep, pow, at_, last⟩ : S230)]).length - 1) z230 = ⟨((m + 1 : Nat) : Int) + 1, dep, pow, at_, last⟩ := by
        simp [List.getD_eq_getElem?_getD]
      have ht : (st ++ [(⟨((m + 1 : Nat) : Int) + 1, dep, pow, at_, last⟩ : S230)]).take ((st ++ [(⟨((m + 1 : Nat) : Int) + 1, dep, pow, at_, last⟩ : S230)]).length - 1) = st := by simp
      rw [hl, ht]
      simp only
      by_cases c2 : pow = true ∧ Op.bytesLess (s.extract at_.toNat e.toNat).toList last.toList = true
      · rw [if_pos c2, if_pos c2]
      · rw [if_neg c2, if_neg c2, if_pos (by omega), show ((m + 1 : Nat) : Int) + 1 - 1 = (m : Int) + 1 by omega]
    by_cases c2 : pow = true ∧ Op.bytesLess (s.extract at_.toNat e.toNat).toList last.toList = true
    · rw [if_pos c2]
      refine ⟨fun _ => hg.2 c1' 1 _ ?_, fun h => absurd h (by simp)⟩
      rw [hi, if_pos c2]
    · rw [if_neg c2]
      have hn := ih e (if dep < dp then dp else dep) (s.extract at_.toNat e.toNat) (by omega) (by split <;> omega) (by split <;> omega)
      refine ⟨fun h => ?_, fun h k R hR => ?_⟩
      · obtain ⟨k, hk⟩ := hn.1 h; refine hg.2 c1' (k + 1) _ ?_
        rw [hi, if_neg c2]; exact hk
      · obtain ⟨k', hk'⟩ := hn.2 h k R hR
        refine hg.2 c1' (k' + 1) R ?_
        rw [hi, if_neg c2]; exact hk'
theorem endF_goes (s : ByteArray) : ∀ (d : Nat) (st : List S230) (at_ : Int), st.length + d = 400 → 0 ≤ at_ → Goes s st at_ (endF s d at_) st
  | 0, st, at_, hd, h0 => by
    refine ⟨fun _ => ⟨1, ?_⟩, fun h => absurd h (by simp [endF])⟩
    simp only [term_scan.o, endF]; rw [if_pos (by omega)]
  | d + 1, st, at_, hd, h0 => by
    simp only [endF]; by_cases c1 : (s.size : Int) ≤ at_
    · rw [if_pos c1]
      refine ⟨fun _ => ⟨1, ?_⟩, fun h => absurd h (by simp)⟩
      simp only [term_scan.o]; rw [if_neg (by omega), if_pos c1]
    rw [if_neg c1]
    by_cases c2 : leafF (s.extract at_.toNat s.size) ≠ 0
    · rw [if_pos c2]
      refine ⟨fun h => absurd rfl h, fun _ k R hR => ⟨k + 1, ?_⟩⟩
      simp only [term_scan.o]; rw [if_neg (by omega), if_neg c1, if_neg c2]
      exact hR
    rw [if_neg c2]
    have c2' : leafF (s.extract at_.toNat s.size) = 0 := by simpa using c2
    by_cases c3 : (beginF s at_).2.2.2.2.2.2 = true
    · rw [if_pos c3]
      have h4 := beginF_ok (s := s) (at_ := at_) h0 (by omega) (b1 := (beginF s at_).1) (b2 := (beginF s at_).2.1) (b3 := (beginF s at_).2.2.1) (b4 := (beginF s at_).2.2.2.1) (b5 := (beginF s at_).2.2.2.2.1) (b6 := (beginF s at_).2.2.2.2.2.1) (by rw [← c3])
      have ho : ∀ k, term_scan.o (k + 1) s st at_ = term_scan.o k s (st ++ [⟨(beginF s at_).1, (beginF s at_).2.1, (beginF s at_).2.2.1, (beginF s at_).2.2.2.1, (beginF s at_).2.2.2.2.1⟩]) (beginF s at_).2.2.2.2.2.1 := by
        intro k; simp only [term_scan.o]; rw [if_neg (by omega), if_neg c1, if_pos c2', if_pos c3]
      obtain ⟨m, hm⟩ : ∃ m : Nat, (beginF s at_).1 = (m : Int) + 1 := ⟨((beginF s at_).1 - 1).toNat, by omega⟩
      have hx : (⟨(beginF s at_).1, (beginF s at_).2.1, (beginF s at_).2.2.1, (beginF s at_).2.2.2.1, (beginF s at_).2.2.2.2.1⟩ : S230) = ⟨(m : Int) + 1, 0, (beginF s at_).2.2.1, (beginF s at_).2.2.2.2.2.1, ⟨#[]⟩⟩ := by
        rw [hm, h4.2.2.1, h4.2.2.2.1, h4.2.2.2.2.2.2]
      rw [hx] at ho
      have hn := partsF_goes s (endF s d) (beginF s at_).2.2.1 d (by omega) (by omega) (fun a ha hq => endF_ok d a ha hq) st (fun x a ha => endF_goes s d (st ++ [x]) a (by simp; omega) ha) m (beginF s at_).2.2.2.2.2.1 0 ⟨#[]⟩ (by omega) (by omega) (by omega)
      have hmt : (beginF s at_).1.toNat = m + 1 := by omega
      rw [hmt]
      refine ⟨fun h => ?_, fun h k R hR => ?_⟩
      · obtain ⟨k, hk⟩ := hn.1 h; exact ⟨k + 1, by rw [ho]; exact hk⟩
      · obtain ⟨k, hk⟩ := hn.2 h k R hR
        exact ⟨k + 1, by rw [ho]; exact hk⟩
    · rw [if_neg c3]
      refine ⟨fun _ => ⟨1, ?_⟩, fun h => absurd h (by simp)⟩
      simp only [term_scan.o]; rw [if_neg (by omega), if_neg c1, if_pos c2', if_neg c3]
/-- What a text begins with: where it ends, how deep it is, or what is wrong. -/
def scanF (s : ByteArray) : Int × Int × Int := if (endF s 400 0).2.2 = 0 then endF s 400 0 else (0, 0, (endF s 400 0).2.2)
theorem scanF_goes (s : ByteArray) : ∃ k, term_scan.o k s [] 0 = some (scanF s) := by
  have h := endF_goes s 400 [] 0 rfl (Int.le_refl _)
  unfold scanF
  by_cases c : (endF s 400 0).2.2 = 0
  · rw [if_pos c]
    refine h.2 c 1 _ ?_
    simp only [term_scan.i]; rw [if_pos (show ([] : List S230).length = 0 from rfl)]
    exact congrArg some (Prod.ext rfl (Prod.ext rfl c.symm))
  · rw [if_neg c]
    exact h.1 c
def term_scan.f (s : ByteArray) : Option (Int × Int × Int) := if s.size < 9223372036854775808 then some (scanF s) else none
theorem term_scan.calls (a0 : ByteArray) (r1 : Int) (r2 : Int) (r3 : Int) (w : World) (h : term_scan.f a0 = some (r1, r2, r3)) :
    Calls Try.prog 128 #[.string a0] w fun e w' => e = .returned (.tuple #[.int .i64 r1, .int .i64 r2, .int .i64 r3]) ∧ Below w.heap.size w w' := by
  unfold term_scan.f at h
  split at h
  · rename_i hs
    obtain ⟨k, hk⟩ := scanF_goes a0; exact term_scan.callsk k a0 r1 r2 r3 w (by rw [term_scan.fk, if_pos hs, hk]; exact h)
  · cases h

end Go.Proofs.Ytppimpadfgldjaa.F
namespace Go.Proofs.Ytppimpadfgldjaa.F
open Go.RowKit Go.Proofs.YtppimpadfgldjaaW.PrintWords Go.Proofs.YtppimpadfgldjaaW.PrintLast Go.Proofs.YtppimpadfgldjaaW.PrintMore
attribute [local go_sem] max2_int min2_int max_two min_two max_three min_three max_four min_four
set_option linter.unusedVariables false
set_option linter.unusedSimpArgs false

/-! ### term_Take: function 148 -/
/-! #### term_Take_p: function 148 -/
def term_Take_p.f (a0 : ByteArray) : Option (ByteArray × ByteArray × Int) := (term_scan.f a0).bind fun bt1001 => (if bt1001.2.2 = 0 then (if bt1001.1 > 20000 then (some ((⟨#[]⟩ : ByteArray), (⟨#[]⟩ : ByteArray), 3)) else (if 0 ≤ bt1001.1 then (if bt1001.1 ≤ (a0.size : Int) then (some (a0.extract 0 (bt1001.1 : Int).toNat, a0.extract (bt1001.1 : Int).toNat a0.size, 0)) else (none)) else (none))) else (some ((⟨#[]⟩ : ByteArray), (⟨#[]⟩ : ByteArray), bt1001.2.2)))
set_option maxHeartbeats 8000000 in
set_option maxRecDepth 100000 in
theorem term_Take_p.calls (a0 : ByteArray) (r1 : ByteArray) (r2 : ByteArray) (r3 : Int) (w : World) (h : term_Take_p.f a0 = some (r1, r2, r3)) :
    Calls Try.prog 148 #[.string a0] w fun e w' => e = .returned (.tuple #[.string r1, .string r2, .int .i64 r3]) ∧ Below w.heap.size w w' := by
  have HB := Aside0.mk (Below.refl w.heap.size w)
  have H : ((term_scan.f a0).bind fun bt1001 => (if bt1001.2.2 = 0 then (if bt1001.1 > 20000 then (some ((⟨#[]⟩ : ByteArray), (⟨#[]⟩ : ByteArray), 3)) else (if 0 ≤ bt1001.1 then (if bt1001.1 ≤ (a0.size : Int) then (some (a0.extract 0 (bt1001.1 : Int).toNat, a0.extract (bt1001.1 : Int).toNat a0.size, 0)) else (none)) else (none))) else (some ((⟨#[]⟩ : ByteArray), (⟨#[]⟩ : ByteArray), bt1001.2.2)))) = some (r1, r2, r3) := h
  clear h
  replace H := Option.bind_eq_some_iff.mp H
  obtain ⟨⟨t1001, t1002, t1003⟩, A20, H⟩ := H
  replace H : (if t1003 = 0 then (if t1001 > 20000 then (some ((⟨#[]⟩ : ByteArray), (⟨#[]⟩ : ByteArray), 3)) else (if 0 ≤ t1001 then (if t1001 ≤ (a0.size : Int) then (some (a0.extract 0 (t1001 : Int).toNat, a0.extract (t1001 : Int).toNat a0.size, 0)) else (none)) else (none))) else (some ((⟨#[]⟩ : ByteArray), (⟨#[]⟩ : ByteArray), t1003))) = some (r1, r2, r3) := H
  have A2 := Aside0.mk A20
  clear A20
  by_cases c3 : t1003 = 0
  · rw [if_pos c3] at H
    have c3b0 : (t1003 == 0) = true := beq_iff_eq.mpr c3
    have c3b1 : (t1003 != 0) = false := bne_eq_false_iff_eq.mpr c3
    clear c3
    by_cases c4 : t1001 > 20000
    · rw [if_pos c4] at H
      have c4b0 : decide (20000 < t1001) = true := decide_eq_true c4
      clear c4
      simp only [Option.some.injEq, Prod.mk.injEq] at H
      obtain ⟨rfl, rfl, rfl⟩ := H
      go_enter Try.func148, Try.ntmps148
      go_wp2_with (first | (go_at_call 128; (with_reducible refine (term_scan.calls a0 t1001 t1002 t1003 _ A2.out).mono ?_); rintro e w5 ⟨rfl, hb⟩; have n0_ := Aside0.mk (below_step (by repeat with_reducible first | exact HB.out | apply below_alloc | apply pw_below_drewN | apply below_drew1) hb); clear HB; have HB := n0_; clear n0_; (try clear hb)))
      repeat (go_quiet (first | (go_at_call 128; (with_reducible refine (term_scan.calls a0 t1001 t1002 t1003 _ A2.out).mono ?_); rintro e w5 ⟨rfl, hb⟩; have n0_ := Aside0.mk (below_step (by repeat with_reducible first | exact HB.out | apply below_alloc | apply pw_below_drewN | apply below_drew1) hb); clear HB; have HB := n0_; clear n0_; (try clear hb))); try go_wp2_with (first | (go_at_call 128; (with_reducible refine (term_scan.calls a0 t1001 t1002 t1003 _ A2.out).mono ?_); rintro e w5 ⟨rfl, hb⟩; have n0_ := Aside0.mk (below_step (by repeat with_reducible first | exact HB.out | apply below_alloc | apply pw_below_drewN | apply below_drew1) hb); clear HB; have HB := n0_; clear n0_; (try clear hb))))
      go_ret3
      exact ⟨by first | rfl | (simp [errW_none, errW_some] <;> rfl) | (simp [*, errW_none, errW_some] <;> rfl), by repeat (first | (with_reducible first | exact HB.out | apply below_alloc | apply pw_below_drewN | apply below_drew1) | exact HB.out)⟩
    · rw [if_neg c4] at H
      have c4b0 : decide (20000 < t1001) = false := decide_eq_false c4
      clear c4
      by_cases c6 : 0 ≤ t1001
      · rw [if_pos c6] at H
        have c6b0 := eq_true c6
        have c6b1 : decide (0 ≤ t1001) = true := decide_eq_true c6
        clear c6
        by_cases c7 : t1001 ≤ (a0.size : Int)
        · rw [if_pos c7] at H
          have c7b0 := eq_true c7
          have c7b1 : decide (t1001 ≤ (a0.size : Int)) = true := decide_eq_true c7
          clear c7
          have c8b0 := eq_true (of_decide_eq_true (by first | (with_reducible assumption) | assumption) : 0 ≤ t1001)
          have c9b0 := eq_true (of_decide_eq_true (by first | (with_reducible assumption) | assumption) : t1001 ≤ (a0.size : Int))
          simp only [Option.some.injEq, Prod.mk.injEq] at H
          obtain ⟨rfl, rfl, rfl⟩ := H
          go_enter Try.func148, Try.ntmps148
          go_wp2_with (first | (go_at_call 128; (with_reducible refine (term_scan.calls a0 t1001 t1002 t1003 _ A2.out).mono ?_); rintro e w10 ⟨rfl, hb⟩; have n0_ := Aside0.mk (below_step (by repeat with_reducible first | exact HB.out | apply below_alloc | apply pw_below_drewN | apply below_drew1) hb); clear HB; have HB := n0_; clear n0_; (try clear hb)))
          repeat (go_quiet (first | (go_at_call 128; (with_reducible refine (term_scan.calls a0 t1001 t1002 t1003 _ A2.out).mono ?_); rintro e w10 ⟨rfl, hb⟩; have n0_ := Aside0.mk (below_step (by repeat with_reducible first | exact HB.out | apply below_alloc | apply pw_below_drewN | apply below_drew1) hb); clear HB; have HB := n0_; clear n0_; (try clear hb))); try go_wp2_with (first | (go_at_call 128; (with_reducible refine (term_scan.calls a0 t1001 t1002 t1003 _ A2.out).mono ?_); rintro e w10 ⟨rfl, hb⟩; have n0_ := Aside0.mk (below_step (by repeat with_reducible first | exact HB.out | apply below_alloc | apply pw_below_drewN | apply below_drew1) hb); clear HB; have HB := n0_; clear n0_; (try clear hb))))
          go_ret3
          exact ⟨by first | rfl | (simp [errW_none, errW_some] <;> rfl) | (simp [*, errW_none, errW_some] <;> rfl), by repeat (first | (with_reducible first | exact HB.out | apply below_alloc | apply pw_below_drewN | apply below_drew1) | exact HB.out)⟩
        · rw [if_neg c7] at H
          exact absurd H (by simp)
      · rw [if_neg c6] at H
        exact absurd H (by simp)
  · rw [if_neg c3] at H
    have c3b0 : (t1003 == 0) = false := beq_eq_false_iff_ne.mpr c3
    have c3b1 : (t1003 != 0) = true := bne_iff_ne.mpr c3
    simp only [Option.some.injEq, Prod.mk.injEq] at H
    obtain ⟨rfl, rfl, rfl⟩ := H
    go_enter Try.func148, Try.ntmps148
    go_wp2_with (first | (go_at_call 128; (with_reducible refine (term_scan.calls a0 t1001 t1002 t1003 _ A2.out).mono ?_); rintro e w11 ⟨rfl, hb⟩; have n0_ := Aside0.mk (below_step (by repeat with_reducible first | exact HB.out | apply below_alloc | apply pw_below_drewN | apply below_drew1) hb); clear HB; have HB := n0_; clear n0_; (try clear hb)))
    repeat (go_quiet (first | (go_at_call 128; (with_reducible refine (term_scan.calls a0 t1001 t1002 t1003 _ A2.out).mono ?_); rintro e w11 ⟨rfl, hb⟩; have n0_ := Aside0.mk (below_step (by repeat with_reducible first | exact HB.out | apply below_alloc | apply pw_below_drewN | apply below_drew1) hb); clear HB; have HB := n0_; clear n0_; (try clear hb))); try go_wp2_with (first | (go_at_call 128; (with_reducible refine (term_scan.calls a0 t1001 t1002 t1003 _ A2.out).mono ?_); rintro e w11 ⟨rfl, hb⟩; have n0_ := Aside0.mk (below_step (by repeat with_reducible first | exact HB.out | apply below_alloc | apply pw_below_drewN | apply below_drew1) hb); clear HB; have HB := n0_; clear n0_; (try clear hb))))
    go_ret3
    exact ⟨by first | rfl | (simp [errW_none, errW_some] <;> rfl) | (simp [*, errW_none, errW_some] <;> rfl), by repeat (first | (with_reducible first | exact HB.out | apply below_alloc | apply pw_below_drewN | apply below_drew1) | exact HB.out)⟩

theorem scanF_end {s : ByteArray} (h : (scanF s).2.2 = 0) : 0 < (scanF s).1 ∧ (scanF s).1 ≤ s.size ∧ 1 ≤ (scanF s).2.1 ∧ (scanF s).2.1 ≤ 400 := by
  unfold scanF at h ⊢
  by_cases c : (endF s 400 0).2.2 = 0
  · rw [if_pos c]
    have := endF_ok 400 0 (Int.le_refl _) c
    omega
  · rw [if_neg c] at h
    exact absurd h c
def takeF (s : ByteArray) : ByteArray × ByteArray × Int :=
  if (scanF s).2.2 ≠ 0 then (⟨#[]⟩, ⟨#[]⟩, (scanF s).2.2) else if (scanF s).1 > 20000 then (⟨#[]⟩, ⟨#[]⟩, 3) else (s.extract 0 (scanF s).1.toNat, s.extract (scanF s).1.toNat s.size, 0)
def term_Take.f (s : ByteArray) : Option (ByteArray × ByteArray × Int) := if s.size < 9223372036854775808 then some (takeF s) else none
theorem term_Take.eq (s : ByteArray) (hs : s.size < 9223372036854775808) : term_Take_p.f s = term_Take.f s := by
  unfold term_Take_p.f term_scan.f term_Take.f takeF
  rw [if_pos hs, if_pos hs]
  simp only [Option.bind_some]
  by_cases c : (scanF s).2.2 = 0
  · have := scanF_end c
    rw [if_pos c, if_neg (show ¬ ((scanF s).2.2 ≠ 0) from fun h => h c)]
    split
    · rfl
    · rw [if_pos (by omega), if_pos (by omega)]
  · rw [if_neg c, if_pos c]
theorem term_Take.calls (a0 : ByteArray) (r1 : ByteArray) (r2 : ByteArray) (r3 : Int) (w : World) (h : term_Take.f a0 = some (r1, r2, r3)) :
    Calls Try.prog 148 #[.string a0] w fun e w' => e = .returned (.tuple #[.string r1, .string r2, .int .i64 r3]) ∧ Below w.heap.size w w' := by
  have hs : a0.size < 9223372036854775808 := by
    unfold term_Take.f at h
    split at h
    · assumption
    · cases h
  exact term_Take_p.calls a0 r1 r2 r3 w ((term_Take.eq a0 hs).trans h)

end Go.Proofs.Ytppimpadfgldjaa.F
namespace Go.Proofs.Ytppimpadfgldjaa.F
open Go.RowKit Go.Proofs.YtppimpadfgldjaaW.PrintWords Go.Proofs.YtppimpadfgldjaaW.PrintLast Go.Proofs.YtppimpadfgldjaaW.PrintMore
attribute [local go_sem] max2_int min2_int max_two min_two max_three min_three max_four min_four
set_option linter.unusedVariables false
set_option linter.unusedSimpArgs false

/-! ### term_Right: function 101 -/
/-! #### term_Right_p: function 101 -/
def term_Right_p.f (a0 : ByteArray) : Option (Bool) := (term_Take.f a0).bind fun bt1001 => (if bt1001.2.2 = 0 then (if bt1001.2.1.toList = ([] : List UInt8) then (some (bt1001.1.toList == a0.toList)) else (some false)) else (some false))
set_option maxHeartbeats 8000000 in
set_option maxRecDepth 100000 in
theorem term_Right_p.calls (a0 : ByteArray) (r : Bool) (w : World) (h : term_Right_p.f a0 = some r) :
    Calls Try.prog 101 #[.string a0] w fun e w' => e = .returned (.bool r) ∧ Below w.heap.size w w' := by
  have HB := Aside0.mk (Below.refl w.heap.size w)
  have H : ((term_Take.f a0).bind fun bt1001 => (if bt1001.2.2 = 0 then (if bt1001.2.1.toList = ([] : List UInt8) then (some (bt1001.1.toList == a0.toList)) else (some false)) else (some false))) = some r := h
  clear h
  replace H := Option.bind_eq_some_iff.mp H
  obtain ⟨⟨t1001, t1002, t1003⟩, A20, H⟩ := H
  replace H : (if t1003 = 0 then (if t1002.toList = ([] : List UInt8) then (some (t1001.toList == a0.toList)) else (some false)) else (some false)) = some r := H
  have A2 := Aside0.mk A20
  clear A20
  by_cases c3 : t1003 = 0
  · rw [if_pos c3] at H
    have c3b0 : (t1003 == 0) = true := beq_iff_eq.mpr c3
    have c3b1 : (t1003 != 0) = false := bne_eq_false_iff_eq.mpr c3
    clear c3
    by_cases c4 : t1002.toList = ([] : List UInt8)
    · rw [if_pos c4] at H
      have c4b0 : (t1002.toList == ([] : List UInt8)) = true := beq_iff_eq.mpr c4
      have c4b1 : (t1002.toList != ([] : List UInt8)) = false := bne_eq_false_iff_eq.mpr c4
      clear c4
      obtain rfl := Option.some.inj H
      go_enter Try.func101, Try.ntmps101
      go_wp2_with (first | ((with_reducible refine gate_callee (f := 148) rfl ?_); refine goesL_ (some 8) rfl rfl Try.func148 (by kernel_rfl) rfl #[.string a0] rfl (by simp only [List.map_toArray, List.map_cons, List.map_nil] <;> rfl) ?_; (with_reducible refine (term_Take.calls a0 t1001 t1002 t1003 _ A2.out).mono ?_); rintro e w5 ⟨rfl, hb⟩; refine ⟨_, rfl, ?_⟩; have n0_ := Aside0.mk (below_step (by repeat with_reducible first | exact HB.out | apply below_alloc | apply pw_below_drewN | apply below_drew1) hb); clear HB; have HB := n0_; clear n0_; (try clear hb)))
      go_ret
      exact ⟨by first | rfl | (simp [errW_none, errW_some] <;> rfl) | (simp [*, errW_none, errW_some] <;> rfl), by repeat (first | (with_reducible first | exact HB.out | apply below_alloc | apply pw_below_drewN | apply below_drew1) | exact HB.out)⟩
    · rw [if_neg c4] at H
      have c4b0 : (t1002.toList == ([] : List UInt8)) = false := beq_eq_false_iff_ne.mpr c4
      have c4b1 : (t1002.toList != ([] : List UInt8)) = true := bne_iff_ne.mpr c4
      obtain rfl := Option.some.inj H
      go_enter Try.func101, Try.ntmps101
      go_wp2_with (first | ((with_reducible refine gate_callee (f := 148) rfl ?_); refine goesL_ (some 8) rfl rfl Try.func148 (by kernel_rfl) rfl #[.string a0] rfl (by simp only [List.map_toArray, List.map_cons, List.map_nil] <;> rfl) ?_; (with_reducible refine (term_Take.calls a0 t1001 t1002 t1003 _ A2.out).mono ?_); rintro e w6 ⟨rfl, hb⟩; refine ⟨_, rfl, ?_⟩; have n0_ := Aside0.mk (below_step (by repeat with_reducible first | exact HB.out | apply below_alloc | apply pw_below_drewN | apply below_drew1) hb); clear HB; have HB := n0_; clear n0_; (try clear hb)))
      go_ret
      exact ⟨by first | rfl | (simp [errW_none, errW_some] <;> rfl) | (simp [*, errW_none, errW_some] <;> rfl), by repeat (first | (with_reducible first | exact HB.out | apply below_alloc | apply pw_below_drewN | apply below_drew1) | exact HB.out)⟩
  · rw [if_neg c3] at H
    have c3b0 : (t1003 == 0) = false := beq_eq_false_iff_ne.mpr c3
    have c3b1 : (t1003 != 0) = true := bne_iff_ne.mpr c3
    obtain rfl := Option.some.inj H
    go_enter Try.func101, Try.ntmps101
    go_wp2_with (first | ((with_reducible refine gate_callee (f := 148) rfl ?_); refine goesL_ (some 8) rfl rfl Try.func148 (by kernel_rfl) rfl #[.string a0] rfl (by simp only [List.map_toArray, List.map_cons, List.map_nil] <;> rfl) ?_; (with_reducible refine (term_Take.calls a0 t1001 t1002 t1003 _ A2.out).mono ?_); rintro e w7 ⟨rfl, hb⟩; refine ⟨_, rfl, ?_⟩; have n0_ := Aside0.mk (below_step (by repeat with_reducible first | exact HB.out | apply below_alloc | apply pw_below_drewN | apply below_drew1) hb); clear HB; have HB := n0_; clear n0_; (try clear hb)))
    go_ret
    exact ⟨by first | rfl | (simp [errW_none, errW_some] <;> rfl) | (simp [*, errW_none, errW_some] <;> rfl), by repeat (first | (with_reducible first | exact HB.out | apply below_alloc | apply pw_below_drewN | apply below_drew1) | exact HB.out)⟩

/-- Is a text a right term, whole? -/
def rightB (s : ByteArray) : Bool := decide ((scanF s).2.2 = 0 ∧ (scanF s).1 = s.size ∧ s.size ≤ 20000)
def term_Right.f (s : ByteArray) : Option Bool := if s.size < 9223372036854775808 then some (rightB s) else none
theorem extract_all (s : ByteArray) : s.extract 0 s.size = s := by
  apply ByteArray.ext
  rw [ByteArray.data_extract]
  simp [← ByteArray.size_data]
theorem extract_nil (s : ByteArray) (e : Nat) : (s.extract e s.size).toList = [] ↔ s.size ≤ e := by
  rw [ByteArray.toList_eq, ByteArray.data_extract]
  constructor
  · intro h
    have := congrArg List.length h
    simp [← ByteArray.size_data] at this
    rw [← ByteArray.size_data]
    omega
  · intro h
    apply List.eq_nil_of_length_eq_zero
    simp [← ByteArray.size_data] at h ⊢
    omega
theorem term_Right.eq (s : ByteArray) (hs : s.size < 9223372036854775808) : term_Right_p.f s = term_Right.f s := by
  unfold term_Right_p.f term_Take.f term_Right.f
  rw [if_pos hs, if_pos hs]
  simp only [Option.bind_some]
  unfold takeF rightB
  by_cases c : (scanF s).2.2 = 0
  · have he := scanF_end c
    rw [if_neg (show ¬ ((scanF s).2.2 ≠ 0) from fun h => h c)]
    by_cases c2 : (scanF s).1 > 20000
    · rw [if_pos c2, if_neg (show ¬ ((3 : Int) = 0) by decide)]
      rw [decide_eq_false (by omega)]
    · rw [if_neg c2, if_pos rfl]
      by_cases c3 : s.size ≤ (scanF s).1.toNat
      · rw [if_pos ((extract_nil s _).mpr c3)]
        have c4 : (scanF s).1.toNat = s.size := by omega
        rw [c4, extract_all, decide_eq_true (by omega)]
        simp
      · rw [if_neg (fun h => c3 ((extract_nil s _).mp h)), decide_eq_false (by omega)]
  · rw [if_pos c, if_neg c, decide_eq_false (fun h => c h.1)]
theorem term_Right.calls (a0 : ByteArray) (r : Bool) (w : World) (h : term_Right.f a0 = some r) :
    Calls Try.prog 101 #[.string a0] w fun e w' => e = .returned (.bool r) ∧ Below w.heap.size w w' := by
  have hs : a0.size < 9223372036854775808 := by
    unfold term_Right.f at h
    split at h
    · assumption
    · cases h
  exact term_Right_p.calls a0 r w ((term_Right.eq a0 hs).trans h)

end Go.Proofs.Ytppimpadfgldjaa.F
namespace Go.Proofs.Ytppimpadfgldjaa.Pure
open Go.RowKit Go.Proofs.Ytppimpadfgldjaa.F Go.Proofs.YtppimpadfgldjaaW.PrintWords Go.Proofs.YtppimpadfgldjaaW.PrintLast

theorem up_le {α : Type} {f : Nat → Option α} (h : ∀ k, LeO (f k) (f (k + 1))) {k k' : Nat} (hk : k ≤ k') {r : α} (e : f k = some r) : f k' = some r := by
  obtain ⟨d, rfl⟩ : ∃ d, k' = k + d := ⟨k' - k, by omega⟩
  clear hk
  induction d with
  | zero => exact e
  | succ d ih => exact h _ r ih

/-! ### Bytes -/
theorem bt_nat (s : ByteArray) (j : Nat) (h : j < s.size) : bt s j = ((s[j]'h).toNat : Int) := by
  unfold bt
  rw [dif_pos (by simpa using h)]
  simp
theorem bt_big (s : ByteArray) (j : Nat) (h : s.size ≤ j) : bt s j = 0 := by
  unfold bt
  rw [dif_neg (by simpa using h)]
theorem ext_bt {a b : ByteArray} (hs : a.size = b.size) (h : ∀ j : Nat, j < a.size → bt a j = bt b j) : a = b := by
  apply ByteArray.ext
  apply Array.ext
  · exact hs
  · intro i h1 h2
    have := h i h1
    rw [bt_nat a i h1, bt_nat b i h2] at this
    exact UInt8.toNat_inj.mp (by exact_mod_cast this)
theorem bt_left (a b : ByteArray) (j : Nat) (h : j < a.size) : bt (a ++ b) j = bt a j := by
  have h2 : j < (a ++ b).size := by rw [ByteArray.size_append]; omega
  rw [bt_nat _ _ h2, bt_nat _ _ h]
  congr 2
  exact ByteArray.getElem_append_left h
theorem bt_right (a b : ByteArray) (j : Nat) (h : j < b.size) : bt (a ++ b) ((a.size + j : Nat) : Int) = bt b j := by
  have h2 : a.size + j < (a ++ b).size := by rw [ByteArray.size_append]; omega
  rw [bt_nat _ _ h2, bt_nat _ _ h]
  congr 2
  rw [ByteArray.getElem_append_right (by omega)]
  congr 1
  omega
theorem bt_extract (s : ByteArray) (i e j : Nat) (h : i + j < e) (h2 : e ≤ s.size) : bt (s.extract i e) j = bt s ((i + j : Nat) : Int) := by
  have h3 : j < (s.extract i e).size := by rw [ByteArray.size_extract]; omega
  rw [bt_nat _ _ h3, bt_nat _ _ (show i + j < s.size by omega), ByteArray.getElem_extract]

/-! ### A text lies in another one -/
structure Lies (s t : ByteArray) (a : Nat) : Prop where
  size : a + t.size ≤ s.size
  at_ : ∀ j : Nat, j < t.size → bt s ((a + j : Nat) : Int) = bt t j
theorem Lies.refl (s : ByteArray) : Lies s s 0 := ⟨by omega, fun j _ => by rw [Nat.zero_add]⟩
theorem Lies.mid (a b c : ByteArray) : Lies (a ++ b ++ c) b a.size := by
  refine ⟨by rw [ByteArray.size_append, ByteArray.size_append]; omega, fun j hj => ?_⟩
  rw [bt_left _ _ _ (by rw [ByteArray.size_append]; omega), bt_right _ _ _ hj]
theorem Lies.last (a b : ByteArray) : Lies (a ++ b) b a.size := ⟨by rw [ByteArray.size_append]; omega, fun j hj => bt_right _ _ _ hj⟩
theorem Lies.first (a b : ByteArray) : Lies (a ++ b) a 0 := ⟨by rw [ByteArray.size_append]; omega, fun j hj => by rw [Nat.zero_add]; exact bt_left _ _ _ hj⟩
theorem Lies.trans {s t u : ByteArray} {a b : Nat} (h : Lies s t a) (k : Lies t u b) : Lies s u (a + b) :=
  ⟨by have := h.size; have := k.size; omega, fun j hj => by have := k.size; rw [Nat.add_assoc, h.at_ _ (by omega), k.at_ j hj]⟩
theorem Lies.extract {s t : ByteArray} {a : Nat} (h : Lies s t a) (i e : Nat) (he : e ≤ t.size) : s.extract (a + i) (a + e) = t.extract i e := by
  have hz := h.size
  have e1 : (s.extract (a + i) (a + e)).size = (t.extract i e).size := by rw [ByteArray.size_extract, ByteArray.size_extract]; omega
  refine ext_bt e1 fun j hj => ?_
  rw [ByteArray.size_extract] at hj
  rw [bt_extract _ _ _ _ (by omega) (by omega), bt_extract _ _ _ _ (by omega) he, Nat.add_assoc, h.at_ _ (by omega)]
theorem Lies.whole {s t : ByteArray} {a : Nat} (h : Lies s t a) : s.extract a (a + t.size) = t := by
  have := h.extract 0 t.size (Nat.le_refl _)
  rw [Nat.add_zero, extract_all] at this
  exact this
theorem lies_extract (s : ByteArray) (i e : Nat) (h : i ≤ e) (he : e ≤ s.size) : Lies s (s.extract i e) i := by
  refine ⟨by rw [ByteArray.size_extract]; omega, fun j hj => ?_⟩
  rw [ByteArray.size_extract] at hj
  rw [bt_extract _ _ _ _ (by omega) he]

/-! ### A place's leaf, and what begins there: in s as in what lies in it -/
theorem leaf_lies {s t : ByteArray} {a : Nat} (h : Lies s t a) (i : Nat) (hi : i < t.size) (hl : leafF (t.extract i t.size) ≠ 0) : leafF (s.extract (a + i) s.size) = leafF (t.extract i t.size) := by
  have hz := h.size
  have hb : ∀ j : Nat, i + j < t.size → bt (s.extract (a + i) s.size) (j : Int) = bt (t.extract i t.size) (j : Int) := by
    intro j hj
    rw [bt_extract _ _ _ _ (by omega) (Nat.le_refl _), bt_extract _ _ _ _ (by omega) (Nat.le_refl _), Nat.add_assoc, h.at_ _ hj]
  have b0 := hb 0 (by omega)
  have b1 : 1 < (t.extract i t.size).size → _ := fun q => hb 1 (by rw [ByteArray.size_extract] at q; omega)
  have b2 : 2 < (t.extract i t.size).size → bt (s.extract (a + i) s.size) 2 = bt (t.extract i t.size) 2 := fun q => hb 2 (by rw [ByteArray.size_extract] at q; omega)
  have z1 : (t.extract i t.size).size = t.size - i := by rw [ByteArray.size_extract]; omega
  have z2 : (s.extract (a + i) s.size).size = s.size - (a + i) := by rw [ByteArray.size_extract]; omega
  simp only [Int.natCast_zero, Int.natCast_one] at b0 b1 b2
  unfold leafF at hl ⊢
  rw [b0]
  rw [z1] at hl b1 b2 ⊢
  rw [z2]
  by_cases k1 : bt (t.extract i t.size) 0 = 103
  · rw [if_pos k1, if_pos k1]
  rw [if_neg k1] at hl ⊢; rw [if_neg k1]
  by_cases k2 : bt (t.extract i t.size) 0 = 110 ∨ bt (t.extract i t.size) 0 = 117
  · rw [if_pos k2] at hl ⊢; rw [if_pos k2]
    by_cases c : 9 ≤ t.size - i
    · rw [if_pos c, if_pos (by omega)]
    · rw [if_neg c] at hl; exact absurd rfl hl
  rw [if_neg k2] at hl ⊢; rw [if_neg k2]
  by_cases k3 : bt (t.extract i t.size) 0 = 105
  · rw [if_pos k3] at hl ⊢; rw [if_pos k3]
    by_cases c : 1 < t.size - i ∧ 1 ≤ bt (t.extract i t.size) 1 ∧ bt (t.extract i t.size) 1 ≤ 8
    · rw [if_pos c, if_pos (by rw [b1 c.1]; omega)]
    · rw [if_neg c] at hl; exact absurd rfl hl
  rw [if_neg k3] at hl ⊢; rw [if_neg k3]
  by_cases k4 : bt (t.extract i t.size) 0 = 116
  · rw [if_pos k4] at hl ⊢; rw [if_pos k4]
    by_cases c : 3 ≤ t.size - i ∧ bt (t.extract i t.size) 1 = 0 ∧ bt (t.extract i t.size) 2 ≤ 100 ∧ 3 + bt (t.extract i t.size) 2 ≤ ((t.size - i : Nat) : Int)
    · rw [if_pos c, b1 (by omega), b2 (by omega), if_pos (by omega)]
    · rw [if_neg c] at hl; exact absurd rfl hl
  rw [if_neg k4] at hl
  exact absurd rfl hl
theorem leaf_first {s : ByteArray} {i : Nat} (hi : i < s.size) (h : leafF (s.extract i s.size) ≠ 0) : bt s i = 103 ∨ bt s i = 110 ∨ bt s i = 117 ∨ bt s i = 105 ∨ bt s i = 116 := by
  have b0 := bt_extract s i s.size 0 (by omega) (Nat.le_refl _)
  simp only [Int.natCast_zero, Nat.add_zero] at b0
  unfold leafF at h
  rw [b0] at h
  repeat' split at h
  all_goals first | omega | (exact absurd rfl h)
theorem begin_first {s : ByteArray} {i : Int} (h : (beginF s i).2.2.2.2.2.2 = true) : bt s i = 107 ∨ bt s i = 104 ∨ bt s i = 112 ∨ bt s i = 120 ∨ bt s i = 115 ∨ bt s i = 101 := by
  unfold beginF at h
  repeat' split at h
  all_goals first | omega | (exact absurd h (by simp))
theorem leaf_not {s : ByteArray} {i : Nat} (hi : i < s.size) (h : (beginF s i).2.2.2.2.2.2 = true) : leafF (s.extract i s.size) = 0 := by
  have h1 := begin_first h
  by_cases c : leafF (s.extract i s.size) = 0
  · exact c
  · have h2 := leaf_first hi c
    omega
theorem begin_lies {s t : ByteArray} {a : Nat} (h : Lies s t a) (i : Nat) (hi : i < t.size) (hb : (beginF t i).2.2.2.2.2.2 = true) :
    beginF s ((a + i : Nat) : Int) = ((beginF t i).1, (beginF t i).2.1, (beginF t i).2.2.1, a + (beginF t i).2.2.2.1, (beginF t i).2.2.2.2.1, a + (beginF t i).2.2.2.2.2.1, true) := by
  have hz := h.size
  have b0 := h.at_ i hi
  have e1 : ((a + i : Nat) : Int) + 1 = ((a + (i + 1) : Nat) : Int) := by omega
  have e1t : (i : Int) + 1 = ((i + 1 : Nat) : Int) := by omega
  have b1 : i + 1 < t.size → bt s (((a + i : Nat) : Int) + 1) = bt t ((i : Int) + 1) := fun q => by rw [e1, e1t]; exact h.at_ (i + 1) q
  unfold beginF at hb ⊢
  rw [b0]
  by_cases k1 : bt t i = 107
  · rw [if_pos k1] at hb ⊢; rw [if_pos k1]
    by_cases c : (i : Int) + 1 < (t.size : Int) ∧ (bt t ((i : Int) + 1) = 103 ∨ bt t ((i : Int) + 1) = 101)
    · rw [if_pos c, if_pos (by rw [b1 (by omega)]; exact ⟨by omega, c.2⟩)]
      simp only [Prod.mk.injEq, true_and, and_true]; omega
    · rw [if_neg c] at hb; exact absurd hb (by simp)
  rw [if_neg k1] at hb ⊢; rw [if_neg k1]
  by_cases k2 : bt t i = 104
  · rw [if_pos k2] at hb ⊢; rw [if_pos k2]; simp only [Prod.mk.injEq, true_and, and_true]; omega
  rw [if_neg k2] at hb ⊢; rw [if_neg k2]
  by_cases k3 : bt t i = 112 ∨ bt t i = 120
  · rw [if_pos k3] at hb ⊢; rw [if_pos k3]; simp only [Prod.mk.injEq, true_and, and_true]; omega
  rw [if_neg k3] at hb ⊢; rw [if_neg k3]
  by_cases k4 : bt t i = 115
  · rw [if_pos k4] at hb ⊢; rw [if_pos k4]; simp only [Prod.mk.injEq, true_and, and_true]; omega
  rw [if_neg k4] at hb ⊢; rw [if_neg k4]
  by_cases k5 : bt t i = 101
  · rw [if_pos k5] at hb ⊢; rw [if_pos k5]
    by_cases c : (i : Int) + 1 < (t.size : Int) ∧ 1 ≤ bt t ((i : Int) + 1) ∧ bt t ((i : Int) + 1) ≤ 32
    · rw [if_pos c, if_pos (by rw [b1 (by omega)]; exact ⟨by omega, c.2⟩), b1 (by omega)]
      simp only [Prod.mk.injEq, true_and, and_true]; omega
    · rw [if_neg c] at hb; exact absurd hb (by simp)
  rw [if_neg k5] at hb
  exact absurd hb (by simp)

/-! ### Where a term ends: in s as in what lies in it -/
theorem parts_lies {s t : ByteArray} {a : Nat} (h : Lies s t a) (pow : Bool) (p q : Int → Int × Int × Int)
    (hq : ∀ i : Int, 0 ≤ i → (q i).2.2 = 0 → i < (q i).1 ∧ (q i).1 ≤ t.size ∧ p (a + i) = (a + (q i).1, (q i).2.1, 0)) :
    ∀ (m : Nat) (i dep : Int) (last : ByteArray), 0 ≤ i → (partsF t q pow m i dep last).2.2 = 0 → partsF s p pow m (a + i) dep last = (a + (partsF t q pow m i dep last).1, (partsF t q pow m i dep last).2.1, 0)
  | 0, i, dep, last, _, _ => rfl
  | m + 1, i, dep, last, hi, hg => by
    simp only [partsF] at hg ⊢
    by_cases c1 : (q i).2.2 ≠ 0
    · rw [if_pos c1] at hg; exact absurd hg c1
    have c1' : (q i).2.2 = 0 := by simpa using c1
    obtain ⟨h1, h2, h3⟩ := hq i hi c1'
    have he : s.extract ((a : Int) + i).toNat ((a : Int) + (q i).1).toNat = t.extract i.toNat (q i).1.toNat := by
      rw [show ((a : Int) + i).toNat = a + i.toNat by omega, show ((a : Int) + (q i).1).toNat = a + (q i).1.toNat by omega]
      exact h.extract _ _ (by omega)
    rw [if_neg c1] at hg ⊢
    rw [h3]
    simp only [ne_eq, not_true_eq_false, if_false]
    rw [he]
    by_cases c2 : pow = true ∧ Op.bytesLess (t.extract i.toNat (q i).1.toNat).toList last.toList = true
    · rw [if_pos c2] at hg; exact absurd hg (by simp)
    · rw [if_neg c2] at hg ⊢
      rw [if_neg c2]
      exact parts_lies h pow p q hq m (q i).1 _ _ (by omega) hg
theorem end_lies {s t : ByteArray} {a : Nat} (h : Lies s t a) : ∀ (d : Nat) (i : Int), 0 ≤ i → (endF t d i).2.2 = 0 → endF s d (a + i) = (a + (endF t d i).1, (endF t d i).2.1, 0)
  | 0, i, _, hg => by simp [endF] at hg
  | d + 1, i, hi, hg => by
    have hz := h.size
    obtain ⟨n, rfl⟩ : ∃ n : Nat, i = n := ⟨i.toNat, by omega⟩
    simp only [endF] at hg ⊢
    by_cases c1 : (t.size : Int) ≤ (n : Int)
    · rw [if_pos c1] at hg; exact absurd hg (by simp)
    rw [if_neg c1] at hg ⊢
    rw [if_neg (show ¬ ((s.size : Int) ≤ (a : Int) + (n : Int)) by omega)]
    rw [show ((n : Int)).toNat = n by omega] at hg ⊢
    rw [show ((a : Int) + (n : Int)).toNat = a + n by omega]
    have hn : n < t.size := by omega
    by_cases c2 : leafF (t.extract n t.size) ≠ 0
    · rw [if_pos c2] at hg ⊢
      rw [leaf_lies h n hn c2, if_pos c2]
      simp only [Prod.mk.injEq, and_true]; omega
    rw [if_neg c2] at hg ⊢
    by_cases c3 : (beginF t n).2.2.2.2.2.2 = true
    · rw [if_pos c3] at hg ⊢
      have hb := begin_lies h n hn c3
      rw [show ((a + n : Nat) : Int) = (a : Int) + (n : Int) by omega] at hb
      have hl := leaf_not (s := s) (i := a + n) (by omega) (by rw [show ((a + n : Nat) : Int) = (a : Int) + (n : Int) by omega, hb])
      rw [if_neg (show ¬ (leafF (s.extract (a + n) s.size) ≠ 0) from fun q => q hl), hb]
      simp only [if_true]
      have h4 := beginF_ok (s := t) (at_ := (n : Int)) (by omega) (by omega) (b1 := (beginF t n).1) (b2 := (beginF t n).2.1) (b3 := (beginF t n).2.2.1) (b4 := (beginF t n).2.2.2.1) (b5 := (beginF t n).2.2.2.2.1) (b6 := (beginF t n).2.2.2.2.2.1) (by rw [← c3])
      exact parts_lies h _ (endF s d) (endF t d) (fun i hi hq => ⟨(endF_ok d i hi hq).1, (endF_ok d i hi hq).2.1, end_lies h d i hi hq⟩) _ _ _ _ (by omega) hg
    · rw [if_neg c3] at hg; exact absurd hg (by simp)

/-! ### More room, or less, than a term needs -/
theorem le_mx (x y : Int) : x ≤ (if x < y then y else x) ∧ y ≤ (if x < y then y else x) := by split <;> omega
theorem parts_dep {s : ByteArray} {p : Int → Int × Int × Int} {pow : Bool} : ∀ (m : Nat) (i dep : Int) (last : ByteArray), (partsF s p pow m i dep last).2.2 = 0 → dep + 1 ≤ (partsF s p pow m i dep last).2.1
  | 0, _, _, _, _ => Int.le_refl _
  | m + 1, i, dep, last, hg => by
    simp only [partsF] at hg ⊢
    split at hg
    · exact absurd hg ‹_›
    rename_i c1
    rw [if_neg c1]
    split at hg
    · exact absurd hg (by simp)
    rename_i c2
    rw [if_neg c2]
    have := parts_dep m _ _ _ hg
    have := le_mx dep (p i).2.1
    omega
theorem parts_room {s : ByteArray} {p q : Int → Int × Int × Int} {pow : Bool} {e : Int} (hp : ∀ i : Int, 0 ≤ i → (p i).2.2 = 0 → i < (p i).1) (hq : ∀ i : Int, 0 ≤ i → (p i).2.2 = 0 → (p i).2.1 ≤ e → q i = p i) :
    ∀ (m : Nat) (i dep : Int) (last : ByteArray), 0 ≤ i → (partsF s p pow m i dep last).2.2 = 0 → (partsF s p pow m i dep last).2.1 ≤ e + 1 → partsF s q pow m i dep last = partsF s p pow m i dep last
  | 0, _, _, _, _, _, _ => rfl
  | m + 1, i, dep, last, hi, hg, hd => by
    simp only [partsF] at hg hd ⊢
    by_cases c1 : (p i).2.2 ≠ 0
    · rw [if_pos c1] at hg; exact absurd hg c1
    have c1' : (p i).2.2 = 0 := by simpa using c1
    rw [if_neg c1] at hg hd ⊢
    by_cases c2 : pow = true ∧ Op.bytesLess (s.extract i.toNat (p i).1.toNat).toList last.toList = true
    · rw [if_pos c2] at hg; exact absurd hg (by simp)
    rw [if_neg c2] at hg hd ⊢
    have h2 := parts_dep m _ _ _ hg
    have h3 := hp i hi c1'
    have h4 := le_mx dep (p i).2.1
    rw [hq i hi c1' (by omega), if_neg c1, if_neg c2]
    exact parts_room hp hq m _ _ _ (by omega) hg hd
theorem end_room {s : ByteArray} : ∀ (D d : Nat) (i : Int), 0 ≤ i → (endF s D i).2.2 = 0 → (endF s D i).2.1 ≤ d → endF s d i = endF s D i
  | 0, _, _, _, hg, _ => by simp [endF] at hg
  | D + 1, 0, i, hi, hg, hd => by
    have := endF_ok (D + 1) i hi hg
    omega
  | D + 1, d + 1, i, hi, hg, hd => by
    simp only [endF] at hg hd ⊢
    by_cases c1 : (s.size : Int) ≤ i
    · rw [if_pos c1, if_pos c1]
    rw [if_neg c1] at hg hd ⊢; rw [if_neg c1]
    by_cases c2 : leafF (s.extract i.toNat s.size) ≠ 0
    · rw [if_pos c2, if_pos c2]
    rw [if_neg c2] at hg hd ⊢; rw [if_neg c2]
    by_cases c3 : (beginF s i).2.2.2.2.2.2 = true
    · rw [if_pos c3] at hg hd ⊢; rw [if_pos c3]
      have h4 := beginF_ok (s := s) (at_ := i) hi (by omega) (b1 := (beginF s i).1) (b2 := (beginF s i).2.1) (b3 := (beginF s i).2.2.1) (b4 := (beginF s i).2.2.2.1) (b5 := (beginF s i).2.2.2.2.1) (b6 := (beginF s i).2.2.2.2.2.1) (by rw [← c3])
      exact parts_room (e := d) (fun i hi hq => (endF_ok D i hi hq).1) (fun j hj hq hr => end_room D d j hj hq hr) _ _ _ _ (by omega) hg hd
    · rw [if_neg c3, if_neg c3]

/-! ### Terms -/
def depF (t : ByteArray) : Int := (endF t 400 0).2.1
/-- A text is a term, whole, no deeper than 400. -/
def Tm (t : ByteArray) : Prop := (endF t 400 0).2.2 = 0 ∧ (endF t 400 0).1 = t.size
theorem Tm.end_ {t : ByteArray} (h : Tm t) : endF t 400 0 = ((t.size : Int), depF t, 0) := Prod.ext h.2 (Prod.ext rfl h.1)
theorem Tm.of {t : ByteArray} {d : Nat} {e : Int} (hd : d ≤ 400) (h : endF t d 0 = ((t.size : Int), e, 0)) : Tm t ∧ depF t = e := by
  have h1 := endF_ok d 0 (Int.le_refl _) (s := t) (by rw [h])
  rw [h] at h1
  have h2 := end_room d 400 0 (Int.le_refl _) (s := t) (by rw [h]) (by rw [h]; omega)
  rw [h] at h2
  refine ⟨⟨by rw [h2], by rw [h2]⟩, by rw [depF, h2]⟩
theorem Tm.dep {t : ByteArray} (h : Tm t) : 1 ≤ depF t ∧ depF t ≤ 400 := by
  have := endF_ok 400 0 (Int.le_refl _) h.1
  exact ⟨this.2.2.1, this.2.2.2⟩
theorem Tm.pos {t : ByteArray} (h : Tm t) : 0 < t.size := by
  have := endF_ok 400 0 (Int.le_refl _) h.1
  have := h.2
  omega
theorem right_iff (t : ByteArray) : rightB t = true ↔ Tm t ∧ t.size ≤ 20000 := by
  unfold rightB scanF Tm
  rw [decide_eq_true_eq]
  by_cases c : (endF t 400 0).2.2 = 0
  · rw [if_pos c]
    exact ⟨fun h => ⟨⟨h.1, h.2.1⟩, h.2.2⟩, fun h => ⟨h.1.1, h.1.2, h.2⟩⟩
  · rw [if_neg c]
    exact ⟨fun h => absurd h.1 c, fun h => absurd h.1.1 c⟩
/-- A term that lies in a text, read there, with room enough. -/
theorem Tm.at_ {s t : ByteArray} {a : Nat} (h : Lies s t a) (ht : Tm t) (d : Nat) (hd : depF t ≤ d) : endF s d a = ((a + t.size : Int), depF t, 0) := by
  have h1 : endF t d 0 = ((t.size : Int), depF t, 0) := by
    rw [← ht.end_]
    exact end_room 400 d 0 (Int.le_refl _) ht.1 (by rw [ht.end_]; exact hd)
  have h2 := end_lies h d 0 (Int.le_refl _) (by rw [h1])
  rw [h1, Int.add_zero] at h2
  exact h2
def mx (a b : Int) : Int := if a < b then b else a
/-- Parts that stand one behind the other. -/
def cat : List ByteArray → ByteArray
  | [] => ⟨#[]⟩
  | t :: ts => t ++ cat ts
/-- No part is less than the one ahead of it. -/
def Rises : ByteArray → List ByteArray → Prop
  | _, [] => True
  | a, t :: ts => Op.bytesLess t.toList a.toList = false ∧ Rises t ts
theorem parts_cat {s : ByteArray} {d : Nat} {pow : Bool} : ∀ (ts : List ByteArray) (a : Nat) (dep : Int) (last : ByteArray), Lies s (cat ts) a → (∀ t ∈ ts, Tm t ∧ depF t ≤ d) → (pow = true → Rises last ts) →
    partsF s (endF s d) pow ts.length a dep last = ((a + (cat ts).size : Int), ts.foldl (fun x t => mx x (depF t)) dep + 1, 0)
  | [], a, dep, last, _, _, _ => by simp [partsF, cat]; rfl
  | t :: ts, a, dep, last, h, ht, hp => by
    have h1 : Lies s t a := by have := h.trans (Lies.first t (cat ts)); rwa [Nat.add_zero] at this
    have h2 : Lies s (cat ts) (a + t.size) := h.trans (Lies.last t (cat ts))
    have h3 := Tm.at_ h1 (ht t List.mem_cons_self).1 d (ht t List.mem_cons_self).2
    rw [List.length_cons, partsF, h3]
    simp only [ne_eq, not_true_eq_false, if_false]
    have h4 : s.extract ((a : Int)).toNat ((a : Int) + (t.size : Int)).toNat = t := by
      rw [show ((a : Int)).toNat = a by omega, show ((a : Int) + (t.size : Int)).toNat = a + t.size by omega]
      exact h1.whole
    rw [h4, if_neg (fun hc => by rw [(hp hc.1).1] at hc; exact absurd hc.2 (by simp))]
    have h5 := parts_cat ts (a + t.size) (mx dep (depF t)) t h2 (fun x hx => ht x (List.mem_cons_of_mem _ hx)) (fun hc => (hp hc).2)
    rw [show ((a : Int) + (t.size : Int)) = ((a + t.size : Nat) : Int) by omega]
    show partsF s (endF s d) pow ts.length ((a + t.size : Nat) : Int) (mx dep (depF t)) t = _
    rw [h5, List.foldl_cons, cat, ByteArray.size_append]
    simp only [Prod.mk.injEq, and_true]
    omega
/-- A term of parts, from its head. -/
theorem Tm.parts {h : ByteArray} {ts : List ByteArray} {pow : Bool} (hb : beginF (h ++ cat ts) 0 = ((ts.length : Int), 0, pow, (h.size : Int), ⟨#[]⟩, (h.size : Int), true)) (ht : ∀ t ∈ ts, Tm t ∧ depF t ≤ 399) (hp : pow = true → Rises ⟨#[]⟩ ts) (h0 : 0 < h.size) :
    Tm (h ++ cat ts) ∧ depF (h ++ cat ts) = ts.foldl (fun x t => mx x (depF t)) 0 + 1 := by
  have hs : 0 < (h ++ cat ts).size := by rw [ByteArray.size_append]; omega
  refine Tm.of (d := 400) (Nat.le_refl _) ?_
  rw [endF, if_neg (by omega)]
  have hl := leaf_not (s := h ++ cat ts) (i := 0) hs (by rw [show ((0 : Nat) : Int) = 0 from rfl, hb])
  rw [show (0 : Int).toNat = 0 from rfl, if_neg (fun q => q hl), hb]
  simp only [if_true]
  rw [Int.toNat_natCast, parts_cat ts h.size 0 ⟨#[]⟩ (Lies.last _ _) ht hp, ByteArray.size_append]
  simp only [Prod.mk.injEq, and_true]
  omega
theorem tm_pair {x y : ByteArray} (hx : Tm x) (hy : Tm y) (dx : depF x ≤ 399) (dy : depF y ≤ 399) : Tm ((⟨#[112]⟩ : ByteArray) ++ x ++ y) ∧ depF ((⟨#[112]⟩ : ByteArray) ++ x ++ y) = mx (depF x) (depF y) + 1 := by
  have e : (⟨#[112]⟩ : ByteArray) ++ x ++ y = (⟨#[112]⟩ : ByteArray) ++ cat [x, y] := by
    apply ByteArray.ext
    simp [cat, ByteArray.data_append]
  have b0 : bt ((⟨#[112]⟩ : ByteArray) ++ cat [x, y]) 0 = 112 := bt_left ⟨#[112]⟩ (cat [x, y]) 0 (by decide)
  have := Tm.parts (h := ⟨#[112]⟩) (ts := [x, y]) (pow := false) (by unfold beginF; rw [b0]; rfl) (by intro t ht; simp at ht; rcases ht with rfl | rfl <;> exact ⟨‹_›, ‹_›⟩) (fun h => by simp at h) (by decide)
  rw [e]
  refine ⟨this.1, this.2.trans ?_⟩
  have h1 := hx.dep
  simp only [List.foldl_cons, List.foldl_nil]
  rw [show mx 0 (depF x) = depF x by unfold mx; rw [if_pos (by omega)]]
/-! ### Numbers -/
theorem tm_num (n : Int) : Tm (numF n) ∧ depF (numF n) = 1 := by
  refine Tm.of (d := 1) (by omega) ?_
  have hz : (numF n).size = 9 := rfl
  have b0 : bt (numF n) 0 = 117 := rfl
  rw [endF, if_neg (by omega), show (0 : Int).toNat = 0 from rfl, extract_all]
  have : leafF (numF n) = 9 := by unfold leafF; rw [b0]; rfl
  rw [this]
  rfl
end Go.Proofs.Ytppimpadfgldjaa.Pure
namespace Go.Proofs.Ytppimpadfgldjaa.Pure
set_option linter.unusedVariables false
set_option linter.unusedSimpArgs false
open Go.RowKit Go.Proofs.Ytppimpadfgldjaa.F Go.Proofs.YtppimpadfgldjaaW.PrintWords Go.Proofs.YtppimpadfgldjaaW.PrintLast

theorem bt_pos (s : ByteArray) (i : Int) : 0 ≤ bt s i ∧ bt s i ≤ 255 := by
  unfold bt
  split
  · rename_i h
    have := (s[i.toNat]'h).toNat_lt
    omega
  · omega
theorem bt_zero {s : ByteArray} {j : Nat} (h : bt s j ≠ 0) : j < s.size := by
  rcases Nat.lt_or_ge j s.size with h1 | h1
  · exact h1
  · exact absurd (bt_big s j h1) h
theorem cat_ext (s : ByteArray) {i j k : Nat} (h : i ≤ j) (h2 : j ≤ k) (hk : k ≤ s.size) : s.extract i j ++ s.extract j k = s.extract i k := by
  have z1 : (s.extract i j).size = j - i := by rw [ByteArray.size_extract]; omega
  have z2 : (s.extract j k).size = k - j := by rw [ByteArray.size_extract]; omega
  refine ext_bt (by rw [ByteArray.size_append, z1, z2, ByteArray.size_extract]; omega) fun m hm => ?_
  rw [ByteArray.size_append, z1, z2] at hm
  rw [bt_extract _ _ _ _ (by omega) hk]
  rcases Nat.lt_or_ge m (j - i) with h3 | h3
  · rw [bt_left _ _ _ (by omega), bt_extract _ _ _ _ (by omega) (by omega)]
  · obtain ⟨q, rfl⟩ : ∃ q, m = j - i + q := ⟨m - (j - i), by omega⟩
    rw [← z1, bt_right _ _ _ (by omega), bt_extract _ _ _ _ (by omega) hk]
    congr 1
    omega
theorem ext_self (s : ByteArray) (i : Nat) : s.extract i i = ⟨#[]⟩ := by
  apply ByteArray.ext
  simp
theorem app_nil (s : ByteArray) : s ++ (⟨#[]⟩ : ByteArray) = s := by
  apply ByteArray.ext
  simp [ByteArray.data_append]
theorem nil_app (s : ByteArray) : (⟨#[]⟩ : ByteArray) ++ s = s := by
  apply ByteArray.ext
  simp [ByteArray.data_append]
theorem app_assoc (a b c : ByteArray) : a ++ b ++ c = a ++ (b ++ c) := by
  apply ByteArray.ext
  simp [ByteArray.data_append]
theorem ext_size (s : ByteArray) {i j : Nat} (h : j ≤ s.size) : (s.extract i j).size = j - i := by rw [ByteArray.size_extract]; omega
theorem leaf_same {u v : ByteArray} (hn : leafF u ≠ 0) (hv : leafF u ≤ v.size) (hb : ∀ j : Nat, j < v.size → bt v j = bt u j) : leafF v = leafF u := by
  have b0 : 0 < v.size → bt v 0 = bt u 0 := fun q => hb 0 q
  have b1 : 1 < v.size → bt v 1 = bt u 1 := fun q => hb 1 q
  have b2 : 2 < v.size → bt v 2 = bt u 2 := fun q => hb 2 q
  have p2 := bt_pos u 2
  clear hb
  unfold leafF at hn hv ⊢
  by_cases k1 : bt u 0 = 103
  · rw [if_pos k1] at hv ⊢
    rw [if_pos (by rw [b0 (by omega)]; exact k1)]
  rw [if_neg k1] at hn hv ⊢
  by_cases k2 : bt u 0 = 110 ∨ bt u 0 = 117
  · rw [if_pos k2] at hn hv ⊢
    by_cases c : 9 ≤ u.size
    · rw [if_pos c] at hv ⊢
      have e := b0 (by omega)
      rw [if_neg (by omega), if_pos (by omega), if_pos (by omega)]
    · rw [if_neg c] at hn; exact absurd rfl hn
  rw [if_neg k2] at hn hv ⊢
  by_cases k3 : bt u 0 = 105
  · rw [if_pos k3] at hn hv ⊢
    by_cases c : 1 < u.size ∧ 1 ≤ bt u 1 ∧ bt u 1 ≤ 8
    · rw [if_pos c] at hv ⊢
      have e := b0 (by omega)
      have e1 := b1 (by omega)
      rw [if_neg (by omega), if_neg (by omega), if_pos (by omega), if_pos (by omega)]
    · rw [if_neg c] at hn; exact absurd rfl hn
  rw [if_neg k3] at hn hv ⊢
  by_cases k4 : bt u 0 = 116
  · rw [if_pos k4] at hn hv ⊢
    by_cases c : 3 ≤ u.size ∧ bt u 1 = 0 ∧ bt u 2 ≤ 100 ∧ 3 + bt u 2 ≤ u.size
    · rw [if_pos c] at hv ⊢
      have e := b0 (by omega)
      have e1 := b1 (by omega)
      have e2 := b2 (by omega)
      rw [if_neg (by omega), if_neg (by omega), if_neg (by omega), if_pos (by omega), if_pos (by omega), e2]
    · rw [if_neg c] at hn; exact absurd rfl hn
  rw [if_neg k4] at hn
  exact absurd rfl hn
/-- A leaf's bytes, cut short, are no leaf. -/
theorem leaf_cut {u v : ByteArray} (hn : leafF u ≠ 0) (h0 : 0 < v.size) (hv : (v.size : Int) < leafF u) (hb : ∀ j : Nat, j < v.size → bt v j = bt u j) : leafF v = 0 := by
  have b0 : bt v 0 = bt u 0 := hb 0 h0
  have b1 : 1 < v.size → bt v 1 = bt u 1 := fun q => hb 1 q
  have b2 : 2 < v.size → bt v 2 = bt u 2 := fun q => hb 2 q
  have p2 := bt_pos u 2
  clear hb
  unfold leafF at hn hv ⊢
  by_cases k1 : bt u 0 = 103
  · rw [if_pos k1] at hv; omega
  rw [if_neg k1] at hn hv
  rw [if_neg (by omega)]
  by_cases k2 : bt u 0 = 110 ∨ bt u 0 = 117
  · rw [if_pos k2] at hn hv
    rw [if_pos (by omega)]
    by_cases c : 9 ≤ u.size
    · rw [if_pos c] at hv; rw [if_neg (by omega)]
    · rw [if_neg c] at hn; exact absurd rfl hn
  rw [if_neg k2] at hn hv
  rw [if_neg (by omega)]
  by_cases k3 : bt u 0 = 105
  · rw [if_pos k3] at hn hv
    rw [if_pos (by omega)]
    by_cases c : 1 < u.size ∧ 1 ≤ bt u 1 ∧ bt u 1 ≤ 8
    · rw [if_pos c] at hv; rw [if_neg (by omega)]
    · rw [if_neg c] at hn; exact absurd rfl hn
  rw [if_neg k3] at hn hv
  rw [if_neg (by omega)]
  by_cases k4 : bt u 0 = 116
  · rw [if_pos k4] at hn hv
    rw [if_pos (by omega)]
    by_cases c : 3 ≤ u.size ∧ bt u 1 = 0 ∧ bt u 2 ≤ 100 ∧ 3 + bt u 2 ≤ u.size
    · rw [if_pos c] at hv
      rw [if_neg]
      intro hc
      have e2 := b2 (by omega)
      omega
    · rw [if_neg c] at hn; exact absurd rfl hn
  rw [if_neg k4] at hn
  exact absurd rfl hn

/-! ### How a term that has parts begins -/
inductive HeadOf : ByteArray → List ByteArray → Bool → Prop
  | key (x : ByteArray) (h : bt x 0 = 103 ∨ bt x 0 = 101) : HeadOf ⟨#[107]⟩ [x] false
  | hash (x : ByteArray) : HeadOf ⟨#[104]⟩ [x] false
  | pair (x y : ByteArray) : HeadOf ⟨#[112]⟩ [x, y] false
  | sign (x y : ByteArray) : HeadOf ⟨#[120]⟩ [x, y] false
  | sealed (x y z : ByteArray) : HeadOf ⟨#[115]⟩ [x, y, z] false
  | pow (ts : List ByteArray) (h1 : 1 ≤ ts.length) (h2 : ts.length ≤ 32) : HeadOf ⟨#[101, UInt8.ofNat ts.length]⟩ ts true
theorem HeadOf.begin {h : ByteArray} {ts : List ByteArray} {pow : Bool} (hh : HeadOf h ts pow) (hp : ∀ t ∈ ts, 0 < t.size) :
    beginF (h ++ cat ts) 0 = ((ts.length : Int), 0, pow, (h.size : Int), ⟨#[]⟩, (h.size : Int), true) := by
  cases hh with
  | key x hx =>
    have hs := hp x List.mem_cons_self
    have b0 : bt ((⟨#[107]⟩ : ByteArray) ++ cat [x]) 0 = 107 := bt_left ⟨#[107]⟩ (cat [x]) 0 (by decide)
    have b1 : bt ((⟨#[107]⟩ : ByteArray) ++ cat [x]) 1 = bt x 0 := by
      have h1 := bt_right ⟨#[107]⟩ (cat [x]) 0 (by show 0 < (x ++ cat []).size; rw [ByteArray.size_append]; omega)
      have h2 : bt (cat [x]) 0 = bt x 0 := bt_left x (cat []) 0 hs
      exact h1.trans h2
    have hz : ((⟨#[107]⟩ : ByteArray) ++ cat [x]).size = 1 + x.size := by rw [ByteArray.size_append]; show 1 + (x ++ cat []).size = _; rw [ByteArray.size_append]; rfl
    unfold beginF
    rw [b0, if_pos rfl, if_pos (by rw [show (0 : Int) + 1 = 1 from rfl, b1, hz]; exact ⟨by omega, hx⟩)]
    rfl
  | hash x =>
    have b0 : bt ((⟨#[104]⟩ : ByteArray) ++ cat [x]) 0 = 104 := bt_left ⟨#[104]⟩ (cat [x]) 0 (by decide)
    unfold beginF; rw [b0]; rfl
  | pair x y =>
    have b0 : bt ((⟨#[112]⟩ : ByteArray) ++ cat [x, y]) 0 = 112 := bt_left ⟨#[112]⟩ (cat [x, y]) 0 (by decide)
    unfold beginF; rw [b0]; rfl
  | sign x y =>
    have b0 : bt ((⟨#[120]⟩ : ByteArray) ++ cat [x, y]) 0 = 120 := bt_left ⟨#[120]⟩ (cat [x, y]) 0 (by decide)
    unfold beginF; rw [b0]; rfl
  | sealed x y z =>
    have b0 : bt ((⟨#[115]⟩ : ByteArray) ++ cat [x, y, z]) 0 = 115 := bt_left ⟨#[115]⟩ (cat [x, y, z]) 0 (by decide)
    unfold beginF; rw [b0]; rfl
  | pow ts h1 h2 =>
    have b0 : bt ((⟨#[101, UInt8.ofNat ts.length]⟩ : ByteArray) ++ cat ts) 0 = 101 := bt_left ⟨#[101, UInt8.ofNat ts.length]⟩ (cat ts) 0 (by show 0 < 2; omega)
    have b1 : bt ((⟨#[101, UInt8.ofNat ts.length]⟩ : ByteArray) ++ cat ts) 1 = ts.length := by
      have h3 := bt_left ⟨#[101, UInt8.ofNat ts.length]⟩ (cat ts) 1 (by show 1 < 2; omega)
      have h4 : bt (⟨#[101, UInt8.ofNat ts.length]⟩ : ByteArray) ((1 : Nat) : Int) = ((UInt8.ofNat ts.length).toNat : Int) := rfl
      rw [h4, UInt8.toNat_ofNat_of_lt' (by show ts.length < 256; omega)] at h3
      exact h3
    have hz : 2 ≤ ((⟨#[101, UInt8.ofNat ts.length]⟩ : ByteArray) ++ cat ts).size := by rw [ByteArray.size_append]; show 2 ≤ 2 + _; omega
    unfold beginF
    rw [b0]
    simp only [show ¬ ((101 : Int) = 107) from by decide, show ¬ ((101 : Int) = 104) from by decide, show ¬ ((101 : Int) = 112 ∨ (101 : Int) = 120) from by decide, show ¬ ((101 : Int) = 115) from by decide, if_false, if_true]
    rw [show (0 : Int) + 1 = 1 from rfl, b1, if_pos ⟨by omega, by omega, by omega⟩]
    rfl
theorem HeadOf.size {h : ByteArray} {ts : List ByteArray} {pow : Bool} (hh : HeadOf h ts pow) : h.size = (if pow then 2 else 1) := by cases hh <;> rfl
theorem HeadOf.pos {h : ByteArray} {ts : List ByteArray} {pow : Bool} (hh : HeadOf h ts pow) : 0 < h.size := by rw [hh.size]; split <;> omega
/-- The deepest of terms, and 'dep' at least. -/
def deepest (dep : Int) (ts : List ByteArray) : Int := ts.foldl (fun x t => mx x (depF t)) dep
/-- A term that is put together: its head, its parts. -/
structure Node (t h : ByteArray) (ts : List ByteArray) (pow : Bool) : Prop where
  eq : t = h ++ cat ts
  head : HeadOf h ts pow
  parts : ∀ x ∈ ts, Tm x ∧ depF x ≤ 399
  rises : pow = true → Rises ⟨#[]⟩ ts
theorem Node.tm {t h : ByteArray} {ts : List ByteArray} {pow : Bool} (n : Node t h ts pow) : Tm t ∧ depF t = deepest 0 ts + 1 := by
  have := Tm.parts (n.head.begin fun x hx => (n.parts x hx).1.pos) n.parts n.rises n.head.pos
  rw [← n.eq] at this
  exact this
/-- A leaf: all its bytes. -/
def Leaf (t : ByteArray) : Prop := leafF t ≠ 0 ∧ leafF t = t.size
theorem leaf_zero : leafF ⟨#[]⟩ = 0 := by unfold leafF; rfl
theorem Leaf.pos {t : ByteArray} (h : Leaf t) : 0 < t.size := by
  rcases Nat.eq_zero_or_pos t.size with h1 | h1
  · have := h.2; rw [h1] at this; exact absurd this h.1
  · exact h1
theorem Leaf.tm {t : ByteArray} (h : Leaf t) : Tm t ∧ depF t = 1 := by
  refine Tm.of (d := 1) (by omega) ?_
  have := h.pos
  rw [endF, if_neg (by omega), show (0 : Int).toNat = 0 from rfl, extract_all, if_pos h.1, h.2]
  simp
theorem parts_sound {s : ByteArray} {d : Nat} {pow : Bool}
    (hd : ∀ i : Int, 0 ≤ i → (endF s d i).2.2 = 0 → Tm (s.extract i.toNat (endF s d i).1.toNat) ∧ depF (s.extract i.toNat (endF s d i).1.toNat) = (endF s d i).2.1) :
    ∀ (m : Nat) (i dep : Int) (last : ByteArray), 0 ≤ i → i ≤ s.size → (partsF s (endF s d) pow m i dep last).2.2 = 0 →
      ∃ ts : List ByteArray, ts.length = m ∧ s.extract i.toNat (partsF s (endF s d) pow m i dep last).1.toNat = cat ts ∧ (∀ t ∈ ts, Tm t ∧ depF t ≤ d) ∧ (pow = true → Rises last ts) ∧
        (partsF s (endF s d) pow m i dep last).2.1 = deepest dep ts + 1 ∧ i ≤ (partsF s (endF s d) pow m i dep last).1 ∧ (partsF s (endF s d) pow m i dep last).1 ≤ s.size
  | 0, i, dep, last, h0, h1, _ => ⟨[], rfl, by simp only [partsF]; rw [ext_self]; rfl, by simp, fun _ => trivial, rfl, by simp only [partsF]; omega, by simp only [partsF]; omega⟩
  | m + 1, i, dep, last, h0, h1, hg => by
    simp only [partsF] at hg ⊢
    by_cases c1 : (endF s d i).2.2 ≠ 0
    · rw [if_pos c1] at hg; exact absurd hg c1
    have c1' : (endF s d i).2.2 = 0 := by simpa using c1
    rw [if_neg c1] at hg ⊢
    by_cases c2 : pow = true ∧ Op.bytesLess (s.extract i.toNat (endF s d i).1.toNat).toList last.toList = true
    · rw [if_pos c2] at hg; exact absurd hg (by simp)
    rw [if_neg c2] at hg ⊢
    have ho := endF_ok d i h0 c1'
    obtain ⟨ts, e1, e2, e3, e4, e5, e6, e7⟩ := parts_sound hd m (endF s d i).1 _ _ (by omega) (by omega) hg
    have ht := hd i h0 c1'
    refine ⟨s.extract i.toNat (endF s d i).1.toNat :: ts, by rw [List.length_cons, e1], ?_, ?_, ?_, ?_, by omega, e7⟩
    · rw [cat, ← e2, cat_ext _ (by omega) (by omega) (by omega)]
    · intro t h
      rcases List.mem_cons.mp h with rfl | h
      · exact ⟨ht.1, by rw [ht.2]; omega⟩
      · exact e3 t h
    · intro hp
      refine ⟨?_, e4 hp⟩
      have : ¬ (Op.bytesLess (s.extract i.toNat (endF s d i).1.toNat).toList last.toList = true) := fun h => c2 ⟨hp, h⟩
      simpa using this
    · rw [e5]
      unfold deepest
      rw [List.foldl_cons, ht.2]
      rfl
theorem head_sound {s : ByteArray} {i : Nat} {ts : List ByteArray} {e : Nat} (hi : i < s.size) (hb : (beginF s i).2.2.2.2.2.2 = true) (hl : ts.length = (beginF s i).1.toNat)
    (he : s.extract (beginF s i).2.2.2.2.2.1.toNat e = cat ts) (hp : ∀ t ∈ ts, 0 < t.size) (h1 : (beginF s i).2.2.2.2.2.1.toNat ≤ e) (h2 : e ≤ s.size) :
    HeadOf (s.extract i (beginF s i).2.2.2.2.2.1.toNat) ts (beginF s i).2.2.1 := by
  have one : ∀ c : UInt8, bt s i = (c.toNat : Int) → s.extract i (i + 1) = ⟨#[c]⟩ := by
    intro c hc
    refine ext_bt (by rw [ext_size _ (by omega)]; show i + 1 - i = 1; omega) fun j hj => ?_
    rw [ext_size _ (by omega)] at hj
    obtain rfl : j = 0 := by omega
    rw [bt_extract _ _ _ _ (by omega) (by omega), Nat.add_zero, hc]
    rfl
  unfold beginF at hb hl he h1 ⊢
  by_cases k1 : bt s i = 107
  · rw [if_pos k1] at hb hl he h1 ⊢
    by_cases c : (i : Int) + 1 < (s.size : Int) ∧ (bt s ((i : Int) + 1) = 103 ∨ bt s ((i : Int) + 1) = 101)
    · rw [if_pos c] at hl he h1 ⊢
      simp only at hl he h1 ⊢
      rw [show ((i : Int) + 1).toNat = i + 1 by omega] at he h1 ⊢
      rw [one 107 k1]
      match ts, hl with
      | [x], _ =>
        refine .key x ?_
        have hx := hp x List.mem_cons_self
        have e1 : bt (s.extract (i + 1) e) 0 = bt x 0 := by rw [he]; exact bt_left x (cat []) 0 hx
        have e2 : (s.extract (i + 1) e).size = x.size := by rw [he]; show (x ++ cat []).size = _; rw [ByteArray.size_append]; show x.size + 0 = _; omega
        rw [ext_size _ h2] at e2
        have e3 := bt_extract s (i + 1) e 0 (by omega) h2
        rw [← e1]
        have e4 : (i : Int) + 1 = ((i + 1 + 0 : Nat) : Int) := by omega
        rw [show (0 : Int) = ((0 : Nat) : Int) from rfl, e3, ← e4]
        exact c.2
    · rw [if_neg c] at hb; exact absurd hb (by simp)
  rw [if_neg k1] at hb hl he h1 ⊢
  by_cases k2 : bt s i = 104
  · rw [if_pos k2] at hl he h1 ⊢
    simp only at hl he h1 ⊢
    rw [show ((i : Int) + 1).toNat = i + 1 by omega, one 104 k2]
    match ts, hl with
    | [x], _ => exact .hash x
  rw [if_neg k2] at hb hl he h1 ⊢
  by_cases k3 : bt s i = 112 ∨ bt s i = 120
  · rw [if_pos k3] at hl he h1 ⊢
    simp only at hl he h1 ⊢
    rw [show ((i : Int) + 1).toNat = i + 1 by omega]
    match ts, hl with
    | [x, y], _ =>
      rcases k3 with k3 | k3
      · rw [one 112 k3]; exact .pair x y
      · rw [one 120 k3]; exact .sign x y
  rw [if_neg k3] at hb hl he h1 ⊢
  by_cases k4 : bt s i = 115
  · rw [if_pos k4] at hl he h1 ⊢
    simp only at hl he h1 ⊢
    rw [show ((i : Int) + 1).toNat = i + 1 by omega, one 115 k4]
    match ts, hl with
    | [x, y, z], _ => exact .sealed x y z
  rw [if_neg k4] at hb hl he h1 ⊢
  by_cases k5 : bt s i = 101
  · rw [if_pos k5] at hb hl he h1 ⊢
    by_cases c : (i : Int) + 1 < (s.size : Int) ∧ 1 ≤ bt s ((i : Int) + 1) ∧ bt s ((i : Int) + 1) ≤ 32
    · rw [if_pos c] at hl he h1 ⊢
      simp only at hl he h1 ⊢
      rw [show ((i : Int) + 2).toNat = i + 2 by omega] at he h1 ⊢
      have e1 : s.extract i (i + 2) = ⟨#[101, UInt8.ofNat ts.length]⟩ := by
        refine ext_bt (by rw [ext_size _ (by omega)]; show i + 2 - i = 2; omega) fun j hj => ?_
        rw [ext_size _ (by omega)] at hj
        rw [bt_extract _ _ _ _ (by omega) (by omega)]
        match j, hj with
        | 0, _ => rw [Nat.add_zero, k5]; rfl
        | 1, _ =>
          have e2 : bt (⟨#[101, UInt8.ofNat ts.length]⟩ : ByteArray) ((1 : Nat) : Int) = ((UInt8.ofNat ts.length).toNat : Int) := rfl
          rw [e2, UInt8.toNat_ofNat_of_lt' (by show ts.length < 256; omega), show ((i + 1 : Nat) : Int) = (i : Int) + 1 by omega]
          omega
        | j + 2, hj => omega
      rw [e1]
      exact .pow ts (by omega) (by omega)
    · rw [if_neg c] at hb; exact absurd hb (by simp)
  rw [if_neg k5] at hb
  exact absurd hb (by simp)
/-- What is read is a term, whole: a leaf, or one of parts. -/
theorem end_sound {s : ByteArray} : ∀ (d : Nat) (i : Int), d ≤ 400 → 0 ≤ i → (endF s d i).2.2 = 0 →
    (Tm (s.extract i.toNat (endF s d i).1.toNat) ∧ depF (s.extract i.toNat (endF s d i).1.toNat) = (endF s d i).2.1) ∧
    (Leaf (s.extract i.toNat (endF s d i).1.toNat) ∨ ∃ h ts pow, Node (s.extract i.toNat (endF s d i).1.toNat) h ts pow)
  | 0, _, _, _, h => by simp [endF] at h
  | d + 1, i, hd, h0, hg => by
    obtain ⟨n, rfl⟩ : ∃ n : Nat, i = n := ⟨i.toNat, by omega⟩
    have hok := endF_ok (d + 1) n h0 hg
    simp only [endF] at hg hok ⊢
    by_cases c1 : (s.size : Int) ≤ n
    · rw [if_pos c1] at hg; exact absurd hg (by simp)
    rw [if_neg c1] at hg hok ⊢
    rw [Int.toNat_natCast] at hg hok ⊢
    have hn : n < s.size := by omega
    by_cases c2 : leafF (s.extract n s.size) ≠ 0
    · rw [if_pos c2] at hg hok ⊢
      simp only at hok ⊢
      obtain ⟨m, hm⟩ : ∃ m : Nat, leafF (s.extract n s.size) = m := ⟨(leafF (s.extract n s.size)).toNat, by omega⟩
      rw [hm] at hok ⊢
      rw [show ((n : Int) + (m : Int)).toNat = n + m by omega]
      have hs : (s.extract n (n + m)).size = m := by rw [ext_size _ (by omega)]; omega
      have hl : leafF (s.extract n (n + m)) = leafF (s.extract n s.size) := leaf_same c2 (by rw [hs, hm]; omega) (fun j hj => by
        rw [hs] at hj
        rw [bt_extract _ _ _ _ (by omega) (by omega), bt_extract _ _ _ _ (by omega) (Nat.le_refl _)])
      have hL : Leaf (s.extract n (n + m)) := ⟨by rw [hl]; exact c2, by rw [hl, hm, hs]⟩
      exact ⟨hL.tm, .inl hL⟩
    rw [if_neg c2] at hg hok ⊢
    by_cases c3 : (beginF s n).2.2.2.2.2.2 = true
    · rw [if_pos c3] at hg hok ⊢
      have h4 := beginF_ok (s := s) (at_ := n) (by omega) (by omega) (b1 := (beginF s n).1) (b2 := (beginF s n).2.1) (b3 := (beginF s n).2.2.1) (b4 := (beginF s n).2.2.2.1) (b5 := (beginF s n).2.2.2.2.1) (b6 := (beginF s n).2.2.2.2.2.1) (by rw [← c3])
      obtain ⟨ts, e1, e2, e3, e4, e5, e6, e7⟩ := parts_sound (d := d) (pow := (beginF s n).2.2.1) (fun j hj hq => (end_sound d j (by omega) hj hq).1) (beginF s n).1.toNat (beginF s n).2.2.2.2.2.1 0 ⟨#[]⟩ (by omega) (by omega) hg
      have hh := head_sound (e := (partsF s (endF s d) (beginF s n).2.2.1 (beginF s n).1.toNat (beginF s n).2.2.2.2.2.1 0 ⟨#[]⟩).1.toNat) hn c3 e1 e2 (fun t ht => (e3 t ht).1.pos) (by omega) (by omega)
      have hN : Node (s.extract n (partsF s (endF s d) (beginF s n).2.2.1 (beginF s n).1.toNat (beginF s n).2.2.2.2.2.1 0 ⟨#[]⟩).1.toNat) (s.extract n (beginF s n).2.2.2.2.2.1.toNat) ts (beginF s n).2.2.1 :=
        ⟨by rw [← e2, cat_ext _ (by omega) (by omega) (by omega)], hh, fun x hx => ⟨(e3 x hx).1, by have := (e3 x hx).2; omega⟩, e4⟩
      exact ⟨⟨hN.tm.1, hN.tm.2.trans e5.symm⟩, .inr ⟨_, _, _, hN⟩⟩
    · rw [if_neg c3] at hg; exact absurd hg (by simp)
/-- A term is a leaf, or stands of parts. -/
theorem Tm.cases {t : ByteArray} (h : Tm t) : Leaf t ∨ ∃ h ts pow, Node t h ts pow := by
  have := (end_sound 400 0 (Nat.le_refl _) (Int.le_refl _) h.1).2
  rw [h.2, Int.toNat_natCast, show (0 : Int).toNat = 0 from rfl, extract_all] at this
  exact this

/-! ### Terms ahead of other bytes -/
theorem take_app {t r : ByteArray} (h : Tm t) (hs : t.size ≤ 20000) : takeF (t ++ r) = (t, r, 0) := by
  have h1 := Tm.at_ (Lies.first t r) h 400 (by have := h.dep; omega)
  have h2 : scanF (t ++ r) = ((t.size : Int), depF t, 0) := by
    unfold scanF
    rw [show ((0 : Nat) : Int) = 0 from rfl, Int.zero_add] at h1
    rw [if_pos (by rw [h1]), h1]
  unfold takeF
  rw [h2]
  simp only [ne_eq, not_true_eq_false, if_false]
  rw [if_neg (by omega), Int.toNat_natCast]
  have e1 : (t ++ r).extract 0 t.size = t := by have := (Lies.first t r).whole; rwa [Nat.zero_add] at this
  have e2 : (t ++ r).extract t.size (t ++ r).size = r := by have := (Lies.last t r).whole; rwa [← ByteArray.size_append] at this
  rw [e1, e2]
theorem take_self {t : ByteArray} (h : Tm t) (hs : t.size ≤ 20000) : takeF t = (t, ⟨#[]⟩, 0) := by
  have := take_app (r := ⟨#[]⟩) h hs
  rwa [app_nil] at this
theorem take_sound {s : ByteArray} (h : (takeF s).2.2 = 0) : rightB (takeF s).1 = true ∧ (takeF s).1 ++ (takeF s).2.1 = s ∧ 0 < (takeF s).1.size := by
  unfold takeF at h ⊢
  by_cases c : (scanF s).2.2 ≠ 0
  · rw [if_pos c] at h; exact absurd h c
  rw [if_neg c] at h ⊢
  by_cases c2 : (scanF s).1 > 20000
  · rw [if_pos c2] at h; exact absurd h (by simp)
  rw [if_neg c2]
  have c' : (scanF s).2.2 = 0 := by simpa using c
  have hs : scanF s = endF s 400 0 := by
    unfold scanF at c' ⊢
    by_cases q : (endF s 400 0).2.2 = 0
    · rw [if_pos q]
    · rw [if_neg q] at c'; exact absurd c' q
  have hb := scanF_end c'
  rw [hs] at c' c2 hb ⊢
  have h1 := end_sound 400 0 (Nat.le_refl _) (Int.le_refl _) c'
  simp only
  rw [show (0 : Int).toNat = 0 from rfl] at h1
  have hz : (s.extract 0 (endF s 400 0).1.toNat).size = (endF s 400 0).1.toNat := by rw [ext_size _ (by omega)]; omega
  refine ⟨(right_iff _).mpr ⟨h1.1.1, by rw [hz]; omega⟩, ?_, by rw [hz]; omega⟩
  rw [cat_ext _ (by omega) (by omega) (by omega), extract_all]
theorem take_err {s : ByteArray} (h : (takeF s).2.2 ≠ 0) : (takeF s).1 = ⟨#[]⟩ ∧ (takeF s).2.1 = ⟨#[]⟩ := by
  unfold takeF at h ⊢
  by_cases c : (scanF s).2.2 ≠ 0
  · rw [if_pos c]; exact ⟨rfl, rfl⟩
  rw [if_neg c] at h ⊢
  by_cases c2 : (scanF s).1 > 20000
  · rw [if_pos c2]; exact ⟨rfl, rfl⟩
  rw [if_neg c2] at h
  exact absurd rfl h
/-- No term is the beginning of another one. -/
theorem tm_prefix {t r : ByteArray} (h : Tm t) (h2 : Tm (t ++ r)) : r = ⟨#[]⟩ := by
  have h1 := Tm.at_ (Lies.first t r) h 400 (by have := h.dep; omega)
  have h3 := h2.end_
  rw [show ((0 : Nat) : Int) = 0 from rfl, Int.zero_add, h3] at h1
  have h4 := congrArg Prod.fst h1
  simp only [ByteArray.size_append] at h4
  apply ByteArray.ext
  apply Array.eq_empty_of_size_eq_zero
  rw [ByteArray.size_data]
  omega
theorem tm_app_inj {a b r q : ByteArray} (ha : Tm a) (hb : Tm b) (h : a ++ r = b ++ q) : a = b ∧ r = q := by
  have h1 := Tm.at_ (Lies.first a r) ha 400 (by have := ha.dep; omega)
  have h2 := Tm.at_ (Lies.first b q) hb 400 (by have := hb.dep; omega)
  rw [h, h2] at h1
  have h3 := congrArg Prod.fst h1
  simp only at h3
  have hs : a.size = b.size := by omega
  have h4 := congrArg (fun x => x.data.toList) h
  simp only [ByteArray.data_append, Array.toList_append] at h4
  have h5 := List.append_inj h4 hs
  exact ⟨ByteArray.ext (Array.ext' h5.1), ByteArray.ext (Array.ext' h5.2)⟩
theorem cat_inj : ∀ {a b : List ByteArray}, (∀ t ∈ a, Tm t) → (∀ t ∈ b, Tm t) → cat a = cat b → a = b
  | [], [], _, _, _ => rfl
  | [], y :: b, _, hb, h => by
    have h1 := congrArg ByteArray.size h
    have h2 := (hb y List.mem_cons_self).pos
    simp only [cat, ByteArray.size_append] at h1
    have : (⟨#[]⟩ : ByteArray).size = 0 := rfl
    omega
  | x :: a, [], ha, _, h => by
    have h1 := congrArg ByteArray.size h
    have h2 := (ha x List.mem_cons_self).pos
    simp only [cat, ByteArray.size_append] at h1
    have : (⟨#[]⟩ : ByteArray).size = 0 := rfl
    omega
  | x :: a, y :: b, ha, hb, h => by
    have h1 := tm_app_inj (ha x List.mem_cons_self) (hb y List.mem_cons_self) h
    rw [h1.1, cat_inj (fun t ht => ha t (List.mem_cons_of_mem _ ht)) (fun t ht => hb t (List.mem_cons_of_mem _ ht)) h1.2]
theorem cat_app (a b : List ByteArray) : cat (a ++ b) = cat a ++ cat b := by
  induction a with
  | nil => rw [List.nil_append, cat, nil_app]
  | cons x a ih => rw [List.cons_append, cat, cat, ih, app_assoc]

/-! ### Cut short -/
theorem parts_ge {s : ByteArray} {p : Int → Int × Int × Int} {pow : Bool} (hp : ∀ i : Int, 0 ≤ i → (p i).2.2 = 0 → i < (p i).1) :
    ∀ (m : Nat) (i dep : Int) (last : ByteArray), 0 ≤ i → (partsF s p pow m i dep last).2.2 = 0 → i ≤ (partsF s p pow m i dep last).1 ∧ (1 ≤ m → i < (partsF s p pow m i dep last).1)
  | 0, i, dep, last, h0, _ => ⟨by simp only [partsF]; omega, fun h => by omega⟩
  | m + 1, i, dep, last, h0, hg => by
    simp only [partsF] at hg ⊢
    by_cases c1 : (p i).2.2 ≠ 0
    · rw [if_pos c1] at hg; exact absurd hg c1
    have c1' : (p i).2.2 = 0 := by simpa using c1
    rw [if_neg c1] at hg ⊢
    by_cases c2 : pow = true ∧ Op.bytesLess (s.extract i.toNat (p i).1.toNat).toList last.toList = true
    · rw [if_pos c2] at hg; exact absurd hg (by simp)
    rw [if_neg c2] at hg ⊢
    have h1 := hp i h0 c1'
    have h2 := (parts_ge hp m (p i).1 _ _ (by omega) hg).1
    exact ⟨by omega, fun _ => by omega⟩
theorem parts_cut {s u : ByteArray} {d e : Nat} {pow : Bool} (hu : u = s.extract 0 e) (he : e ≤ s.size)
    (hd : ∀ i : Int, 0 ≤ i → (endF s d i).2.2 = 0 → ((endF s d i).1 ≤ e → endF u d i = endF s d i) ∧ (i ≤ e → e < (endF s d i).1 → (endF u d i).2.2 = 2)) :
    ∀ (m : Nat) (i dep : Int) (last : ByteArray), 0 ≤ i → (partsF s (endF s d) pow m i dep last).2.2 = 0 →
      ((partsF s (endF s d) pow m i dep last).1 ≤ e → partsF u (endF u d) pow m i dep last = partsF s (endF s d) pow m i dep last) ∧
      (i ≤ e → e < (partsF s (endF s d) pow m i dep last).1 → (partsF u (endF u d) pow m i dep last).2.2 = 2)
  | 0, i, dep, last, h0, _ => ⟨fun _ => rfl, fun h1 h => by simp only [partsF] at h; omega⟩
  | m + 1, i, dep, last, h0, hg => by
    simp only [partsF] at hg ⊢
    by_cases c1 : (endF s d i).2.2 ≠ 0
    · rw [if_pos c1] at hg; exact absurd hg c1
    have c1' : (endF s d i).2.2 = 0 := by simpa using c1
    rw [if_neg c1] at hg ⊢
    by_cases c2 : pow = true ∧ Op.bytesLess (s.extract i.toNat (endF s d i).1.toNat).toList last.toList = true
    · rw [if_pos c2] at hg; exact absurd hg (by simp)
    rw [if_neg c2] at hg ⊢
    have ho := endF_ok d i h0 c1'
    have hge := (parts_ge (fun j hj hq => (endF_ok (s := s) d j hj hq).1) m (endF s d i).1 _ _ (by omega) hg).1
    by_cases c3 : (endF s d i).1 ≤ e
    · rw [(hd i h0 c1').1 c3, if_neg c1]
      have hx : u.extract i.toNat (endF s d i).1.toNat = s.extract i.toNat (endF s d i).1.toNat := by
        rw [hu]
        refine ext_bt (by rw [ext_size _ (by rw [ext_size _ he]; omega), ext_size _ (by omega)]) fun j hj => ?_
        rw [ext_size _ (by rw [ext_size _ he]; omega)] at hj
        rw [bt_extract _ _ _ _ (by omega) (by rw [ext_size _ he]; omega), bt_extract _ _ _ _ (by omega) he, bt_extract _ _ _ _ (by omega) (by omega), Nat.zero_add]
      rw [hx, if_neg c2]
      have h3 := parts_cut hu he hd m _ _ _ (by omega) hg
      exact ⟨h3.1, fun _ => h3.2 c3⟩
    · refine ⟨fun h => by omega, fun h1 _ => ?_⟩
      have h3 := (hd i h0 c1').2 h1 (by omega)
      rw [if_pos (by rw [h3]; decide)]
      exact h3
theorem begin_cut {s u : ByteArray} {e : Nat} (hu : u = s.extract 0 e) (he : e ≤ s.size) {i : Nat} (hi : i < e) (hb : (beginF s i).2.2.2.2.2.2 = true) :
    beginF u i = beginF s i ∨ ((beginF u i).2.2.2.2.2.2 = false ∧ (e : Int) ≤ (beginF s i).2.2.2.2.2.1) := by
  have hz : u.size = e := by rw [hu, ext_size _ he]; omega
  have b0 : bt u i = bt s i := by rw [hu, bt_extract _ _ _ _ (by omega) he, Nat.zero_add]
  have b1 : (i : Int) + 1 < (u.size : Int) → bt u ((i : Int) + 1) = bt s ((i : Int) + 1) := fun q => by
    have := bt_extract s 0 e (i + 1) (by omega) he
    rw [← hu, Nat.zero_add] at this
    exact_mod_cast this
  unfold beginF at hb ⊢
  rw [b0]
  by_cases k1 : bt s i = 107
  · rw [if_pos k1] at hb; rw [if_pos k1, if_pos k1]
    by_cases c : (i : Int) + 1 < (s.size : Int) ∧ (bt s ((i : Int) + 1) = 103 ∨ bt s ((i : Int) + 1) = 101)
    · rw [if_pos c]
      by_cases q : (i : Int) + 1 < (u.size : Int)
      · left; rw [if_pos (by rw [b1 q]; exact ⟨q, c.2⟩)]
      · right; rw [if_neg (fun h => q h.1)]; exact ⟨rfl, by simp only; omega⟩
    · rw [if_neg c] at hb; exact absurd hb (by simp)
  rw [if_neg k1] at hb; rw [if_neg k1, if_neg k1]
  by_cases k2 : bt s i = 104
  · left; rw [if_pos k2, if_pos k2]
  rw [if_neg k2] at hb; rw [if_neg k2, if_neg k2]
  by_cases k3 : bt s i = 112 ∨ bt s i = 120
  · left; rw [if_pos k3, if_pos k3]
  rw [if_neg k3] at hb; rw [if_neg k3, if_neg k3]
  by_cases k4 : bt s i = 115
  · left; rw [if_pos k4, if_pos k4]
  rw [if_neg k4] at hb; rw [if_neg k4, if_neg k4]
  by_cases k5 : bt s i = 101
  · rw [if_pos k5] at hb; rw [if_pos k5, if_pos k5]
    by_cases c : (i : Int) + 1 < (s.size : Int) ∧ 1 ≤ bt s ((i : Int) + 1) ∧ bt s ((i : Int) + 1) ≤ 32
    · rw [if_pos c]
      by_cases q : (i : Int) + 1 < (u.size : Int)
      · left; rw [if_pos (by rw [b1 q]; exact ⟨q, c.2⟩), b1 q]
      · right; rw [if_neg (fun h => q h.1)]; exact ⟨rfl, by simp only; omega⟩
    · rw [if_neg c] at hb; exact absurd hb (by simp)
  rw [if_neg k5] at hb
  exact absurd hb (by simp)
/-- What is read of bytes is read of their beginning, if that is long enough; else what is wrong is their form. -/
theorem end_cut {s u : ByteArray} {e : Nat} (hu : u = s.extract 0 e) (he : e ≤ s.size) : ∀ (d : Nat) (i : Int), 0 ≤ i → (endF s d i).2.2 = 0 →
    ((endF s d i).1 ≤ e → endF u d i = endF s d i) ∧ (i ≤ e → e < (endF s d i).1 → (endF u d i).2.2 = 2)
  | 0, i, _, hg => by simp [endF] at hg
  | d + 1, i, h0, hg => by
    obtain ⟨n, rfl⟩ : ∃ n : Nat, i = n := ⟨i.toNat, by omega⟩
    have hz : u.size = e := by rw [hu, ext_size _ he]; omega
    have hok := endF_ok (d + 1) n h0 hg
    simp only [endF] at hg hok ⊢
    by_cases c1 : (s.size : Int) ≤ n
    · rw [if_pos c1] at hg; exact absurd hg (by simp)
    rw [if_neg c1] at hg hok ⊢
    rw [Int.toNat_natCast] at hg hok ⊢
    have hn : n < s.size := by omega
    by_cases c0 : (u.size : Int) ≤ n
    · rw [if_pos c0]
      exact ⟨fun h => by omega, fun _ _ => rfl⟩
    rw [if_neg c0]
    have b0 : bt u n = bt s n := by rw [hu, bt_extract _ _ _ _ (by omega) he, Nat.zero_add]
    have hbs : ∀ j : Nat, j < (u.extract n u.size).size → bt (u.extract n u.size) j = bt (s.extract n s.size) j := by
      intro j hj
      rw [ext_size _ (Nat.le_refl _)] at hj
      rw [bt_extract _ _ _ _ (by omega) (Nat.le_refl _), bt_extract _ _ _ _ (by omega) (Nat.le_refl _), hu, bt_extract _ _ _ _ (by omega) he, Nat.zero_add]
    by_cases c2 : leafF (s.extract n s.size) ≠ 0
    · rw [if_pos c2] at hg hok ⊢
      simp only at hok ⊢
      by_cases c4 : (n : Int) + leafF (s.extract n s.size) ≤ e
      · have hl := leaf_same c2 (v := u.extract n u.size) (by rw [ext_size _ (Nat.le_refl _)]; omega) hbs
        rw [hl, if_pos c2]
        exact ⟨fun _ => rfl, fun _ h => by omega⟩
      · have hl := leaf_cut c2 (v := u.extract n u.size) (by rw [ext_size _ (Nat.le_refl _)]; omega) (by rw [ext_size _ (Nat.le_refl _)]; omega) hbs
        rw [if_neg (fun q => q hl), if_neg]
        · exact ⟨fun h => absurd h c4, fun _ _ => rfl⟩
        · intro hq
          have h1 := begin_first hq
          have h2 := leaf_first hn c2
          rw [b0] at h1
          omega
    rw [if_neg c2] at hg hok ⊢
    by_cases c3 : (beginF s n).2.2.2.2.2.2 = true
    · rw [if_pos c3] at hg hok ⊢
      have hlu : leafF (u.extract n u.size) = 0 := by
        rcases Int.decEq (leafF (u.extract n u.size)) 0 with q | q
        · have h1 := leaf_first (s := u) (by omega) q
          have h2 := begin_first c3
          rw [b0] at h1
          omega
        · exact q
      rw [if_neg (fun q => q hlu)]
      have h4 := beginF_ok (s := s) (at_ := n) (by omega) (by omega) (b1 := (beginF s n).1) (b2 := (beginF s n).2.1) (b3 := (beginF s n).2.2.1) (b4 := (beginF s n).2.2.2.1) (b5 := (beginF s n).2.2.2.2.1) (b6 := (beginF s n).2.2.2.2.2.1) (by rw [← c3])
      have hgt := (parts_ge (fun j hj hq => (endF_ok (s := s) d j hj hq).1) (beginF s n).1.toNat (beginF s n).2.2.2.2.2.1 _ _ (by omega) hg).2 (by omega)
      rcases begin_cut hu he (i := n) (by omega) c3 with hb | ⟨hb, hle⟩
      · rw [hb, if_pos c3]
        have h5 := parts_cut hu he (fun j hj hq => end_cut hu he d j hj hq) _ _ _ _ (by omega) hg
        by_cases c5 : (beginF s n).2.2.2.2.2.1 ≤ e
        · exact ⟨h5.1, fun _ => h5.2 c5⟩
        · refine ⟨fun h => by omega, fun _ _ => ?_⟩
          have h6 : (beginF s n).1.toNat ≠ 0 := by omega
          obtain ⟨m, hm⟩ := Nat.exists_eq_succ_of_ne_zero h6
          have h7 : (endF s d (beginF s n).2.2.2.2.2.1).2.2 = 0 := by
            rw [hm] at hg
            simp only [partsF] at hg
            by_cases q : (endF s d (beginF s n).2.2.2.2.2.1).2.2 ≠ 0
            · rw [if_pos q] at hg; exact absurd hg q
            · simpa using q
          have h8 : 1 ≤ d := by
            rcases Nat.eq_zero_or_pos d with q | q
            · subst q; simp [endF] at h7
            · exact q
          obtain ⟨d', rfl⟩ : ∃ d', d = d' + 1 := ⟨d - 1, by omega⟩
          have h9 : endF u (d' + 1) (beginF s n).2.2.2.2.2.1 = (0, 0, 2) := by simp only [endF]; rw [if_pos (by omega)]
          rw [hm, partsF, h9]
          simp
      · rw [if_neg (by rw [hb]; simp)]
        exact ⟨fun h => by omega, fun _ _ => rfl⟩
    · rw [if_neg c3] at hg; exact absurd hg (by simp)
/-- A term that is cut short is none. -/
theorem tm_cut {t : ByteArray} (h : Tm t) {n : Nat} (hn : n < t.size) : takeF (t.extract 0 n) = (⟨#[]⟩, ⟨#[]⟩, 2) ∧ rightB (t.extract 0 n) = false := by
  have h1 := (end_cut (u := t.extract 0 n) rfl (by omega) 400 0 (Int.le_refl _) h.1).2 (by omega) (by rw [h.2]; omega)
  have h2 : scanF (t.extract 0 n) = (0, 0, 2) := by unfold scanF; rw [if_neg (by rw [h1]; decide), h1]
  refine ⟨by unfold takeF; rw [h2]; rfl, by unfold rightB; rw [h2]; rfl⟩
end Go.Proofs.Ytppimpadfgldjaa.Pure
