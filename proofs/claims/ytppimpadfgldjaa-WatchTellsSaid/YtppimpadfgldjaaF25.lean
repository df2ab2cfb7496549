-- Laid by mk.py (a program of this session) over the seat's translation.
import Derived.Test.YtppimpadfgldjaaF0
import Derived.Test.YtppimpadfgldjaaF22
import Derived.Test.YtppimpadfgldjaaF57
import Derived.RegionTactic
import Derived.BigRegion
import Derived.StillTailTactics
import Derived.StillTactics
namespace Go.Proofs.Ytppimpadfgldjaa.F
open Go.RowKit Go.Proofs.YtppimpadfgldjaaW.PrintWords Go.Proofs.YtppimpadfgldjaaW.PrintLast Go.Proofs.YtppimpadfgldjaaW.PrintMore
attribute [local go_sem] max2_int min2_int max_two min_two max_three min_three max_four min_four
set_option linter.unusedVariables false
set_option linter.unusedSimpArgs false

/-! ### gemotref9_Watch_Hear: function 25 -/
def hearF (now : Int) (hs : List Int) (p : Int) : List Int := if 1 ≤ p ∧ p ≤ 8 then hs.set (p - 1).toNat now else hs
theorem own_head {w : World} {B : Nat} {ok : Nat → Prop} {v : Value} {hs : List Int} (h : Kd.R (Kd.int .i64) 3 w B ok v hs) (h0 : 0 < hs.length) : ∃ b c cells, v = .slice (some ⟨b, 0, none⟩) hs.length c ∧ ok b ∧ w.heap[b]? = some (.cells cells 3 (0, 0)) := by
  obtain ⟨inner, ho⟩ := Kd.R_own h
  rcases ho.2 with ⟨rfl, e⟩ | ⟨b, c, cells, rfl, _, hb, _⟩
  · obtain ⟨A, c, e2⟩ := Kd.R_slice h
    injection e2 with _ e3 _
    omega
  · exact ⟨b, c, cells, rfl, h.1 b rfl, hb⟩
theorem gemotref9_Watch_Hear.miss (q : Nat) (G : Nat → Prop) (me lim now p : Int) (hs : List Int) (w : World) (h : W9 w q G me lim now hs) (hp : ¬ (1 ≤ p ∧ p ≤ 8)) :
    Calls Try.prog 25 #[.pointer (some ⟨q, 0, none⟩), .int .i64 p] w fun e w' => e = .returned (.tuple #[]) ∧ W9 w' q G me lim now hs ∧ Near G w w' := by
  have HN := Aside0.mk h
  by_cases a : 1 ≤ p
  case' pos =>
    have q1 : decide (1 ≤ p) = true := decide_eq_true a
    have q2 : decide (p ≤ 8) = false := decide_eq_false (by omega)
  case' neg => have q1 : decide (1 ≤ p) = false := decide_eq_false a
  all_goals
    clear h hp a
    go_enter Try.func25, Try.ntmps25
    go_wp2
    refine bodyPost_end (results_none rfl _ _ _) rfl ?_
    exact ⟨rfl, HN.out, Near.refl G w⟩
set_option maxHeartbeats 4000000 in
set_option maxRecDepth 100000 in
theorem gemotref9_Watch_Hear.hit (q : Nat) (G : Nat → Prop) (me lim now : Int) (n : Nat) (hs : List Int) (w : World) (h : W9 w q G me lim now hs) (hn : n < 8) (hl : hs.length = 8) :
    Calls Try.prog 25 #[.pointer (some ⟨q, 0, none⟩), .int .i64 ((n : Int) + 1)] w fun e w' => e = .returned (.tuple #[]) ∧ W9 w' q G me lim now (hs.set n now) ∧ Near G w w' := by
  obtain ⟨v, h1, h2, h3⟩ := h
  obtain ⟨b, c, cells, rfl, hb1, hb2⟩ := own_head h3 (by omega)
  obtain ⟨ad, e, hy⟩ := Kd.at_int (Kd.R_reads' h3).2.2 (n : Int) (by omega) (by omega)
  cases e
  have e2 : ((⟨b, 0, none⟩ : Addr).add ((n : Int).toNat)) = ⟨b, n, none⟩ := by simp [Addr.add] <;> omega
  rw [e2] at hy
  have c2 : w.cell? ⟨q, 2, none⟩ = some (.int .i64 now) := (blk_cell h1 2).trans rfl
  have c3 : w.cell? ⟨q, 3, none⟩ = some (.slice (some ⟨b, 0, none⟩) hs.length c) := (blk_cell h1 3).trans rfl
  have HY := Aside0.mk hy
  have C2 := Aside0.mk c2
  have C3 := Aside0.mk c3
  have HBb := Aside0.mk hb2
  have H1 := Aside0.mk h1
  have H2 := Aside0.mk h2
  have H3 := Aside0.mk h3
  have HG := Aside0.mk hb1
  have q1 : decide (1 ≤ (n : Int) + 1) = true := decide_eq_true (by omega)
  have q2 : decide ((n : Int) + 1 ≤ 8) = true := decide_eq_true (by omega)
  have hw0 : IntKind.i64.wrap ((n : Int) + 1 - 1) = (n : Int) := by rw [i64_w]; unfold wrap64; omega
  have hw1 : IntKind.i64.wrap (n : Int) = (n : Int) := by rw [i64_w]; unfold wrap64; omega
  have p0 := eq_true (show n < hs.length by omega)
  have p1 := eq_true (show (n : Int) < (hs.length : Int) by omega)
  clear h1 h2 h3 hy hb1 hb2 hn hl
  go_enter Try.func25, Try.ntmps25
  go_upto_region 1 with (fail)
  refine start_ (n := 12) (S := fun w' => Below w.heap.size w w') (ds := [11]) #[false, false, false, false, false, false, false, false, false, false, false, false] (by kernel_rfl) rfl rfl (below_drew1 (Below.refl _ _)) (fun hHeld => ?_)
  generalize hWd : w.drew = Wd at hHeld ⊢
  clear hWd
  refine pure_ (i := 0) (N := some 10) (v := ?_) (a' := ?_) #[true, false, false, false, false, false, false, false, false, false, false, false] rfl rfl (by kernel_rfl) (fun _ _ _ h => h) (Or.inl ⟨by rfl, ?_⟩) ?_ ?_
  rotate_left
  · intro w'; go_simp; with_reducible rfl
  rotate_left; · (simp only [Act.put, List.setIfInBounds_toArray, List.set_cons_zero, List.set_cons_succ, i64_w, i32_w]; rfl)
  refine pure_ (i := 1) (N := some 11) (v := ?_) (a' := ?_) #[true, true, false, false, false, false, false, false, false, false, false, false] rfl rfl (by kernel_rfl) (fun _ _ _ h => h) (Or.inl ⟨by rfl, ?_⟩) ?_ ?_
  rotate_left
  · intro w'; go_simp; with_reducible rfl
  rotate_left; · (simp only [Act.put, List.setIfInBounds_toArray, List.set_cons_zero, List.set_cons_succ, i64_w, i32_w]; rfl)
  refine pure_ (i := 2) (N := some 12) (v := ?_) (a' := ?_) #[true, true, true, false, false, false, false, false, false, false, false, false] rfl rfl (by kernel_rfl) (fun _ _ _ h => h) (Or.inl ⟨by rfl, ?_⟩) ?_ ?_
  rotate_left
  · intro w'; go_simp; with_reducible rfl
  rotate_left; · (simp only [Act.put, List.setIfInBounds_toArray, List.set_cons_zero, List.set_cons_succ, i64_w, i32_w]; rfl)
  refine take_ (i := 3) (N := some 13) (v := ?_) (a' := ?_) #[true, true, true, true, false, false, false, false, false, false, false, false] rfl rfl (by kernel_rfl) (fun _ _ _ h => h) (Or.inl ⟨by rfl, ?_⟩) hHeld ?_ ?_
  rotate_left
  · intro w' hs_; have s0_ := pw_cell_below hs_ C3.out; clear hs_; go_simp; with_reducible rfl
  rotate_left; · (simp only [Act.put, List.setIfInBounds_toArray, List.set_cons_zero, List.set_cons_succ, i64_w, i32_w]; rfl)
  refine pure_ (i := 4) (N := some 14) (v := ?_) (a' := ?_) #[true, true, true, true, true, false, false, false, false, false, false, false] rfl rfl (by kernel_rfl) (fun _ _ _ h => h) (Or.inl ⟨by rfl, ?_⟩) ?_ ?_
  rotate_left
  · intro w'; go_simp; with_reducible rfl
  rotate_left; · (simp only [Act.put, List.setIfInBounds_toArray, List.set_cons_zero, List.set_cons_succ, i64_w, i32_w]; rfl)
  refine pure_ (i := 5) (N := some 15) (v := ?_) (a' := ?_) #[true, true, true, true, true, true, false, false, false, false, false, false] rfl rfl (by kernel_rfl) (fun _ _ _ h => h) (Or.inl ⟨by rfl, ?_⟩) ?_ ?_
  rotate_left
  · intro w'; go_simp; with_reducible rfl
  rotate_left; · (simp only [Act.put, List.setIfInBounds_toArray, List.set_cons_zero, List.set_cons_succ, i64_w, i32_w]; rfl)
  refine pure_ (i := 6) (N := some 16) (v := ?_) (a' := ?_) #[true, true, true, true, true, true, true, false, false, false, false, false] rfl rfl (by kernel_rfl) (fun _ _ _ h => h) (Or.inl ⟨by rfl, ?_⟩) ?_ ?_
  rotate_left
  · intro w'; go_simp; with_reducible rfl
  rotate_left; · (simp only [Act.put, List.setIfInBounds_toArray, List.set_cons_zero, List.set_cons_succ, i64_w, i32_w]; rfl)
  refine pure_ (i := 7) (N := some 17) (v := ?_) (a' := ?_) #[true, true, true, true, true, true, true, true, false, false, false, false] rfl rfl (by kernel_rfl) (fun _ _ _ h => h) (Or.inl ⟨by rfl, ?_⟩) ?_ ?_
  rotate_left
  · intro w'; go_simp; with_reducible rfl
  rotate_left; · (simp only [Act.put, List.setIfInBounds_toArray, List.set_cons_zero, List.set_cons_succ, i64_w, i32_w]; rfl)
  refine pure_ (i := 8) (N := some 18) (v := ?_) (a' := ?_) #[true, true, true, true, true, true, true, true, true, false, false, false] rfl rfl (by kernel_rfl) (fun _ _ _ h => h) (Or.inl ⟨by rfl, ?_⟩) ?_ ?_
  rotate_left
  · intro w'; go_simp; with_reducible rfl
  rotate_left; · (simp only [Act.put, List.setIfInBounds_toArray, List.set_cons_zero, List.set_cons_succ, i64_w, i32_w]; rfl)
  refine take_ (i := 9) (N := some 19) (v := ?_) (a' := ?_) #[true, true, true, true, true, true, true, true, true, true, false, false] rfl rfl (by kernel_rfl) (fun _ _ _ h => h) (Or.inl ⟨by rfl, ?_⟩) hHeld ?_ ?_
  rotate_left
  · intro w' hs_; have s0_ := pw_cell_below hs_ C2.out; clear hs_; go_simp; with_reducible rfl
  rotate_left; · (simp only [Act.put, List.setIfInBounds_toArray, List.set_cons_zero, List.set_cons_succ, i64_w, i32_w]; rfl)
  refine pure_ (i := 10) (N := some 20) (v := ?_) (a' := ?_) #[true, true, true, true, true, true, true, true, true, true, true, false] rfl rfl (by kernel_rfl) (fun _ _ _ h => h) (Or.inl ⟨by rfl, ?_⟩) ?_ ?_
  rotate_left
  · intro w'; go_simp; with_reducible rfl
  rotate_left; · (simp only [Act.put, List.setIfInBounds_toArray, List.set_cons_zero, List.set_cons_succ, i64_w, i32_w]; rfl)
  have hy := pw_cell_below hHeld HY.out
  have hz := blk_frozen (blk_below HBb.out hHeld) n
  refine last_ (i := 11) (N := none) #[true, true, true, true, true, true, true, true, true, true, true, true] rfl rfl (by kernel_rfl) (by decide) (fun K hK => ?_)
  refine skip_ (w1 := Wd.setCell ⟨b, n, none⟩ (.int .i64 now)) (by rfl) rfl (by first | (go_simp; done) | (go_simp; rfl)) ?_
  refine hK.out _ _ ?_
  clear hK K
  refine done_ (by kernel_rfl) ?_
  have hr := (Kd.R_put (enc := Value.int .i64) (h1 := fun _ => rfl) (Kd.R_below H3.out hHeld) (n : Int) now).1
  rw [show ((n : Int)).toNat = n from Int.toNat_natCast n] at hr
  have HR := Aside0.mk hr
  have HE := Aside0.mk hHeld
  clear hr hy hz hHeld
  go_wp2
  refine bodyPost_end (results_none rfl _ _ _) rfl ?_
  refine ⟨rfl, ⟨.slice (some ⟨b, 0, none⟩) hs.length c, blk_far (blk_below H1.out HE.out) (Ne.symm HG.out.2) _, H2.out, HR.out⟩, ((Near.refl G w).below HE.out).set (.inl HG.out.1) _⟩
theorem gemotref9_Watch_Hear.calls (q : Nat) (G : Nat → Prop) (me lim now p : Int) (hs : List Int) (w : World) (h : W9 w q G me lim now hs) (hl : hs.length = 8) :
    Calls Try.prog 25 #[.pointer (some ⟨q, 0, none⟩), .int .i64 p] w fun e w' => e = .returned (.tuple #[]) ∧ W9 w' q G me lim now (hearF now hs p) ∧ Near G w w' := by
  unfold hearF
  by_cases hp : 1 ≤ p ∧ p ≤ 8
  · rw [if_pos hp]
    obtain ⟨n, rfl⟩ : ∃ n : Nat, p = (n : Int) + 1 := ⟨(p - 1).toNat, by omega⟩
    rw [show ((n : Int) + 1 - 1).toNat = n by omega]
    exact gemotref9_Watch_Hear.hit q G me lim now n hs w h (by omega) hl
  · rw [if_neg hp]
    exact gemotref9_Watch_Hear.miss q G me lim now p hs w h hp

end Go.Proofs.Ytppimpadfgldjaa.F
