-- Laid by mk.py (a program of this session) over the seat's translation.
import Derived.Test.YtppimpadfgldjaaF0
import Derived.Test.YtppimpadfgldjaaF22
import Derived.Test.YtppimpadfgldjaaF29
import Derived.RegionTactic
import Derived.BigRegion
import Derived.StillTailTactics
import Derived.StillTactics
import Derived.Deep.LoopGhost
import Derived.Test.YtppimpadfgldjaaF25
namespace Go.Proofs.Ytppimpadfgldjaa.F
open Go.RowKit Go.Proofs.YtppimpadfgldjaaW.PrintWords Go.Proofs.YtppimpadfgldjaaW.PrintLast Go.Proofs.YtppimpadfgldjaaW.PrintMore
attribute [local go_sem] max2_int min2_int max_two min_two max_three min_three max_four min_four
set_option linter.unusedVariables false
set_option linter.unusedSimpArgs false

/-! ### gemotref9_Watch_There: function 28 -/
/-- Who of the first ones are there, by how many ticks ago each was heard. -/
def thereN (lim : Int) (f : Int → Int) : Nat → List Int
  | 0 => []
  | n + 1 => if f ((n : Int) + 1) ≤ lim then thereN lim f n ++ [(n : Int) + 1] else thereN lim f n
theorem thereN_len (lim : Int) (f : Int → Int) : ∀ n, (thereN lim f n).length ≤ n
  | 0 => Nat.le_refl _
  | n + 1 => by
    have := thereN_len lim f n
    unfold thereN
    split
    · rw [List.length_append, List.length_singleton]; omega
    · omega
set_option maxHeartbeats 8000000 in
set_option maxRecDepth 100000 in
theorem gemotref9_Watch_There.calls (q : Nat) (G : Nat → Prop) (me lim now : Int) (hs : List Int) (w : World) (h : W9 w q G me lim now hs) (hk : Okay9 lim now hs) :
    Calls Try.prog 28 #[.pointer (some ⟨q, 0, none⟩)] w fun e w' => ∃ v, e = .returned v ∧ Kd.R (Kd.int .i64) 3 w' w.heap.size (fun _ => True) v (thereN lim (quietF me lim now hs) 8) ∧ Below w.heap.size w w' := by
  obtain ⟨v, h1, h2, h3⟩ := h
  obtain ⟨A, c, rfl⟩ := Kd.R_slice h3
  have H1 := Aside0.mk h1
  have H3 := Aside0.mk (Kd.R_reads' h3).2.2
  have HB0 := Aside0.mk (Below.refl w.heap.size w)
  have HO := Aside0.mk hk
  clear h1 h2 h3 hk
  go_enter Try.func28, Try.ntmps28
  go_wp2
  go_loopg [3, 4] 8 (fun kq v3 v4 w' => ∃ (n : Nat), v4 = .int .i64 ((n : Int) + 1) ∧ Aside0 (n + kq = 8) ∧ Aside0 (Kd.R (Kd.int .i64) 3 w' w.heap.size (fun _ => True) v3 (thereN lim (quietF me lim now hs) n)) ∧ Aside0 (Below w.heap.size w w'))
  case atStart => exact ⟨0, rfl, ⟨Nat.zero_add _⟩, ⟨Kd.R_nil _ _ _ _ _⟩, HB0⟩
  case round =>
    clear HB0
    obtain ⟨n, rfl, HN, HR, HB⟩ := hrel
    obtain ⟨A3, c3, rfl⟩ := Kd.R_slice HR.out
    by_cases c8 : n < 8
    · obtain ⟨k2, rfl⟩ : ∃ k2, gk = k2 + 1 := ⟨gk - 1, by have := HN.out; omega⟩
      have cb : decide ((n : Int) + 1 ≤ 8) = true := decide_eq_true (by omega)
      have hw : IntKind.i64.wrap ((n : Int) + 1 + 1) = ((n + 1 : Nat) : Int) + 1 := by rw [i64_w]; unfold wrap64; omega
      have HBK := Aside0.mk (blk_below H1.out HB.out)
      have HQ := fun (W : World) (hb : Below wr.heap.size wr W) => gemotref9_Watch_Quiet.calls q me lim now ((n : Int) + 1) A c hs W (blk_below HBK.out hb) (Kd.C_below (Kd.C_below H3.out HB.out) hb) (by omega) (by omega) HO.out
      have ht : thereN lim (quietF me lim now hs) (n + 1) = if quietF me lim now hs ((n : Int) + 1) ≤ lim then thereN lim (quietF me lim now hs) n ++ [(n : Int) + 1] else thereN lim (quietF me lim now hs) n := rfl
      have hl := thereN_len lim (quietF me lim now hs) n
      generalize quietF me lim now hs ((n : Int) + 1) = y at HQ ht
      have HQ := Aside0.mk HQ
      have HT := Aside0.mk ht
      have HLn := Aside0.mk hl
      have HC8 := Aside0.mk c8
      have C1 := Aside0.mk (show wr.cell? ⟨q, 1, none⟩ = some (.int .i64 lim) from (blk_cell HBK.out 1).trans rfl)
      clear ht hl
      by_cases cy : y ≤ lim
      case' pos => have qy : decide (y ≤ lim) = true := decide_eq_true cy
      case' neg => have qy : decide (y ≤ lim) = false := decide_eq_false cy
      all_goals
        go_upto_region 5 with (fail)
        refine start_ (n := 8) (S := fun w' => Below wr.heap.size wr w') (ds := []) #[false, false, false, false, false, false, false, false] (by kernel_rfl) rfl rfl (below_drew1 (Below.refl _ _)) (fun hHeld => ?_)
        generalize hWd : wr.drew = Wd at hHeld ⊢
        clear hWd
        refine pure_ (i := 0) (N := some 9) (v := ?_) (a' := ?_) #[true, false, false, false, false, false, false, false] rfl rfl (by kernel_rfl) (fun _ _ _ h => h) (Or.inl ⟨by rfl, ?_⟩) ?_ ?_
        rotate_left
        · intro w'; go_simp; with_reducible rfl
        rotate_left; · (simp only [Act.put, List.setIfInBounds_toArray, List.set_cons_zero, List.set_cons_succ, i64_w, i32_w]; rfl)
        refine pure_ (i := 1) (N := some 10) (v := ?_) (a' := ?_) #[true, true, false, false, false, false, false, false] rfl rfl (by kernel_rfl) (fun _ _ _ h => h) (Or.inl ⟨by rfl, ?_⟩) ?_ ?_
        rotate_left
        · intro w'; go_simp; with_reducible rfl
        rotate_left; · (simp only [Act.put, List.setIfInBounds_toArray, List.set_cons_zero, List.set_cons_succ, i64_w, i32_w]; rfl)
        refine pure_ (i := 3) (N := some 12) (v := ?_) (a' := ?_) #[true, true, false, true, false, false, false, false] rfl rfl (by kernel_rfl) (fun _ _ _ h => h) (Or.inl ⟨by rfl, ?_⟩) ?_ ?_
        rotate_left
        · intro w'; go_simp; with_reducible rfl
        rotate_left; · (simp only [Act.put, List.setIfInBounds_toArray, List.set_cons_zero, List.set_cons_succ, i64_w, i32_w]; rfl)
        refine pure_ (i := 4) (N := some 13) (v := ?_) (a' := ?_) #[true, true, false, true, true, false, false, false] rfl rfl (by kernel_rfl) (fun _ _ _ h => h) (Or.inl ⟨by rfl, ?_⟩) ?_ ?_
        rotate_left
        · intro w'; go_simp; with_reducible rfl
        rotate_left; · (simp only [Act.put, List.setIfInBounds_toArray, List.set_cons_zero, List.set_cons_succ, i64_w, i32_w]; rfl)
        refine pure_ (i := 5) (N := some 14) (v := ?_) (a' := ?_) #[true, true, false, true, true, true, false, false] rfl rfl (by kernel_rfl) (fun _ _ _ h => h) (Or.inl ⟨by rfl, ?_⟩) ?_ ?_
        rotate_left
        · intro w'; go_simp; with_reducible rfl
        rotate_left; · (simp only [Act.put, List.setIfInBounds_toArray, List.set_cons_zero, List.set_cons_succ, i64_w, i32_w]; rfl)
        refine take_ (i := 6) (N := some 15) (v := ?_) (a' := ?_) #[true, true, false, true, true, true, true, false] rfl rfl (by kernel_rfl) (fun _ _ _ h => h) (Or.inl ⟨by rfl, ?_⟩) hHeld ?_ ?_
        rotate_left
        · intro w' hs_; have s0_ := pw_cell_below hs_ C1.out; clear hs_; go_simp; with_reducible rfl
        rotate_left; · (simp only [Act.put, List.setIfInBounds_toArray, List.set_cons_zero, List.set_cons_succ, i64_w, i32_w]; rfl)
        refine one_ (i := 2) (N := some 11) #[true, true, true, true, true, true, true, false] rfl rfl (by kernel_rfl) (by decide) (fun K hK => ?_)
        refine goes_ Try.func29 (by kernel_rfl) rfl #[.pointer (some ⟨q, 0, none⟩), .int .i64 ((n : Int) + 1)] (by rfl) rfl rfl (by (try simp only [List.map_toArray, List.map_cons, List.map_nil]); first | done | rfl) ?_
        with_reducible refine (HQ.out _ hHeld).mono ?_
        rintro e w' ⟨rfl, ⟨nd_, rfl⟩⟩
        refine ⟨_, rfl, ?_⟩
        refine hK.out _ _ (pw_below_drewN hHeld nd_) (fun hHeld => ?_)
        clear hK K; refine norm_ (a' := ?_) ?_ ?_
        rotate_left
        · show Act.put _ (some 11) _ = _
          (simp only [Act.put, List.setIfInBounds_toArray, List.set_cons_zero, List.set_cons_succ, i64_w, i32_w]; rfl)
        refine pure_ (i := 7) (N := some 16) (v := ?_) (a' := ?_) #[true, true, true, true, true, true, true, true] rfl rfl (by kernel_rfl) (fun _ _ _ h => h) (Or.inl ⟨by rfl, ?_⟩) ?_ ?_
        rotate_left
        · intro w'; go_simp; with_reducible rfl
        rotate_left; · (simp only [Act.put, List.setIfInBounds_toArray, List.set_cons_zero, List.set_cons_succ, i64_w, i32_w]; rfl)
        refine done_ (by kernel_rfl) ?_
      · have HCY := Aside0.mk cy
        have HRw := Aside0.mk (Kd.R_below HR.out hHeld)
        have HBw := Aside0.mk (below_step HB.out hHeld)
        clear hHeld cy
        go_wp2
        go_roundg k2
        case measure => omega
        case rel => exact ⟨n + 1, rfl, ⟨by have := HN.out; omega⟩, ⟨by rw [HT.out, if_neg (by have := HCY.out; omega)]; exact HRw.out⟩, HBw⟩
      · have HRw := Aside0.mk (Kd.R_below HR.out hHeld)
        have HBw := Aside0.mk (below_step HB.out hHeld)
        generalize thereN lim (quietF me lim now hs) n = xs at HRw HLn HT ⊢
        have HCY := Aside0.mk cy
        clear hHeld cy
        go_wp2_with ((with_reducible refine gate_builtin (b := .append) (xs := #[.tmp 17, .tmp 19]) rfl ?_); at_builtin; refine Kd.R_append (Kd.int .i64) (w0 := w) w.heap.size rfl (.tmp 17) (.tmp 19) 22 3 (.int .i64 0) 8 rfl Try.underlying22 int_info9 rfl (by decide) (by omega) (.slice A3 xs.length c3) xs ((n : Int) + 1) [.int .i64 ((n : Int) + 1)] (fun _ => True) (fun _ => False) rfl rfl ?aP (fun _ hk => hk.elim) ?aF ?aO ?aB ?aS ?aL ?_; (case aP => exact rfl); (case aB => exact HBw.out); (case aF => exact fun _ _ => trivial); (case aO => exact HRw.out); (case aS => exact HBw.out.size); (case aL => have := HLn.out; have := HC8.out; omega); intro v1 w1 ho hb hg1 hat; have HO1 := Aside0.mk ho; have HB1 := Aside0.mk hb; clear ho hb hg1 hat)
        go_roundg k2
        case measure => omega
        case rel => exact ⟨n + 1, rfl, ⟨by have := HN.out; omega⟩, ⟨by rw [HT.out, if_pos HCY.out]; exact HO1.out⟩, HB1⟩
    · have hn : n = 8 := by have := HN.out; omega
      subst hn
      have cb : decide (((8 : Nat) : Int) + 1 ≤ 8) = false := by decide
      clear c8
      go_wp2
      go_ret
      exact ⟨_, rfl, HR.out, HB.out⟩

end Go.Proofs.Ytppimpadfgldjaa.F
