-- Laid by mk.py (a program of this session) over the seat's translation.
import Derived.Test.YtppimpadfgldjaaF0
import Derived.Test.YtppimpadfgldjaaF21
import Derived.RegionTactic
import Derived.BigRegion
import Derived.StillTailTactics
import Derived.StillTactics
import Derived.Deep.LoopGhost
import Derived.Test.YtppimpadfgldjaaF29
namespace Go.Proofs.Ytppimpadfgldjaa.F
open Go.RowKit Go.Proofs.YtppimpadfgldjaaW.PrintWords Go.Proofs.YtppimpadfgldjaaW.PrintLast Go.Proofs.YtppimpadfgldjaaW.PrintMore
attribute [local go_sem] max2_int min2_int max_two min_two max_three min_three max_four min_four
set_option linter.unusedVariables false
set_option linter.unusedSimpArgs false

/-! ### gemotref9_New: function 22 -/
/-- A document's watch in memory: its struct at a block, its row in blocks of a set. -/
def W9 (w : World) (q : Nat) (G : Nat → Prop) (me lim now : Int) (hs : List Int) : Prop := ∃ v, w.heap[q]? = some (.cells #[.int .i64 me, .int .i64 lim, .int .i64 now, v] 34 (0, 0)) ∧ G q ∧ Kd.R (Kd.int .i64) 3 w 0 (fun k => G k ∧ k ≠ q) v hs
theorem W9.kept {w w' : World} {q : Nat} {G : Nat → Prop} {me lim now : Int} {hs : List Int} (h : W9 w q G me lim now hs) (hk : ∀ k, G k → k < w.heap.size → w'.heap[k]? = w.heap[k]?) : W9 w' q G me lim now hs := by
  obtain ⟨v, h1, h2, h3⟩ := h
  exact ⟨v, (hk q h2 (blk_lt h1)).trans h1, h2, Kd.R_step h3 (fun k ho hlt => hk k ho.1 hlt)⟩
theorem W9.below {w w' : World} {q : Nat} {G : Nat → Prop} {me lim now : Int} {hs : List Int} (h : W9 w q G me lim now hs) (hb : Below w.heap.size w w') : W9 w' q G me lim now hs := h.kept (fun k _ hlt => hb.block k hlt)
theorem W9.drew {w : World} {q : Nat} {G : Nat → Prop} {me lim now : Int} {hs : List Int} (h : W9 w q G me lim now hs) : W9 w.drew q G me lim now hs := h.kept (fun _ _ _ => rfl)
theorem W9.mono {w : World} {q : Nat} {G G' : Nat → Prop} {me lim now : Int} {hs : List Int} (h : W9 w q G me lim now hs) (hG : ∀ k, G k → G' k) : W9 w q G' me lim now hs := by
  obtain ⟨v, h1, h2, h3⟩ := h
  exact ⟨v, h1, hG _ h2, Kd.R_mono h3 (fun k hk => ⟨hG k hk.1, hk.2⟩)⟩
theorem int_info9 : (Try.prog.info? 3).map (fun i => (i.zero, i.size, i.bytes)) = some (some (.int .i64 0), 1, 8) := by kernel_rfl
theorem gemotref9_New.bad (me lim : Int) (h : ¬ newOk me lim) (w : World) : Calls Try.prog 22 #[.int .i64 me, .int .i64 lim] w fun e w' => e = .returned (.tuple #[.pointer none, .int .i64 1]) ∧ w' = w := by
  have h' : me < 1 ∨ 8 < me ∨ lim < 1 ∨ 100 < lim := by unfold newOk at h; omega
  clear h
  by_cases a : me < 1
  case' pos => have q1 : decide (me < 1) = true := decide_eq_true a
  case' neg =>
    have q1 : decide (me < 1) = false := decide_eq_false a
    by_cases b : 8 < me
    case' pos => have q2 : decide (8 < me) = true := decide_eq_true b
    case' neg =>
      have q2 : decide (8 < me) = false := decide_eq_false b
      by_cases c : lim < 1
      case' pos => have q3 : decide (lim < 1) = true := decide_eq_true c
      case' neg =>
        have q3 : decide (lim < 1) = false := decide_eq_false c
        have q4 : decide (100 < lim) = true := decide_eq_true (by omega)
  all_goals
    clear h'
    go_enter Try.func22, Try.ntmps22
    go_wp2
    go_ret2
    exact ⟨rfl, rfl⟩
set_option maxHeartbeats 4000000 in
set_option maxRecDepth 100000 in
theorem gemotref9_New.ok (me lim : Int) (h : newOk me lim) (w : World) :
    Calls Try.prog 22 #[.int .i64 me, .int .i64 lim] w fun e w' => ∃ q, e = .returned (.tuple #[.pointer (some ⟨q, 0, none⟩), .int .i64 0]) ∧ W9 w' q (fun k => w.heap.size ≤ k ∧ k < w'.heap.size) me lim 0 (List.replicate 8 (-1)) ∧ Below w.heap.size w w' := by
  obtain ⟨h1, h2, h3, h4⟩ := h
  have q1 : decide (me < 1) = false := decide_eq_false (by omega)
  have q2 : decide (8 < me) = false := decide_eq_false (by omega)
  have q3 : decide (lim < 1) = false := decide_eq_false (by omega)
  have q4 : decide (100 < lim) = false := decide_eq_false (by omega)
  have hu := Try.underlying34
  have HB := Aside0.mk (Below.refl w.heap.size w)
  clear h1 h2 h3 h4
  go_enter Try.func22, Try.ntmps22
  go_wp2
  have HB0 := Aside0.mk (show (w.alloc (.cells #[.int .i64 me, .int .i64 lim, .int .i64 0, .slice none 0 0] 34)).heap[w.heap.size]? = some (.cells #[.int .i64 me, .int .i64 lim, .int .i64 0, .slice none 0 0] 34 (0, 0)) from blk_new _ _)
  have HBA := Aside0.mk (below_alloc HB.out (.cells #[.int .i64 me, .int .i64 lim, .int .i64 0, .slice none 0 0] 34))
  go_loopg [7] 8 (fun kq v7 w' => ∃ (n : Nat) (xs : List Int) (v : Value), v7 = .int .i64 ((n : Int) + 1) ∧ Aside0 (n + kq = 8) ∧ Aside0 (xs = List.replicate n (-1)) ∧ Aside0 (w'.heap[w.heap.size]? = some (.cells #[.int .i64 me, .int .i64 lim, .int .i64 0, v] 34 (0, 0))) ∧ Aside0 (Kd.R (Kd.int .i64) 3 w' w.heap.size (fun k => k ≠ w.heap.size) v xs) ∧ Aside0 (Below w.heap.size w w'))
  case atStart => exact ⟨0, [], .slice none 0 0, rfl, ⟨rfl⟩, ⟨rfl⟩, HB0, ⟨Kd.R_nil _ _ _ _ _⟩, HBA⟩
  case round =>
    clear HB0 HBA
    obtain ⟨n, xs, v, rfl, HN, HX, HBK, HR, HBw⟩ := hrel
    obtain ⟨A, c, rfl⟩ := Kd.R_slice HR.out
    by_cases c8 : n < 8
    · obtain ⟨k2, rfl⟩ : ∃ k2, gk = k2 + 1 := ⟨gk - 1, by have := HN.out; omega⟩
      have cb : decide ((n : Int) + 1 ≤ 8) = true := decide_eq_true (by omega)
      have hw : IntKind.i64.wrap ((n : Int) + 1 + 1) = ((n + 1 : Nat) : Int) + 1 := by rw [i64_w]; unfold wrap64; omega
      have hc3 : wr.cell? ⟨w.heap.size, 3, none⟩ = some (.slice A xs.length c) := (blk_cell HBK.out 3).trans rfl
      have hf3 := blk_frozen HBK.out 3
      have HL := Aside0.mk (show xs.length < 17592186044416 by rw [HX.out]; simp; omega)
      go_wp2_with ((with_reducible refine gate_builtin (b := .append) (xs := #[.tmp 34, .tmp 35]) rfl ?_); at_builtin; refine Kd.R_append (Kd.int .i64) (w0 := w) w.heap.size rfl (.tmp 34) (.tmp 35) 22 3 (.int .i64 0) 8 rfl Try.underlying22 int_info9 rfl (by decide) (by omega) (.slice A xs.length c) xs (-1) [.int .i64 (-1)] (fun k => k ≠ w.heap.size) (fun _ => False) rfl rfl ?aP (fun _ hk => hk.elim) ?aF ?aO ?aB ?aS ?aL ?_; (case aP => exact rfl); (case aB => exact HBw.out); (case aF => exact (fun k_ hk => Kd.freshB HBK.out k_ hk)); (case aO => exact HR.out); (case aS => exact HBw.out.size); (case aL => have := HL.out; omega); intro v1 w1 ho hb hg1 hat; obtain ⟨A1, c1, rfl⟩ := Kd.R_slice ho; have hk1 := blk_grown HBK.out hg1 (Kd.R_away HR.out (fun k hk => hk)); have hc1 : w1.cell? ⟨w.heap.size, 3, none⟩ = some (.slice A xs.length c) := (blk_cell hk1 3).trans rfl; have hf1 := blk_frozen hk1 3; have HO1 := Aside0.mk ho; have HB1 := Aside0.mk hb; have HK1 := Aside0.mk hk1; clear ho hb hg1 hat hk1)
      go_roundg k2
      case measure => omega
      case rel =>
        refine ⟨n + 1, xs ++ [-1], _, rfl, ⟨by have := HN.out; omega⟩, ⟨by rw [HX.out, List.replicate_succ']⟩, ⟨blk_put HK1.out 3 _ rfl⟩, ⟨?_⟩, ⟨HB1.out.setCell (Nat.le_refl _) _⟩⟩
        have e5 : xs.length + 1 = (xs ++ [(-1 : Int)]).length := by simp
        first
          | exact Kd.R_far HO1.out (fun k hk => hk) _
          | (rw [e5]; exact Kd.R_far HO1.out (fun k hk => hk) _)
    · have hn : n = 8 := by have := HN.out; omega
      subst hn
      have cb : decide (((8 : Nat) : Int) + 1 ≤ 8) = false := by decide
      have hx := HX.out
      subst hx
      clear c8
      go_wp2
      go_ret2
      refine ⟨w.heap.size, rfl, ⟨_, HBK.out, ⟨Nat.le_refl _, blk_lt HBK.out⟩, Kd.R_mono (Kd.R_lower (Kd.R_bound HR.out) (Nat.zero_le _)) (fun k hk => ⟨⟨hk.2.1, hk.2.2.1⟩, hk.1⟩)⟩, HBw.out⟩

end Go.Proofs.Ytppimpadfgldjaa.F
