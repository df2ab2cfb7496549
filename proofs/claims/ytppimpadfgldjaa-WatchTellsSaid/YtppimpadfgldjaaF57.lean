-- Laid by mk.py (a program of this session) over the seat's translation.
import Derived.Test.YtppimpadfgldjaaF0
import Derived.Maps.Own
import Derived.Maps.OwnOps
import Derived.Maps.OwnSet
import Derived.StringKeys
import Derived.Test.YtppimpadfgldjaaLNet
namespace Go.Proofs.Ytppimpadfgldjaa.F
open Go.RowKit Go.Proofs.YtppimpadfgldjaaW.PrintWords Go.Proofs.YtppimpadfgldjaaW.PrintLast Go.Proofs.YtppimpadfgldjaaW.PrintMore
attribute [local go_sem] max2_int min2_int max_two min_two max_three min_three max_four min_four
set_option linter.unusedVariables false
set_option linter.unusedSimpArgs false

/-! ### net_New: function 57 -/
open Go.Maps Go.Proofs.Ytppimpadfgldjaa.Pure
/-- What lies in a net, what was heard, and a bound on how often something was sent. -/
structure NS where
  lie : List S114
  heard : List ByteArray
  many : Nat
/-- A net in memory: its struct at a block, its row and its map in blocks of a set. -/
def NetIn (w : World) (g : Nat) (F : Nat → Prop) (s : NS) : Prop :=
  ∃ (v : Value) (b n : Nat) (D : DataW Unit), w.heap[g]? = some (.cells #[v, .map (some b)] 175 (0, 0)) ∧ (F g ∧ F b ∧ g ≠ b) ∧ Kd.R k114 114 w 0 (fun k => F k ∧ k ≠ g ∧ k ≠ b) v s.lie ∧ w.ownsMap Try.prog 48 (plainElem Try.prog 3) b n D ∧ n ≤ s.many ∧ KeysIn D s.heard
/-- Nothing turns but blocks of a set, and new ones. -/
def Near (F : Nat → Prop) (w w' : World) : Prop := Below 0 w w' ∧ Kept w w' F
theorem Near.refl (F : Nat → Prop) (w : World) : Near F w w := ⟨Below.refl _ _, Kept.refl _ _⟩
theorem Near.below {F : Nat → Prop} {w W W' : World} (h : Near F w W) (hb : Below W.heap.size W W') : Near F w W' := ⟨h.1.trans (hb.mono (Nat.zero_le _)), h.2.below hb⟩
theorem Near.grown {F : Nat → Prop} {w W W' : World} {row : Option Nat} (h : Near F w W) (hg : W.grownBy W' row) (hr : ∀ k, row = some k → F k ∨ w.heap.size ≤ k) : Near F w W' := ⟨h.1.grown hg (Nat.zero_le _) (fun _ _ => Nat.zero_le _), Kept.of_grown hg h.2 hr⟩
theorem Near.set {F : Nat → Prop} {w W : World} {p : Addr} (h : Near F w W) (hp : F p.block ∨ w.heap.size ≤ p.block) (u : Value) : Near F w (W.setCell p u) := ⟨h.1.setCell (Nat.zero_le _) u, h.2.setCell hp u⟩
theorem Near.alloc {F : Nat → Prop} {w W : World} (h : Near F w W) (o : Obj) : Near F w (W.alloc o) := h.below (below_alloc (Below.refl _ _) o)
theorem Near.drew {F : Nat → Prop} {w W : World} (h : Near F w W) : Near F w W.drew := h.below (below_drew1 (Below.refl _ _))
theorem Near.drewN {F : Nat → Prop} {w W : World} (h : Near F w W) (m : Nat) : Near F w (W.drewN m) := h.below (pw_below_drewN (Below.refl _ _) m)
theorem Near.trans {F F' : Nat → Prop} {w W W' : World} (h : Near F w W) (k : Near F' W W') (hs : ∀ k, F' k → F k ∨ w.heap.size ≤ k) : Near F w W' := ⟨h.1.trans k.1, h.2.then_ k.2 hs⟩
theorem Near.toBelow {F : Nat → Prop} {B : Nat} {w W : World} (h : Near F w W) (hF : ∀ k, F k → B ≤ k) (hB : B ≤ w.heap.size) : Below B w W :=
  ⟨h.1.os, h.1.tape, h.1.output, h.1.size, fun k hk => h.2.2 k (Nat.lt_of_lt_of_le hk hB) (fun q => Nat.not_le_of_lt hk (hF k q))⟩
theorem owns_move {w w' : World} {k b n : Nat} {R : Value → Option (DataW Unit × List MemPlace)} {D : DataW Unit} (h : w.ownsMap Try.prog k R b n D) (hm : w'.heap[b]? = w.heap[b]?) : w'.ownsMap Try.prog k R b n D := by
  obtain ⟨es, clock, hb, F, hs, hD⟩ := h
  exact ⟨es, clock, hm.trans hb, F, hs, hD⟩
theorem NetIn.kept {w w' : World} {g : Nat} {F : Nat → Prop} {s : NS} (h : NetIn w g F s) (hk : ∀ k, F k → k < w.heap.size → w'.heap[k]? = w.heap[k]?) : NetIn w' g F s := by
  obtain ⟨v, b, n, D, h1, h2, h3, h4, h5, h6⟩ := h
  exact ⟨v, b, n, D, (hk g h2.1 (blk_lt h1)).trans h1, h2, Kd.R_step h3 (fun k ho hlt => hk k ho.1 hlt), owns_move h4 (hk b h2.2.1 h4.lt), h5, h6⟩
theorem NetIn.mono {w : World} {g : Nat} {F F' : Nat → Prop} {s : NS} (h : NetIn w g F s) (hF : ∀ k, F k → F' k) : NetIn w g F' s := by
  obtain ⟨v, b, n, D, h1, h2, h3, h4, h5, h6⟩ := h
  exact ⟨v, b, n, D, h1, ⟨hF _ h2.1, hF _ h2.2.1, h2.2.2⟩, Kd.R_mono h3 (fun k hk => ⟨hF k hk.1, hk.2⟩), h4, h5, h6⟩
theorem NetIn.below {w w' : World} {g : Nat} {F : Nat → Prop} {s : NS} (h : NetIn w g F s) (hb : Below w.heap.size w w') : NetIn w' g F s := h.kept (fun k _ hlt => hb.block k hlt)
theorem NetIn.drew {w : World} {g : Nat} {F : Nat → Prop} {s : NS} (h : NetIn w g F s) : NetIn w.drew g F s := h.kept (fun _ _ _ => rfl)
theorem NetIn.drewN {w : World} {g : Nat} {F : Nat → Prop} {s : NS} (h : NetIn w g F s) (m : Nat) : NetIn (w.drewN m) g F s := h.kept (fun _ _ _ => rfl)
/-- The blocks of a net are blocks that there are. -/
theorem NetIn.tight {w : World} {g : Nat} {F : Nat → Prop} {s : NS} (h : NetIn w g F s) : NetIn w g (fun k => F k ∧ k < w.heap.size) s := by
  obtain ⟨v, b, n, D, h1, h2, h3, h4, h5, h6⟩ := h
  exact ⟨v, b, n, D, h1, ⟨⟨h2.1, blk_lt h1⟩, ⟨h2.2.1, h4.lt⟩, h2.2.2⟩, Kd.R_mono (Kd.R_bound h3) (fun k hk => ⟨⟨hk.1.1, hk.2.2.1⟩, hk.1.2⟩), h4, h5, h6⟩
set_option maxHeartbeats 2000000 in
set_option maxRecDepth 100000 in
theorem net_New.any (w : World) : Calls Try.prog 57 #[] w fun e w' => ∃ g, e = .returned (.pointer (some ⟨g, 0, none⟩)) ∧ w.heap.size ≤ g ∧ NetIn w' g (fun k => w.heap.size ≤ k) ⟨[], [], 0⟩ ∧ Below w.heap.size w w' := by
  have hmm := @run_makeMap Try.prog
  have HB := Aside0.mk (Below.refl w.heap.size w)
  go_enter Try.func57, Try.ntmps57
  go_wp2
  go_ret
  have e : (w.alloc (.map #[] 0)).heap.size = w.heap.size + 1 := by simp
  refine ⟨w.heap.size + 1, rfl, Nat.le_succ _, ⟨.slice none 0 0, w.heap.size, 0, .map [], ?_, ⟨Nat.le_succ _, Nat.le_refl _, Nat.succ_ne_self _⟩, Kd.R_nil _ _ _ _ _, (World.ownsMap_made w _ _ _).alloc _, Nat.le_refl _, keysIn_empty⟩, below_alloc (below_alloc HB.out _) _⟩
  rw [← e]
  exact blk_new _ _

end Go.Proofs.Ytppimpadfgldjaa.F
