-- Laid by mk.py (a program of this session) over the seat's translation.
import Derived.Test.YtppimpadfgldjaaF0
import Derived.Test.YtppimpadfgldjaaB1
import Derived.Test.YtppimpadfgldjaaB3
import Derived.Maps.OwnIn
import Derived.Maps.OwnSet
import Derived.RangeFuncWrites
import Derived.RangeFuncNested
import Derived.RangeFuncBox
import Derived.StringKeys
namespace Go.Proofs.Ytppimpadfgldjaa.F
open Go.RowKit Go.Proofs.YtppimpadfgldjaaW.PrintWords Go.Proofs.YtppimpadfgldjaaW.PrintLast Go.Proofs.YtppimpadfgldjaaW.PrintMore
attribute [local go_sem] max2_int min2_int max_two min_two max_three min_three max_four min_four
set_option linter.unusedVariables false
set_option linter.unusedSimpArgs false

/-! ### parts_gather: function 124 -/
open Go.Shelf Go.Maps Go.Proofs.Ytppimpadfgldjaa.Pure
attribute [local go_sem] Oper.semAt_some
/-- All that stands in a term, and itself, as it is met. -/
def allN : Nat → ByteArray → List ByteArray
  | 0, _ => []
  | k + 1, t => t :: (kidsF t).flatMap (allN k)
theorem allN_same : ∀ (k m : Nat) (t : ByteArray), rightB t = true → t.size < k → t.size < m → allN k t = allN m t
  | 0, _, _, _, h, _ => absurd h (Nat.not_lt_zero _)
  | _ + 1, 0, _, _, _, h => absurd h (Nat.not_lt_zero _)
  | k + 1, m + 1, t, hr, hk, hm => by
    rw [allN, allN]
    congr 1
    have h : ∀ x ∈ kidsF t, allN k x = allN m x := fun x hx => by
      have h1 := kids_right hr x hx
      exact allN_same k m x h1.1 (by omega) (by omega)
    rw [List.flatMap_def, List.flatMap_def, List.map_congr_left h]
def allF (t : ByteArray) : List ByteArray := allN (t.size + 1) t
theorem allF_eq {t : ByteArray} (hr : rightB t = true) : allF t = t :: (kidsF t).flatMap allF := by
  unfold allF
  rw [allN]
  congr 1
  have h : ∀ x ∈ kidsF t, allN t.size x = allN (x.size + 1) x := fun x hx => by
    have h1 := kids_right hr x hx
    exact allN_same _ _ x h1.1 (by omega) (by omega)
  rw [List.flatMap_def, List.flatMap_def, List.map_congr_left h]
/-- A map that has these keys too. -/
def addAll (D : DataW Unit) (l : List ByteArray) : DataW Unit := l.foldl (fun D x => D.put (.string x.data.toList) (.lit (.int .i64 1))) D
theorem addAll_app (D : DataW Unit) (l m : List ByteArray) : addAll D (l ++ m) = addAll (addAll D l) m := by unfold addAll; rw [List.foldl_append]
/-- A right text that is shorter than so many bytes. -/
abbrev Sub (n : Nat) := { x : ByteArray // rightB x = true ∧ x.size < n }
def subs {n : Nat} (l : List ByteArray) (h : ∀ x ∈ l, rightB x = true ∧ x.size < n) : List (Sub n) := l.attachWith _ h
theorem subs_val {n : Nat} (l : List ByteArray) (h : ∀ x ∈ l, rightB x = true ∧ x.size < n) : (subs l h).map (·.1) = l := by
  unfold subs
  exact List.attachWith_map_subtype_val h
def flat {n : Nat} (pre : List (Sub n)) : List ByteArray := pre.flatMap fun x => allF x.1
theorem flat_snoc {n : Nat} (pre : List (Sub n)) (x : Sub n) : flat (pre ++ [x]) = flat pre ++ allF x.1 := by unfold flat; simp
theorem flat_all {n : Nat} (l : List ByteArray) (h : ∀ x ∈ l, rightB x = true ∧ x.size < n) : flat (subs l h) = l.flatMap allF := by
  have h1 : (subs l h).flatMap (fun x => allF x.1) = ((subs l h).map (·.1)).flatMap allF := by rw [List.flatMap_map]
  unfold flat
  rw [h1, subs_val]
theorem all_len : ∀ (k : Nat) (t : ByteArray), rightB t = true → t.size < k → (allN k t).length ≤ t.size
  | 0, _, _, h => absurd h (Nat.not_lt_zero _)
  | k + 1, t, hr, hk => by
    have h0 := ((right_iff t).mp hr).1.pos
    rw [allN, List.length_cons]
    have h1 : ((kidsF t).flatMap (allN k)).length + 1 ≤ t.size := by
      rcases right_cases hr with hl | ⟨hd, pow, n⟩
      · rw [kids_leaf hl]; exact h0
      · have h2 : ∀ l : List ByteArray, (∀ x ∈ l, rightB x = true ∧ x.size < k) → (l.flatMap (allN k)).length ≤ (cat l).size := by
          intro l
          induction l with
          | nil => intro _; exact Nat.zero_le _
          | cons x l ih =>
            intro h
            have h3 := all_len k x (h x List.mem_cons_self).1 (h x List.mem_cons_self).2
            have h4 := ih (fun y hy => h y (List.mem_cons_of_mem _ hy))
            rw [List.flatMap_cons, List.length_append, cat, ByteArray.size_append]
            omega
        have h5 := h2 (kidsF t) (fun x hx => by have := kids_right hr x hx; exact ⟨this.1, by omega⟩)
        have h6 := congrArg ByteArray.size n.eq
        rw [ByteArray.size_append] at h6
        have h7 := n.head.pos
        omega
    omega
theorem allF_len {t : ByteArray} (hr : rightB t = true) : (allF t).length ≤ t.size := all_len _ t hr (by omega)
theorem flat_len {n : Nat} : ∀ pre : List (Sub n), (flat pre).length ≤ pre.length * 20000
  | [] => Nat.zero_le _
  | x :: pre => by
    have h1 := flat_len pre
    have h2 := allF_len x.2.1
    have h3 := ((right_iff x.1).mp x.2.1).2
    unfold flat at h1 ⊢
    rw [List.flatMap_cons, List.length_append, List.length_cons]
    omega
theorem parts_gather.stops (n : Nat) (hn : 1 ≤ n) (B : Nat) (t : ByteArray) (hr : rightB t = true) (w : World) (hB : w.cell? ⟨B, 0, none⟩ = some (.string t)) :
    SeqStopsK Fence.wide n Try.prog 162 #[.pointer (some ⟨B, 0, none⟩)] (fun x : Sub t.size => #[Value.string x.1]) (fun _ _ => True) (fun ss => ss = subs (kidsF t) (fun x hx => ⟨(kids_right hr x hx).1, (kids_right hr x hx).2.1⟩)) (fun _ => True) (kidsF t).length w := fun l J Jx W hW hJ _ hY h0 => by
  have hlt := World.block_lt_of_cell? w _ hB
  have hz := ((right_iff t).mp hr).2
  have hx : (subs (kidsF t) (fun x hx => ⟨(kids_right hr x hx).1, (kids_right hr x hx).2.1⟩) : List (Sub t.size)).map (·.1) = kidsF t := subs_val _ _
  have hxl := congrArg List.length hx
  rw [List.length_map] at hxl
  refine (next1_in (fun x : Sub t.size => x.1) n hn l B t _ hx (by omega) (((right_iff t).mp hr).1.pos) (kids_two hr) J Jx (fun pre x W1 hJ1 hl => ?_) W hJ ((hW.cell (p := ⟨B, 0, none⟩) hlt).trans hB) h0).mono ?_
  · obtain ⟨fn, tmps, assign, body, hy, hR⟩ := hY pre x W1 hJ1 (by omega)
    exact ⟨fn, tmps, assign, body, hy, hR.mono fun e W' h => h.elim (fun h => .inl ⟨h.1, h.2.1⟩) (fun h => .inr h)⟩
  · rintro e W' ⟨hv, h | ⟨pre, h⟩⟩
    · exact ⟨hv, .inl ⟨_, rfl, h⟩⟩
    · exact ⟨hv, .inr ⟨pre, trivial, h⟩⟩
set_option maxHeartbeats 1000000 in
set_option maxRecDepth 100000 in
theorem parts_gather.calls : ∀ (m : Nat) (t : ByteArray), t.size < m → rightB t = true → ∀ (b n : Nat) (D : DataW Unit) (w : World), w.ownsMap Try.prog 48 (plainElem Try.prog 3) b n D → n + 500000000 * t.size < 9223372036854775807 →
    Calls Try.prog 124 #[.string t, .map (some b)] w fun e w' => e = .returned (.tuple #[]) ∧ w'.ownsMap Try.prog 48 (plainElem Try.prog 3) b (n + (allF t).length) (addAll D (allF t)) ∧ w.grownBy w' (some b)
  | 0, t, hm, _, _, _, _, _, _, _ => absurd hm (Nat.not_lt_zero _)
  | m + 1, t, hm, hr, b, n, D, w, hown, hnb => by
    have ih := parts_gather.calls m
    have IH := Aside0.mk ih
    have hz := ((right_iff t).mp hr).2
    have hbl := hown.lt
    have HN := Aside0.mk (parts_Of.next.calls t)
    have HR := Aside0.mk hr
    have HM := Aside0.mk hm
    have HNB := Aside0.mk hnb
    have hkey := Go.WideMaps.keyOf_string_mk (P := Try.prog) (s := t) Try.underlying48 (by unfold maxLen; omega)
    have hkl : (kidsF t).length ≤ 20000 := Nat.le_trans (tkF_len _) (Nat.le_trans (bodyF_size t) hz)
    have HKL := Aside0.mk hkl
    clear ih hr hm hnb hkl
    refine (callsIn_wide (n := 5)).1 ?_
    refine callsIn_of_wp_marks Try.func124 rfl trivial ?_ rfl
    simp only [Try.ntmps124, List.size_toArray, List.length_cons, List.length_nil, Nat.reduceAdd, Nat.reduceSub, Array.replicate_succ, Array.replicate_zero, List.push_toArray, List.append_toArray, List.nil_append, List.cons_append]
    gi_wp2_with (first
      | (gi_at_mapUpdate; refine wpListIn_mapUpdate_own _ rfl _ _ _ 173 rfl 48 3 (string_keyed Try.underlying48) Try.underlying173 _ b n D rfl (hown.alloc _) (by have := HNB.out; unfold maxLen; omega) _ _ _ rfl rfl hkey _ [] (plainElem_int Try.underlying3 (by decide)) ?_; intro w1 hown1 hgrow1; have hbx : Boxed w1 w.heap.size 173 (.map (some b)) := (Boxed.new w 173 (.map (some b))).kept hgrow1 (by simp; omega); have hc := hbx.cell)
      | (refine ⟨trivial, ?_⟩; gi_at_call 127; go_loud (refine (callsIn_wide.2 (HN.out _)).mono ?_; rintro e w3 ⟨rfl, rfl⟩)))
    obtain ⟨W0, hW0⟩ : ∃ W0, w1.alloc (.cells #[.string t] 48) = W0 := ⟨_, rfl⟩
    have hg1 : w.grownBy w1 (some b) := (World.grownBy_alloc w _ (some b)).trans hgrow1
    have hsz : W0.heap.size = w1.heap.size + 1 := by rw [← hW0]; simp
    have hb1 : b < w1.heap.size := hown1.lt
    have hs1 : w.heap.size < w1.heap.size := hbx.lt
    have hx0 : Boxed W0 w.heap.size 173 (.map (some b)) := by rw [← hW0]; exact hbx.alloc _
    have ho0 : W0.ownsMap Try.prog 48 (plainElem Try.prog 3) b (n + 1) (D.put (.string t.data.toList) (.lit (.int .i64 1))) := by rw [← hW0]; exact hown1.alloc _
    have hg0 : w.grownBy W0 (some b) := by rw [← hW0]; exact hg1.andThen (World.grownBy_alloc w1 _ none) (by simp)
    have hct : W0.cell? ⟨w1.heap.size, 0, none⟩ = some (.string t) := by rw [← hW0]; exact (Boxed.new w1 48 (.string t)).cell
    rw [hW0]
    clear hW0 hc
    refine wpIn_rangeFunc_ownG rfl (by omega) (gf := 162) (lb := #[.pointer (some ⟨w1.heap.size, 0, none⟩)]) rfl trivial (enters_of Try.func162 (by kernel_rfl) rfl)
      (parts_gather.stops 4 (by omega) w1.heap.size t HR.out W0 hct) (fun _ _ => trivial) (fun _ _ _ _ _ _ _ _ => trivial) (Below.refl _ _) (fun _ => rfl)
      (fun pre W => W.ownsMap Try.prog 48 (plainElem Try.prog 3) b (n + 1 + (flat pre).length) (addAll D (t :: flat pre)) ∧ Boxed W w.heap.size 173 (.map (some b)) ∧ w.grownBy W (some b)) (fun _ _ _ => False)
      ?own (fun _ _ _ _ _ hs _ _ => hs) ⟨ho0, hx0, hg0⟩
      (fun x => { tmps := #[.string t, .map (some b), undef, .pointer (some ⟨w.heap.size, 0, none⟩), .string x.1, .map (some b), .string t, .string t, .func (.func 162) #[] #[.pointer (some ⟨w1.heap.size, 0, none⟩)], .string x.1, undef, undef, undef], defers := [] }) ?assign ?body ?done ?stop
    case own =>
      rintro pre X Y row ⟨h1, h2, h3⟩ hg hr
      have hrow : ∀ r, row = some r → W0.heap.size ≤ r := fun r e => (hr r e).1
      refine ⟨h1.kept hg (fun e => by have := hrow b e.symm; omega), h2.kept hg (fun e => by have := hrow _ e.symm; omega), h3.andThen hg (fun j e => .inl (by have := hrow j e; omega))⟩
    case assign =>
      intro l x W K hK
      gi_wp2
      exact hK
    case body =>
      rintro l pre x W ⟨h1, h2, h3⟩ hlt
      have hcc := h2.cell
      have hx := x.2
      have HX := Aside0.mk hx
      have hbound : (flat pre).length ≤ 400000000 := by
        have h5 := flat_len pre
        have h6 : pre.length * 20000 ≤ 20000 * 20000 := Nat.mul_le_mul_right _ (by have := HKL.out; omega)
        omega
      have HC := Aside0.mk (IH.out x.1 (by have := HM.out; omega) hx.1 b _ _ W h1 (by have := HNB.out; omega))
      have H3 := Aside0.mk h3
      have H2 := Aside0.mk h2
      clear h1 hx hbound h2 h3
      gi_wp2_with (refine ⟨trivial, ?_⟩; gi_at_call 124; go_loud (refine (CallsIn.inRound l (callsIn_wide.2 HC.out)).mono ?_; rintro e w4 ⟨rfl, ho4, hg4⟩))
      refine ⟨KeepsFrom.of_grownBy hg4 (fun j e => by cases e; omega), trivial, ?_, H2.out.kept hg4 (fun e => by injection e with e; omega), H3.out.andThen hg4 (fun j e => .inr e)⟩
      rw [flat_snoc, List.length_append, ← Nat.add_assoc, ← List.cons_append, addAll_app]
      exact ho4
    case done =>
      rintro E ys W hE hS ⟨h1, h2, h3⟩ hK
      subst hS
      gi_wp2
      refine ⟨by simp, .inl ⟨_, _, rfl, run_takeDeferred hK, ?_⟩⟩
      have hE2 : b < E := by omega
      have he : allF t = t :: flat (subs (kidsF t) (fun x hx => ⟨(kids_right HR.out x hx).1, (kids_right HR.out x hx).2.1⟩) : List (Sub t.size)) := by rw [flat_all, allF_eq HR.out]
      refine ⟨_, by simp [results, Try.f124, go_sem], rfl, ?_, h3.andThen (grownBy_putObj' W E (.deferred none)) (fun j e => .inl (by cases e; omega))⟩
      rw [he, List.length_cons, show n + ((flat (subs (kidsF t) (fun x hx => ⟨(kids_right HR.out x hx).1, (kids_right HR.out x hx).2.1⟩) : List (Sub t.size))).length + 1) = n + 1 + (flat (subs (kidsF t) (fun x hx => ⟨(kids_right HR.out x hx).1, (kids_right HR.out x hx).2.1⟩) : List (Sub t.size))).length by omega]
      exact h1.kept (grownBy_putObj' W E (.deferred none)) (fun e => by injection e with e; omega)
    case stop =>
      rintro E c pre W hE _ h _
      exact h.elim

end Go.Proofs.Ytppimpadfgldjaa.F
