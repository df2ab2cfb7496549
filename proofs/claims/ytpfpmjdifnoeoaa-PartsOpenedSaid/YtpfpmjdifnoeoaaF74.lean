-- Laid by mk.py (a program of this session) over the seat's translation.
import Derived.Test.YtpfpmjdifnoeoaaF0
import Derived.Test.YtpfpmjdifnoeoaaF131
import Derived.Test.YtpfpmjdifnoeoaaF162
import Derived.Test.YtpfpmjdifnoeoaaF66
import Derived.Test.YtpfpmjdifnoeoaaF99
import Derived.Test.YtpfpmjdifnoeoaaLTerm2
import Derived.RangeFuncNested
import Derived.RangeFuncBound
import Derived.RangeFuncCalls
import Derived.RangeFuncLeaves
import Derived.Shelf.Abstract
import Derived.Shelf.AbstractIn
import Derived.Shelf.RegionOpen
import Derived.OwnWalkIn
import Derived.TacticsInMore
import Derived.LoopNIn
import Derived.LoopIn
import Derived.RangeFuncBox
import Derived.Shelf.SlIter.Collect
import Derived.Lib.OwnBridge
namespace Go.Proofs.Ytpfpmjdifnoeoaa.F
open Go.RowKit Go.Proofs.YtpfpmjdifnoeoaaW.PrintWords Go.Proofs.YtpfpmjdifnoeoaaW.PrintLast Go.Proofs.YtpfpmjdifnoeoaaW.PrintMore
attribute [local go_sem] max2_int min2_int max_two min_two max_three min_three max_four min_four
set_option linter.unusedVariables false
set_option linter.unusedSimpArgs false

/-! ### parts_Of: function 74 -/
open Go.Shelf Go.Proofs.Ytpfpmjdifnoeoaa.Pure
attribute [local go_sem] Oper.semAt_some
/-- What is taken of a text, one by one, until nothing is left or nothing can be taken. -/
def tkN : Nat → ByteArray → List ByteArray
  | 0, _ => []
  | n + 1, s => if s.size = 0 ∨ (takeF s).2.2 ≠ 0 then [] else (takeF s).1 :: tkN n (takeF s).2.1
theorem take_less {s : ByteArray} (h : (takeF s).2.2 = 0) : (takeF s).2.1.size < s.size := by
  unfold takeF at h ⊢
  by_cases c : (scanF s).2.2 = 0
  · have := scanF_end c
    rw [if_neg (show ¬ ((scanF s).2.2 ≠ 0) from fun h => h c)] at h ⊢
    by_cases c2 : (scanF s).1 > 20000
    · rw [if_pos c2] at h; exact absurd h (by decide)
    · rw [if_neg c2]
      show (s.extract (scanF s).1.toNat s.size).size < s.size
      rw [ByteArray.size_extract]
      omega
  · rw [if_pos c] at h
    exact absurd h c
theorem tkN_same : ∀ (n m : Nat) (s : ByteArray), s.size ≤ n → s.size ≤ m → tkN n s = tkN m s
  | 0, 0, _, _, _ => rfl
  | 0, m + 1, s, h, _ => by rw [tkN, tkN, if_pos (.inl (by omega))]
  | n + 1, 0, s, _, h => by rw [tkN, tkN, if_pos (.inl (by omega))]
  | n + 1, m + 1, s, h1, h2 => by
    rw [tkN, tkN]
    by_cases c : s.size = 0 ∨ (takeF s).2.2 ≠ 0
    · rw [if_pos c, if_pos c]
    · rw [if_neg c, if_neg c]
      have := take_less (s := s) (Decidable.byContradiction fun h => c (.inr h))
      rw [tkN_same n m _ (by omega) (by omega)]
def tkF (s : ByteArray) : List ByteArray := tkN s.size s
theorem tkF_nil {s : ByteArray} (h : s.size = 0) : tkF s = [] := by unfold tkF; rw [h]; rfl
theorem tkF_bad {s : ByteArray} (h : (takeF s).2.2 ≠ 0) : tkF s = [] := by
  unfold tkF
  cases hs : s.size with
  | zero => rfl
  | succ n => rw [tkN, if_pos (.inr h)]
theorem tkF_cons {s : ByteArray} (h0 : s.size ≠ 0) (h : (takeF s).2.2 = 0) : tkF s = (takeF s).1 :: tkF (takeF s).2.1 := by
  have hl := take_less h
  unfold tkF
  obtain ⟨n, hn⟩ : ∃ n, s.size = n + 1 := ⟨s.size - 1, by omega⟩
  rw [hn, tkN, if_neg (fun h_ => h_.elim h0 fun h1 => h1 h), tkN_same n (takeF s).2.1.size _ (by omega) (Nat.le_refl _)]
theorem tkF_len (s : ByteArray) : (tkF s).length ≤ s.size := by
  have h : ∀ (n : Nat) (s : ByteArray), (tkN n s).length ≤ n := by
    intro n
    induction n with
    | zero => intro s; exact Nat.le_refl _
    | succ n ih =>
      intro s
      rw [tkN]
      split
      · simp
      · rw [List.length_cons]; have := ih (takeF s).2.1; omega
  exact h _ _
/-- What stands behind a term's head. -/
def bodyF (t : ByteArray) : ByteArray :=
  if bt t 0 = 107 ∨ bt t 0 = 104 ∨ bt t 0 = 112 ∨ bt t 0 = 115 ∨ bt t 0 = 120 then t.extract 1 t.size else if bt t 0 = 101 then t.extract 2 t.size else ⟨#[]⟩
def kidsF (t : ByteArray) : List ByteArray := tkF (bodyF t)
theorem bodyF_size (t : ByteArray) : (bodyF t).size ≤ t.size := by
  unfold bodyF
  split
  · rw [ByteArray.size_extract]; omega
  · split
    · rw [ByteArray.size_extract]; omega
    · exact Nat.zero_le _
theorem parts_Of.size_nil {s : ByteArray} (h : s.size = 0) : s = ⟨#[]⟩ := by
  apply ByteArray.ext
  exact Array.eq_empty_of_size_eq_zero h
/-- A place in a value's text: for the loop's measure. -/
def parts_Of.leftOf : Value → Nat | .string s => s.size | _ => 0
set_option maxRecDepth 100000 in
set_option maxHeartbeats 4000000 in
theorem next1_in {α : Type} (val : α → ByteArray) (n : Nat) (hn : 1 ≤ n) (l B : Nat) (t : ByteArray) (xs : List α) (hx : xs.map val = kidsF t) (ht : t.size < 9223372036854775000) (hp : 0 < t.size) (h2 : bt t 0 = 101 → 2 ≤ t.size) (J Jx : List α → World → Prop)
    (hY : ∀ pre x W, J pre W → pre.length < xs.length → YieldAt Fence.wide (n - 1) Try.prog l #[.string (val x)] W fun e W' => (e = .returned (.bool true) ∧ J (pre ++ [x]) W') ∨ (e = .returned (.bool false) ∧ Jx (pre ++ [x]) W'))
    (W : World) (hJ : AbidesFrom W.heap.size J) (hB : W.cell? ⟨B, 0, none⟩ = some (.string t)) (h0 : J [] W) :
    CallsIn Fence.wide n Try.prog 157 #[.func (.yield l) #[] #[], .pointer (some ⟨B, 0, none⟩)] W fun e W' => (∃ v, e = .returned v) ∧ (J xs W' ∨ ∃ pre, Jx pre W') := by
  have hbx : ∀ (h : 0 < t.size), ((t[0]'h).toNat : Int) = bt t 0 := fun h => bt_at t 0 h
  have HX := Aside0.mk hx
  have HS := Aside0.mk (bodyF_size t)
  have HJ := Aside0.mk hJ
  have HY := Aside0.mk hY
  clear hx hJ hY
  obtain ⟨b, hb⟩ : ∃ b, b = bodyF t := ⟨_, rfl⟩
  have HBD := Aside0.mk hb
  unfold bodyF at hb
  obtain ⟨c, hc⟩ : ∃ c, c = bt t 0 := ⟨_, rfl⟩
  rw [← hc] at hb hbx h2
  refine callsIn_of_wp Try.func157 rfl trivial ?_ rfl
  simp only [Try.ntmps157, List.size_toArray, List.length_cons, List.length_nil, Nat.reduceAdd, Nat.reduceSub, Array.replicate_succ, Array.replicate_zero, List.push_toArray, List.append_toArray, List.nil_append, List.cons_append]
  have hcs : (c = 107 ∧ b = t.extract 1 t.size) ∨ (c = 104 ∧ b = t.extract 1 t.size) ∨ (c = 112 ∧ b = t.extract 1 t.size) ∨ (c = 115 ∧ b = t.extract 1 t.size) ∨ (c = 120 ∧ b = t.extract 1 t.size) ∨ (c = 101 ∧ 2 ≤ t.size ∧ b = t.extract 2 t.size) ∨ (c ≠ 107 ∧ c ≠ 104 ∧ c ≠ 112 ∧ c ≠ 115 ∧ c ≠ 120 ∧ c ≠ 101 ∧ b = ⟨#[]⟩) := by
    by_cases d1 : c = 107
    · exact .inl ⟨d1, by rw [hb, if_pos (.inl d1)]⟩
    by_cases d2 : c = 104
    · exact .inr (.inl ⟨d2, by rw [hb, if_pos (.inr (.inl d2))]⟩)
    by_cases d3 : c = 112
    · exact .inr (.inr (.inl ⟨d3, by rw [hb, if_pos (.inr (.inr (.inl d3)))]⟩))
    by_cases d4 : c = 115
    · exact .inr (.inr (.inr (.inl ⟨d4, by rw [hb, if_pos (.inr (.inr (.inr (.inl d4))))]⟩)))
    by_cases d5 : c = 120
    · exact .inr (.inr (.inr (.inr (.inl ⟨d5, by rw [hb, if_pos (.inr (.inr (.inr (.inr d5))))]⟩))))
    have hn : ¬ (c = 107 ∨ c = 104 ∨ c = 112 ∨ c = 115 ∨ c = 120) := by rintro (h | h | h | h | h) <;> contradiction
    by_cases d6 : c = 101
    · exact .inr (.inr (.inr (.inr (.inr (.inl ⟨d6, h2 d6, by rw [hb, if_neg hn, if_pos d6]⟩)))))
    · exact .inr (.inr (.inr (.inr (.inr (.inr ⟨d1, d2, d3, d4, d5, d6, by rw [hb, if_neg hn, if_neg d6]⟩)))))
  clear hb h2
  have HT := Aside0.mk (fun (s : ByteArray) (hs : s.size < 9223372036854775000) W => term_Take.calls s (takeF s).1 (takeF s).2.1 (takeF s).2.2 W (by unfold term_Take.f; rw [if_pos hs]))
  clear hc
  rcases hcs with ⟨rfl, hb⟩ | ⟨rfl, hb⟩ | ⟨rfl, hb⟩ | ⟨rfl, hb⟩ | ⟨rfl, hb⟩ | ⟨rfl, h2, hb⟩ | ⟨n1, n2, n3, n4, n5, n6, hb⟩
  case' inl | inr.inl | inr.inr.inl | inr.inr.inr.inl | inr.inr.inr.inr.inl => (have hp1 : (1 : Int) ≤ t.size := by omega)
  case' inr.inr.inr.inr.inr.inl => (have hp1 : (2 : Int) ≤ t.size := by omega); clear h2
  case' inr.inr.inr.inr.inr.inr =>
    have e1 : (c == 107) = false := beq_eq_false_iff_ne.mpr n1
    have e2 : (c == 104) = false := beq_eq_false_iff_ne.mpr n2
    have e3 : (c == 112) = false := beq_eq_false_iff_ne.mpr n3
    have e4 : (c == 115) = false := beq_eq_false_iff_ne.mpr n4
    have e5 : (c == 120) = false := beq_eq_false_iff_ne.mpr n5
    have e6 : (c == 101) = false := beq_eq_false_iff_ne.mpr n6
    clear n1 n2 n3 n4 n5 n6
  all_goals
    gi_wp2
    gi_loopw [3] (fun v wr => ∃ (pre rest : List α) (s : ByteArray), v = .string s ∧ xs = pre ++ rest ∧ rest.map val = tkF s ∧ s.size ≤ t.size ∧ Aside0 (AbidesFrom W.heap.size J) ∧ J pre wr) (fun v _ => parts_Of.leftOf v)
    case atStart => exact ⟨[], xs, b, by rw [hb], rfl, by rw [HX.out, kidsF, ← HBD.out], by rw [HBD.out]; exact HS.out, HJ, h0⟩
    case round =>
      clear hb hbx hB h0 HX HBD
      obtain ⟨pre, rest, s, rfl, hxs, hr, hss, HJ, hJs⟩ := hrel
      have HXS := Aside0.mk hxs
      by_cases hz : s.size = 0
      · obtain rfl : s = ⟨#[]⟩ := parts_Of.size_nil hz
        rw [tkF_nil rfl, List.map_eq_nil_iff] at hr
        subst hr
        clear hxs
        gi_wp2
        go_end0
        exact ⟨⟨_, rfl⟩, .inl (by rw [HXS.out, List.append_nil]; exact hJs)⟩
      · have hn1 : (s.toList == ([] : List UInt8)) = false := by
          cases hl : s.toList with
          | nil => exact absurd (by rw [ByteArray.toList_eq] at hl; have h1 := congrArg List.length hl; rw [Array.length_toList] at h1; exact h1) hz
          | cons x y => rfl
        have hn2 : (s.toList != ([] : List UInt8)) = true := by rw [bne, hn1]; rfl
        have HTs := Aside0.mk (HT.out s (by omega))
        by_cases hc : (takeF s).2.2 = 0
        · rw [tkF_cons hz hc] at hr
          obtain ⟨x, rest, rfl, hx, hr⟩ := List.map_eq_cons_iff.mp hr
          have hl := take_less hc
          rw [hc, ← hx] at HTs
          obtain ⟨r, hr0⟩ : ∃ r, r = (takeF s).2.1 := ⟨_, rfl⟩
          rw [← hr0] at HTs hr hl
          have HR := Aside0.mk hr
          have HL := Aside0.mk hl
          clear hr hr0 hx hc hl hxs
          gi_wp2_with (refine ⟨trivial, ?_⟩; gi_at_call 99; go_loud (refine (callsIn_wide.2 (HTs.out _)).mono ?_; rintro e w1 ⟨rfl, hb1⟩; have hJ1 := HJ.out _ _ w1 none hJs ⟨hb1.os, hb1.tape, hb1.output, hb1.size, fun k hk _ => hb1.block k hk⟩ (fun r e => by cases e); obtain ⟨fn, tmps, assign, body, hy, hR⟩ := HY.out pre x w1 hJ1 (by rw [HXS.out]; simp)))
          refine hR.mono ?_
          rintro e W3 (⟨rfl, hJ3⟩ | ⟨rfl, hJx3⟩)
          · gi_wp2
            go_roundw
            case rel => exact ⟨pre ++ [x], rest, r, rfl, by rw [HXS.out]; simp, HR.out, by have := HL.out; omega, HJ, hJ3⟩
            case measure => exact HL.out
          · gi_wp2
            refine bodyPost_ret (results_none rfl _ _ _) rfl ?_
            exact ⟨⟨_, rfl⟩, .inr ⟨_, hJx3⟩⟩
        · rw [tkF_bad hc, List.map_eq_nil_iff] at hr
          subst hr
          obtain ⟨q, hq⟩ : ∃ q, q = (takeF s).2.2 := ⟨_, rfl⟩
          rw [← hq] at HTs hc
          have hq1 : (q == 0) = false := beq_eq_false_iff_ne.mpr hc
          have hq2 : (q != 0) = true := bne_iff_ne.mpr hc
          clear hq hc hxs
          gi_wp2_with (refine ⟨trivial, ?_⟩; gi_at_call 99; go_loud (refine (callsIn_wide.2 (HTs.out _)).mono ?_; rintro e w1 ⟨rfl, hb1⟩; have hJ1 := HJ.out _ _ w1 none hJs ⟨hb1.os, hb1.tape, hb1.output, hb1.size, fun k hk _ => hb1.block k hk⟩ (fun r e => by cases e)))
          refine ⟨fun f h => (by cases h), ?_⟩
          gi_wp2
          refine bodyPost_ret (results_none rfl _ _ _) rfl ?_
          exact ⟨⟨_, rfl⟩, .inl (by rw [HXS.out, List.append_nil]; exact hJ1)⟩
def parts_Of.ren : Go.Shelf.Ren := ⟨fun | 8 => 124 | 11 => 156 | n => n, fun | 26 => 23 | 28 => 152 | 24 => 37 | 0 => 0 | 33 => 75 | 4 => 4 | n => n, fun | n => n⟩
theorem parts_Of.lay : Go.Proofs.SlLaysZ.n8 Try.prog parts_Of.ren := {
  mixed := by kernel_rfl
  f8 := ⟨Try.f124.name, by decide, Try.func124.trans (congrArg some (by kernel_rfl))⟩
  f11 := ⟨Try.f156.name, by decide, Try.func156.trans (congrArg some (by kernel_rfl))⟩
  t0 := Try.underlying0
  a0 := Try.isAgg0
  z0 := Try.sizeOf0
  v0 := Try.zeroValue0
  t24 := Try.underlying37
  a24 := Try.isAgg37
  z24 := Try.sizeOf37
  v24 := Try.zeroValue37
  t26 := Try.underlying23
  a26 := Try.isAgg23
  z26 := Try.sizeOf23
  v26 := Try.zeroValue23
  t28 := Try.underlying152
  a28 := Try.isAgg152
  z28 := Try.sizeOf152
  v28 := Try.zeroValue152
  i26 := by kernel_rfl }
/-- A list of bytes as a text, and back. -/
def txt (l : List UInt8) : ByteArray := ⟨l.toArray⟩
theorem txt_map (l : List ByteArray) : (l.map (·.data.toList)).map txt = l := by
  rw [List.map_map]
  conv => rhs; rw [← List.map_id l]
  apply List.map_congr_left
  intro x _
  rfl
/-- The iterator over a right term's parts gives these, in their order. -/
theorem parts_Of.gives (n : Nat) (hn : 1 ≤ n) (B : Nat) (t : ByteArray) (ht : t.size < 9223372036854775000) (hp : 0 < t.size) (h2 : bt t 0 = 101 → 2 ≤ t.size) (w : World) (hB : w.cell? ⟨B, 0, none⟩ = some (.string t)) :
    SeqGives Fence.wide n Try.prog 157 #[.pointer (some ⟨B, 0, none⟩)] Go.Proofs.encStr (fun ss => ss = (kidsF t).map (·.data.toList)) (kidsF t).length w := fun l J W hW hJ hY h0 => by
  have hlt := World.block_lt_of_cell? w _ hB
  refine (next1_in txt n hn l B t ((kidsF t).map (·.data.toList)) (txt_map _) ht hp h2 J (fun _ _ => False) (fun pre x W1 hJ1 hl => ?_) W hJ ((hW.cell (p := ⟨B, 0, none⟩) hlt).trans hB) h0).mono ?_
  · have := hY pre x W1 hJ1 (by simpa using hl)
    obtain ⟨fn, tmps, assign, body, hy, hR⟩ := this
    exact ⟨fn, tmps, assign, body, hy, hR.mono fun e W' ⟨h1, h2, _⟩ => .inl ⟨h1, h2⟩⟩
  · rintro e W' ⟨hv, h | ⟨pre, h⟩⟩
    · exact ⟨hv, _, rfl, h⟩
    · exact h.elim
theorem parts_Of.next.calls (t : ByteArray) (w : World) :
    Calls Try.prog 125 #[.string t] w fun e w' => e = .returned (.func (.func 157) #[] #[.pointer (some ⟨w.heap.size, 0, none⟩)]) ∧ w' = w.alloc (.cells #[.string t] 23) := by
  go_enter Try.func125, Try.ntmps125
  go_wp2
  go_ret
  exact ⟨rfl, rfl⟩
/-- What stands in a text next to it: of a right term its parts. -/
def kidsP (t : ByteArray) : List ByteArray := if rightB t = true then kidsF t else []
def parts_Of.f (t : ByteArray) : Option (List ByteArray) := if t.size < 9223372036854775000 then some (kidsP t) else none
theorem kids_two {t : ByteArray} (h : rightB t = true) (h1 : bt t 0 = 101) : 2 ≤ t.size := by
  have ht := ((right_iff t).mp h).1
  rcases ht.cases with hl | ⟨h, ts, pow, n⟩
  · exfalso
    refine hl.1 ?_
    unfold leafF
    rw [h1]
    rfl
  · have hl : 1 ≤ ts.length := by
      have hh := n.head
      cases hh with
      | pow h1 h2 => assumption
      | _ => simp
    have h0 := n.head.pos
    cases ts with
    | nil => simp at hl
    | cons x r =>
      have h3 := (n.parts x List.mem_cons_self).1.pos
      rw [n.eq, cat, ByteArray.size_append, ByteArray.size_append]
      omega
theorem parts_Of.call_collect (t : ByteArray) (hr : rightB t = true) (w : World) :
    CallsIn Fence.wide 4 Try.prog 124 #[.func (.func 157) #[] #[.pointer (some ⟨w.heap.size, 0, none⟩)]] (w.alloc (.cells #[.string t] 23)) fun e w' =>
      ∃ v : Value, e = .returned v ∧ Kd.R Kd.string 23 w' w.heap.size (fun _ => True) v (kidsF t) ∧ Below w.heap.size w w' := by
  have hb := ((right_iff t).mp hr)
  have hp := hb.1.pos
  have hl : (kidsF t).length ≤ 20000 := Nat.le_trans (tkF_len _) (Nat.le_trans (bodyF_size t) hb.2)
  have hc : (w.alloc (.cells #[.string t] 23)).cell? ⟨w.heap.size, 0, none⟩ = some (.string t) := (Boxed.new w 23 (.string t)).cell
  have hs := parts_Of.gives 2 (by omega) w.heap.size t (by have := hb.2; omega) hp (kids_two hr) _ hc
  have := AnyZ.collect_in parts_Of.lay Fence.wide 4 trivial trivial rfl (by omega) 157 #[.pointer (some ⟨w.heap.size, 0, none⟩)] trivial (enters_of Try.func157 (by kernel_rfl) rfl) _ (kidsF t).length (by unfold maxLen; omega) (by omega) _ hs
  refine CallsIn.mono this ?_
  rintro e w' ⟨v, ss, rfl, rfl, hrow, _, hbl⟩
  refine ⟨v, rfl, Kd.R_of_own ?_ (fun _ _ => trivial), ((Below.refl _ w).alloc (Nat.le_refl _) _).trans (hbl.mono (by simp))⟩
  have h1 := ownsRow_base_a hrow (base' := w.heap.size) (by simp)
  rw [Lib.map_encStr, List.length_map] at h1
  exact h1
set_option maxHeartbeats 400000 in
set_option maxRecDepth 10000 in
theorem parts_Of.calls (a0 : ByteArray) (r : List ByteArray) (w : World) (h : parts_Of.f a0 = some r) :
    Calls Try.prog 74 #[.string a0] w fun e w' => ∃ v0_ : Value, e = .returned (v0_) ∧ Kd.R Kd.string 23 w' w.heap.size (fun _ => True) v0_ r ∧ Below w.heap.size w w' := by
  unfold parts_Of.f at h
  split at h
  case isFalse => cases h
  rename_i hsz
  replace h := Option.some.inj h
  have HR := Aside0.mk (fun W => term_Right.calls a0 (rightB a0) W (by rw [term_Right.f, if_pos hsz]))
  have HN := Aside0.mk (parts_Of.next.calls a0)
  have HC := Aside0.mk (parts_Of.call_collect a0)
  have HH := Aside0.mk h
  unfold kidsP at HH
  obtain ⟨q, hq⟩ : ∃ q, q = rightB a0 := ⟨_, rfl⟩
  rw [← hq] at HR HC HH
  clear h hsz hq
  cases q
  · rw [if_neg (by decide)] at HH
    obtain rfl := HH.out
    clear HH HC HN
    go_enter Try.func74, Try.ntmps74
    go_wp2_with (go_at_call 66; go_loud (refine (HR.out _).mono ?_; rintro e w1 ⟨rfl, hb1⟩; have HB1 := Aside0.mk hb1; clear hb1))
    go_ret
    exact ⟨_, rfl, Kd.R_nil Kd.string _ _ _ _, HB1.out⟩
  · rw [if_pos rfl] at HH
    obtain rfl := HH.out
    clear HH
    have HC2 := Aside0.mk (HC.out rfl)
    clear HC
    refine (callsIn_wide (n := 5)).1 ?_
    refine callsIn_of_wp Try.func74 rfl trivial ?_ rfl
    simp only [Try.ntmps74, List.size_toArray, List.length_cons, List.length_nil, Nat.reduceAdd, Nat.reduceSub, Array.replicate_succ, Array.replicate_zero, List.push_toArray, List.append_toArray, List.nil_append, List.cons_append]
    have hw4 : 5 - 1 = 4 := rfl
    gi_wp2_with (first | (refine ⟨trivial, ?_⟩; gi_at_call 66; go_loud (refine (callsIn_wide.2 (HR.out _)).mono ?_; rintro e w1 ⟨rfl, hb1⟩; have HB1 := Aside0.mk hb1; clear hb1)) | (refine ⟨trivial, ?_⟩; gi_at_call 125; go_loud (refine (callsIn_wide.2 (HN.out _)).mono ?_; rintro e w2 ⟨rfl, rfl⟩)) | (refine ⟨trivial, ?_⟩; gi_at_call 124; go_loud (refine CallsIn.mono (HC2.out _) ?_; rintro e w3 ⟨v, rfl, hR, hb3⟩; have HR3 := Aside0.mk hR; have HB3 := Aside0.mk hb3; clear hR hb3)))
    go_ret
    exact ⟨_, rfl, Kd.R_lower HR3.out HB1.out.size, below_then HB1.out HB1.out.size HB3.out⟩

end Go.Proofs.Ytpfpmjdifnoeoaa.F
