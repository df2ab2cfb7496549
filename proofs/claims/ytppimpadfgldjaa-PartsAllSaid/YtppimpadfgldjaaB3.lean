/- The program's functions on what stands in terms, and plain facts about it; no condition. -/
import Derived.Test.YtppimpadfgldjaaF0
import Derived.Test.YtppimpadfgldjaaB1
import Derived.RangeFuncNested
import Derived.RangeFuncBound
import Derived.RangeFuncCalls
import Derived.RangeFuncLeaves
import Derived.Shelf.Abstract
import Derived.Shelf.AbstractIn
import Derived.Shelf.RegionOpen
import Derived.OwnWalkIn
import Derived.TacticsInMore
import Derived.LoopNIn
import Derived.LoopIn
import Derived.RangeFuncBox
import Derived.Shelf.SlIter.Collect
import Derived.Lib.OwnBridge
import Derived.Test.YtppimpadfgldjaaB2
import Derived.Lib.ConvBytes
import Derived.Lib.AtoiErrMem
import Derived.Laws.BitsLemmas
namespace Go.Proofs.Ytppimpadfgldjaa.F
open Go.RowKit Go.Proofs.YtppimpadfgldjaaW.PrintWords Go.Proofs.YtppimpadfgldjaaW.PrintLast Go.Proofs.YtppimpadfgldjaaW.PrintMore
attribute [local go_sem] max2_int min2_int max_two min_two max_three min_three max_four min_four
set_option linter.unusedVariables false
set_option linter.unusedSimpArgs false

/-! ### parts_Of: function 74 -/
open Go.Shelf Go.Proofs.Ytppimpadfgldjaa.Pure
attribute [local go_sem] Oper.semAt_some
/-- What is taken of a text, one by one, until nothing is left or nothing can be taken. -/
def tkN : Nat → ByteArray → List ByteArray
  | 0, _ => []
  | n + 1, s => if s.size = 0 ∨ (takeF s).2.2 ≠ 0 then [] else (takeF s).1 :: tkN n (takeF s).2.1
theorem take_less {s : ByteArray} (h : (takeF s).2.2 = 0) : (takeF s).2.1.size < s.size := by
  unfold takeF at h ⊢
  by_cases c : (scanF s).2.2 = 0
  · have := scanF_end c
    rw [if_neg (show ¬ ((scanF s).2.2 ≠ 0) from fun h => h c)] at h ⊢
    by_cases c2 : (scanF s).1 > 20000
    · rw [if_pos c2] at h; exact absurd h (by decide)
    · rw [if_neg c2]
      show (s.extract (scanF s).1.toNat s.size).size < s.size
      rw [ByteArray.size_extract]
      omega
  · rw [if_pos c] at h
    exact absurd h c
theorem tkN_same : ∀ (n m : Nat) (s : ByteArray), s.size ≤ n → s.size ≤ m → tkN n s = tkN m s
  | 0, 0, _, _, _ => rfl
  | 0, m + 1, s, h, _ => by rw [tkN, tkN, if_pos (.inl (by omega))]
  | n + 1, 0, s, _, h => by rw [tkN, tkN, if_pos (.inl (by omega))]
  | n + 1, m + 1, s, h1, h2 => by
    rw [tkN, tkN]
    by_cases c : s.size = 0 ∨ (takeF s).2.2 ≠ 0
    · rw [if_pos c, if_pos c]
    · rw [if_neg c, if_neg c]
      have := take_less (s := s) (Decidable.byContradiction fun h => c (.inr h))
      rw [tkN_same n m _ (by omega) (by omega)]
def tkF (s : ByteArray) : List ByteArray := tkN s.size s
theorem tkF_nil {s : ByteArray} (h : s.size = 0) : tkF s = [] := by unfold tkF; rw [h]; rfl
theorem tkF_bad {s : ByteArray} (h : (takeF s).2.2 ≠ 0) : tkF s = [] := by
  unfold tkF
  cases hs : s.size with
  | zero => rfl
  | succ n => rw [tkN, if_pos (.inr h)]
theorem tkF_cons {s : ByteArray} (h0 : s.size ≠ 0) (h : (takeF s).2.2 = 0) : tkF s = (takeF s).1 :: tkF (takeF s).2.1 := by
  have hl := take_less h
  unfold tkF
  obtain ⟨n, hn⟩ : ∃ n, s.size = n + 1 := ⟨s.size - 1, by omega⟩
  rw [hn, tkN, if_neg (fun h_ => h_.elim h0 fun h1 => h1 h), tkN_same n (takeF s).2.1.size _ (by omega) (Nat.le_refl _)]
theorem tkF_len (s : ByteArray) : (tkF s).length ≤ s.size := by
  have h : ∀ (n : Nat) (s : ByteArray), (tkN n s).length ≤ n := by
    intro n; induction n with
    | zero => intro s; exact Nat.le_refl _
    | succ n ih =>
      intro s; rw [tkN]
      split
      · simp
      · rw [List.length_cons]; have := ih (takeF s).2.1; omega
  exact h _ _
/-- What stands behind a term's head. -/
def bodyF (t : ByteArray) : ByteArray :=
  if bt t 0 = 107 ∨ bt t 0 = 104 ∨ bt t 0 = 112 ∨ bt t 0 = 115 ∨ bt t 0 = 120 then t.extract 1 t.size else if bt t 0 = 101 then t.extract 2 t.size else ⟨#[]⟩
def kidsF (t : ByteArray) : List ByteArray := tkF (bodyF t)
theorem bodyF_size (t : ByteArray) : (bodyF t).size ≤ t.size := by
  unfold bodyF
  split
  · rw [ByteArray.size_extract]; omega
  · split
    · rw [ByteArray.size_extract]; omega
    · exact Nat.zero_le _
theorem parts_Of.size_nil {s : ByteArray} (h : s.size = 0) : s = ⟨#[]⟩ := by
  apply ByteArray.ext
  exact Array.eq_empty_of_size_eq_zero h
/-- A place in a value's text: for the loop's measure. -/
def parts_Of.leftOf : Value → Nat | .string s => s.size | _ => 0
set_option maxRecDepth 100000 in
set_option maxHeartbeats 4000000 in
theorem next1_in {α : Type} (val : α → ByteArray) (n : Nat) (hn : 1 ≤ n) (l B : Nat) (t : ByteArray) (xs : List α) (hx : xs.map val = kidsF t) (ht : t.size < 9223372036854775808) (hp : 0 < t.size) (h2 : bt t 0 = 101 → 2 ≤ t.size) (J Jx : List α → World → Prop)
    (hY : ∀ pre x W, J pre W → pre.length < xs.length → YieldAt Fence.wide (n - 1) Try.prog l #[.string (val x)] W fun e W' => (e = .returned (.bool true) ∧ J (pre ++ [x]) W') ∨ (e = .returned (.bool false) ∧ Jx (pre ++ [x]) W'))
    (W : World) (hJ : AbidesFrom W.heap.size J) (hB : W.cell? ⟨B, 0, none⟩ = some (.string t)) (h0 : J [] W) :
    CallsIn Fence.wide n Try.prog 162 #[.func (.yield l) #[] #[], .pointer (some ⟨B, 0, none⟩)] W fun e W' => (∃ v, e = .returned v) ∧ (J xs W' ∨ ∃ pre, Jx pre W') := by
  have hbx : ∀ (h : 0 < t.size), ((t[0]'h).toNat : Int) = bt t 0 := fun h => bt_at t 0 h
  have HX := Aside0.mk hx
  have HS := Aside0.mk (bodyF_size t)
  have HJ := Aside0.mk hJ
  have HY := Aside0.mk hY
  clear hx hJ hY; obtain ⟨b, hb⟩ : ∃ b, b = bodyF t := ⟨_, rfl⟩
  have HBD := Aside0.mk hb
  unfold bodyF at hb
  obtain ⟨c, hc⟩ : ∃ c, c = bt t 0 := ⟨_, rfl⟩
  rw [← hc] at hb hbx h2
  refine callsIn_of_wp Try.func162 rfl trivial ?_ rfl
  simp only [Try.ntmps162, List.size_toArray, List.length_cons, List.length_nil, Nat.reduceAdd, Nat.reduceSub, Array.replicate_succ, Array.replicate_zero, List.push_toArray, List.append_toArray, List.nil_append, List.cons_append]
  have hcs : (c = 107 ∧ b = t.extract 1 t.size) ∨ (c = 104 ∧ b = t.extract 1 t.size) ∨ (c = 112 ∧ b = t.extract 1 t.size) ∨ (c = 115 ∧ b = t.extract 1 t.size) ∨ (c = 120 ∧ b = t.extract 1 t.size) ∨ (c = 101 ∧ 2 ≤ t.size ∧ b = t.extract 2 t.size) ∨ (c ≠ 107 ∧ c ≠ 104 ∧ c ≠ 112 ∧ c ≠ 115 ∧ c ≠ 120 ∧ c ≠ 101 ∧ b = ⟨#[]⟩) := by
    by_cases d1 : c = 107
    · exact .inl ⟨d1, by rw [hb, if_pos (.inl d1)]⟩
    by_cases d2 : c = 104
    · exact .inr (.inl ⟨d2, by rw [hb, if_pos (.inr (.inl d2))]⟩)
    by_cases d3 : c = 112
    · exact .inr (.inr (.inl ⟨d3, by rw [hb, if_pos (.inr (.inr (.inl d3)))]⟩))
    by_cases d4 : c = 115
    · exact .inr (.inr (.inr (.inl ⟨d4, by rw [hb, if_pos (.inr (.inr (.inr (.inl d4))))]⟩)))
    by_cases d5 : c = 120
    · exact .inr (.inr (.inr (.inr (.inl ⟨d5, by rw [hb, if_pos (.inr (.inr (.inr (.inr d5))))]⟩))))
    have hn : ¬ (c = 107 ∨ c = 104 ∨ c = 112 ∨ c = 115 ∨ c = 120) := by rintro (h | h | h | h | h) <;> contradiction
    by_cases d6 : c = 101
    · exact .inr (.inr (.inr (.inr (.inr (.inl ⟨d6, h2 d6, by rw [hb, if_neg hn, if_pos d6]⟩)))))
    · exact .inr (.inr (.inr (.inr (.inr (.inr ⟨d1, d2, d3, d4, d5, d6, by rw [hb, if_neg hn, if_neg d6]⟩)))))
  clear hb h2; have HT := Aside0.mk (fun (s : ByteArray) (hs : s.size < 9223372036854775808) W => term_Take.calls s (takeF s).1 (takeF s).2.1 (takeF s).2.2 W (by unfold term_Take.f; rw [if_pos hs]))
  clear hc; rcases hcs with ⟨rfl, hb⟩ | ⟨rfl, hb⟩ | ⟨rfl, hb⟩ | ⟨rfl, hb⟩ | ⟨rfl, hb⟩ | ⟨rfl, h2, hb⟩ | ⟨n1, n2, n3, n4, n5, n6, hb⟩
  case' inl | inr.inl | inr.inr.inl | inr.inr.inr.inl | inr.inr.inr.inr.inl => (have hp1 : (1 : Int) ≤ t.size := by omega)
  case' inr.inr.inr.inr.inr.inl => (have hp1 : (2 : Int) ≤ t.size := by omega); clear h2
  case' inr.inr.inr.inr.inr.inr =>
    have e1 : (c == 107) = false := beq_eq_false_iff_ne.mpr n1
    have e2 : (c == 104) = false := beq_eq_false_iff_ne.mpr n2
    have e3 : (c == 112) = false := beq_eq_false_iff_ne.mpr n3
    have e4 : (c == 115) = false := beq_eq_false_iff_ne.mpr n4
    have e5 : (c == 120) = false := beq_eq_false_iff_ne.mpr n5
    have e6 : (c == 101) = false := beq_eq_false_iff_ne.mpr n6
    clear n1 n2 n3 n4 n5 n6
  all_goals
    gi_wp2
    gi_loopw [3] (fun v wr => ∃ (pre rest : List α) (s : ByteArray), v = .string s ∧ xs = pre ++ rest ∧ rest.map val = tkF s ∧ s.size ≤ t.size ∧ Aside0 (AbidesFrom W.heap.size J) ∧ J pre wr) (fun v _ => parts_Of.leftOf v)
    case atStart => exact ⟨[], xs, b, by rw [hb], rfl, by rw [HX.out, kidsF, ← HBD.out], by rw [HBD.out]; exact HS.out, HJ, h0⟩
    case round =>
      clear hb hbx hB h0 HX HBD; obtain ⟨pre, rest, s, rfl, hxs, hr, hss, HJ, hJs⟩ := hrel; have HXS := Aside0.mk hxs
      by_cases hz : s.size = 0
      · obtain rfl : s = ⟨#[]⟩ := parts_Of.size_nil hz
        rw [tkF_nil rfl, List.map_eq_nil_iff] at hr
        subst hr; clear hxs; gi_wp2
        go_end0
        exact ⟨⟨_, rfl⟩, .inl (by rw [HXS.out, List.append_nil]; exact hJs)⟩
      · have hn1 : (s.toList == ([] : List UInt8)) = false := by
          cases hl : s.toList with
          | nil => exact absurd (by rw [ByteArray.toList_eq] at hl; have h1 := congrArg List.length hl; rw [Array.length_toList] at h1; exact h1) hz
          | cons x y => rfl
        have hn2 : (s.toList != ([] : List UInt8)) = true := by rw [bne, hn1]; rfl
        have HTs := Aside0.mk (HT.out s (by omega))
        by_cases hc : (takeF s).2.2 = 0
        · rw [tkF_cons hz hc] at hr
          obtain ⟨x, rest, rfl, hx, hr⟩ := List.map_eq_cons_iff.mp hr; have hl := take_less hc
          rw [hc, ← hx] at HTs
          obtain ⟨r, hr0⟩ : ∃ r, r = (takeF s).2.1 := ⟨_, rfl⟩
          rw [← hr0] at HTs hr hl
          have HR := Aside0.mk hr
          have HL := Aside0.mk hl
          clear hr hr0 hx hc hl hxs; gi_wp2_with (refine ⟨trivial, ?_⟩; gi_at_call 148; go_loud (refine (callsIn_wide.2 (HTs.out _)).mono ?_; rintro e w1 ⟨rfl, hb1⟩; have hJ1 := HJ.out _ _ w1 none hJs ⟨hb1.os, hb1.tape, hb1.output, hb1.size, fun k hk _ => hb1.block k hk⟩ (fun r e => by cases e); obtain ⟨fn, tmps, assign, body, hy, hR⟩ := HY.out pre x w1 hJ1 (by rw [HXS.out]; simp)))
          refine hR.mono ?_
          rintro e W3 (⟨rfl, hJ3⟩ | ⟨rfl, hJx3⟩)
          · gi_wp2
            go_roundw
            case rel => exact ⟨pre ++ [x], rest, r, rfl, by rw [HXS.out]; simp, HR.out, by have := HL.out; omega, HJ, hJ3⟩
            case measure => exact HL.out
          · gi_wp2
            refine bodyPost_ret (results_none rfl _ _ _) rfl ?_
            exact ⟨⟨_, rfl⟩, .inr ⟨_, hJx3⟩⟩
        · rw [tkF_bad hc, List.map_eq_nil_iff] at hr
          subst hr; obtain ⟨q, hq⟩ : ∃ q, q = (takeF s).2.2 := ⟨_, rfl⟩
          rw [← hq] at HTs hc
          have hq1 : (q == 0) = false := beq_eq_false_iff_ne.mpr hc
          have hq2 : (q != 0) = true := bne_iff_ne.mpr hc
          clear hq hc hxs; gi_wp2_with (refine ⟨trivial, ?_⟩; gi_at_call 148; go_loud (refine (callsIn_wide.2 (HTs.out _)).mono ?_; rintro e w1 ⟨rfl, hb1⟩; have hJ1 := HJ.out _ _ w1 none hJs ⟨hb1.os, hb1.tape, hb1.output, hb1.size, fun k hk _ => hb1.block k hk⟩ (fun r e => by cases e)))
          refine ⟨fun f h => (by cases h), ?_⟩
          gi_wp2
          refine bodyPost_ret (results_none rfl _ _ _) rfl ?_
          exact ⟨⟨_, rfl⟩, .inl (by rw [HXS.out, List.append_nil]; exact hJ1)⟩
def parts_Of.ren : Go.Shelf.Ren := ⟨fun | 8 => 126 | 11 => 161 | n => n, fun | 26 => 48 | 28 => 182 | 24 => 44 | 0 => 0 | 33 => 160 | 4 => 4 | n => n, fun | n => n⟩
theorem parts_Of.lay : Go.Proofs.SlLaysZ.n8 Try.prog parts_Of.ren := {
  mixed := by kernel_rfl
  f8 := ⟨Try.f126.name, by decide, Try.func126.trans (congrArg some (by kernel_rfl))⟩
  f11 := ⟨Try.f161.name, by decide, Try.func161.trans (congrArg some (by kernel_rfl))⟩
  t0 := Try.underlying0
  a0 := Try.isAgg0
  z0 := Try.sizeOf0
  v0 := Try.zeroValue0
  t24 := Try.underlying44
  a24 := Try.isAgg44
  z24 := Try.sizeOf44
  v24 := Try.zeroValue44
  t26 := Try.underlying48
  a26 := Try.isAgg48
  z26 := Try.sizeOf48
  v26 := Try.zeroValue48
  t28 := Try.underlying182
  a28 := Try.isAgg182
  z28 := Try.sizeOf182
  v28 := Try.zeroValue182
  i26 := by kernel_rfl }
/-- A list of bytes as a text, and back. -/
def txt (l : List UInt8) : ByteArray := ⟨l.toArray⟩
theorem txt_map (l : List ByteArray) : (l.map (·.data.toList)).map txt = l := by
  rw [List.map_map]
  conv => rhs; rw [← List.map_id l]
  apply List.map_congr_left
  intro x _; rfl
/-- The iterator over a right term's parts gives these, in their order. -/
theorem parts_Of.gives (n : Nat) (hn : 1 ≤ n) (B : Nat) (t : ByteArray) (ht : t.size < 9223372036854775808) (hp : 0 < t.size) (h2 : bt t 0 = 101 → 2 ≤ t.size) (w : World) (hB : w.cell? ⟨B, 0, none⟩ = some (.string t)) :
    SeqGives Fence.wide n Try.prog 162 #[.pointer (some ⟨B, 0, none⟩)] Go.Proofs.encStr (fun ss => ss = (kidsF t).map (·.data.toList)) (kidsF t).length w := fun l J W hW hJ hY h0 => by
  have hlt := World.block_lt_of_cell? w _ hB
  refine (next1_in txt n hn l B t ((kidsF t).map (·.data.toList)) (txt_map _) ht hp h2 J (fun _ _ => False) (fun pre x W1 hJ1 hl => ?_) W hJ ((hW.cell (p := ⟨B, 0, none⟩) hlt).trans hB) h0).mono ?_
  · have := hY pre x W1 hJ1 (by simpa using hl)
    obtain ⟨fn, tmps, assign, body, hy, hR⟩ := this; exact ⟨fn, tmps, assign, body, hy, hR.mono fun e W' ⟨h1, h2, _⟩ => .inl ⟨h1, h2⟩⟩
  · rintro e W' ⟨hv, h | ⟨pre, h⟩⟩
    · exact ⟨hv, _, rfl, h⟩
    · exact h.elim
theorem parts_Of.next.calls (t : ByteArray) (w : World) :
    Calls Try.prog 127 #[.string t] w fun e w' => e = .returned (.func (.func 162) #[] #[.pointer (some ⟨w.heap.size, 0, none⟩)]) ∧ w' = w.alloc (.cells #[.string t] 48) := by
  go_enter Try.func127, Try.ntmps127
  go_wp2; go_ret
  exact ⟨rfl, rfl⟩
/-- What stands in a text next to it: of a right term its parts. -/
def kidsP (t : ByteArray) : List ByteArray := if rightB t = true then kidsF t else []
def parts_Of.f (t : ByteArray) : Option (List ByteArray) := if t.size < 9223372036854775808 then some (kidsP t) else none
theorem kids_two {t : ByteArray} (h : rightB t = true) (h1 : bt t 0 = 101) : 2 ≤ t.size := by
  have ht := ((right_iff t).mp h).1
  rcases ht.cases with hl | ⟨h, ts, pow, n⟩
  · exfalso
    refine hl.1 ?_
    unfold leafF
    rw [h1]
    rfl
  · have hl : 1 ≤ ts.length := by
      have hh := n.head; cases hh with
      | pow h1 h2 => assumption
      | _ => simp
    have h0 := n.head.pos; cases ts with
    | nil => simp at hl
    | cons x r =>
      have h3 := (n.parts x List.mem_cons_self).1.pos
      rw [n.eq, cat, ByteArray.size_append, ByteArray.size_append]
      omega
theorem parts_Of.call_collect (t : ByteArray) (hr : rightB t = true) (w : World) :
    CallsIn Fence.wide 4 Try.prog 126 #[.func (.func 162) #[] #[.pointer (some ⟨w.heap.size, 0, none⟩)]] (w.alloc (.cells #[.string t] 48)) fun e w' =>
      ∃ v : Value, e = .returned v ∧ Kd.R Kd.string 48 w' w.heap.size (fun _ => True) v (kidsF t) ∧ Below w.heap.size w w' := by
  have hb := ((right_iff t).mp hr)
  have hp := hb.1.pos; have hl : (kidsF t).length ≤ 20000 := Nat.le_trans (tkF_len _) (Nat.le_trans (bodyF_size t) hb.2)
  have hc : (w.alloc (.cells #[.string t] 48)).cell? ⟨w.heap.size, 0, none⟩ = some (.string t) := (Boxed.new w 48 (.string t)).cell
  have hs := parts_Of.gives 2 (by omega) w.heap.size t (by have := hb.2; omega) hp (kids_two hr) _ hc
  have := AnyZ.collect_in parts_Of.lay Fence.wide 4 trivial trivial rfl (by omega) 162 #[.pointer (some ⟨w.heap.size, 0, none⟩)] trivial (enters_of Try.func162 (by kernel_rfl) rfl) _ (kidsF t).length (by unfold maxLen; omega) (by omega) _ hs
  refine CallsIn.mono this ?_
  rintro e w' ⟨v, ss, rfl, rfl, hrow, _, hbl⟩; refine ⟨v, rfl, Kd.R_of_own ?_ (fun _ _ => trivial), ((Below.refl _ w).alloc (Nat.le_refl _) _).trans (hbl.mono (by simp))⟩
  have h1 := ownsRow_base_a hrow (base' := w.heap.size) (by simp)
  rw [Lib.map_encStr, List.length_map] at h1
  exact h1
set_option maxHeartbeats 400000 in
set_option maxRecDepth 10000 in
theorem parts_Of.calls (a0 : ByteArray) (r : List ByteArray) (w : World) (h : parts_Of.f a0 = some r) :
    Calls Try.prog 74 #[.string a0] w fun e w' => ∃ v0_ : Value, e = .returned (v0_) ∧ Kd.R Kd.string 48 w' w.heap.size (fun _ => True) v0_ r ∧ Below w.heap.size w w' := by
  unfold parts_Of.f at h
  split at h
  case isFalse => cases h
  rename_i hsz
  replace h := Option.some.inj h
  have HR := Aside0.mk (fun W => term_Right.calls a0 (rightB a0) W (by rw [term_Right.f, if_pos hsz]))
  have HN := Aside0.mk (parts_Of.next.calls a0)
  have HC := Aside0.mk (parts_Of.call_collect a0)
  have HH := Aside0.mk h
  unfold kidsP at HH
  obtain ⟨q, hq⟩ : ∃ q, q = rightB a0 := ⟨_, rfl⟩
  rw [← hq] at HR HC HH
  clear h hsz hq; cases q
  · rw [if_neg (by decide)] at HH
    obtain rfl := HH.out
    clear HH HC HN; go_enter Try.func74, Try.ntmps74
    go_wp2_with (go_at_call 101; go_loud (refine (HR.out _).mono ?_; rintro e w1 ⟨rfl, hb1⟩; have HB1 := Aside0.mk hb1; clear hb1))
    go_ret
    exact ⟨_, rfl, Kd.R_nil Kd.string _ _ _ _, HB1.out⟩
  · rw [if_pos rfl] at HH
    obtain rfl := HH.out
    clear HH; have HC2 := Aside0.mk (HC.out rfl)
    clear HC; refine (callsIn_wide (n := 5)).1 ?_
    refine callsIn_of_wp Try.func74 rfl trivial ?_ rfl
    simp only [Try.ntmps74, List.size_toArray, List.length_cons, List.length_nil, Nat.reduceAdd, Nat.reduceSub, Array.replicate_succ, Array.replicate_zero, List.push_toArray, List.append_toArray, List.nil_append, List.cons_append]; have hw4 : 5 - 1 = 4 := rfl
    gi_wp2_with (first | (refine ⟨trivial, ?_⟩; gi_at_call 101; go_loud (refine (callsIn_wide.2 (HR.out _)).mono ?_; rintro e w1 ⟨rfl, hb1⟩; have HB1 := Aside0.mk hb1; clear hb1)) | (refine ⟨trivial, ?_⟩; gi_at_call 127; go_loud (refine (callsIn_wide.2 (HN.out _)).mono ?_; rintro e w2 ⟨rfl, rfl⟩)) | (refine ⟨trivial, ?_⟩; gi_at_call 126; go_loud (refine CallsIn.mono (HC2.out _) ?_; rintro e w3 ⟨v, rfl, hR, hb3⟩; have HR3 := Aside0.mk hR; have HB3 := Aside0.mk hb3; clear hR hb3)))
    go_ret
    exact ⟨_, rfl, Kd.R_lower HR3.out HB1.out.size, below_then HB1.out HB1.out.size HB3.out⟩

end Go.Proofs.Ytppimpadfgldjaa.F
namespace Go.Proofs.Ytppimpadfgldjaa.Pure
set_option linter.unusedVariables false
set_option linter.unusedSimpArgs false
open Go.RowKit Go.Proofs.Ytppimpadfgldjaa.F Go.Proofs.YtppimpadfgldjaaW.PrintWords Go.Proofs.YtppimpadfgldjaaW.PrintLast

theorem tk_cat : ∀ (ts : List ByteArray) (k : Nat), (∀ t ∈ ts, Tm t ∧ t.size ≤ 20000) → (cat ts).size ≤ k → tkN k (cat ts) = ts
  | [], 0, _, _ => rfl
  | [], k + 1, _, _ => by rw [tkN, if_pos (.inl (show (cat []).size = 0 from rfl))]
  | t :: ts, 0, h, hk => by
    have := (h t List.mem_cons_self).1.pos
    rw [cat, ByteArray.size_append] at hk
    omega
  | t :: ts, k + 1, h, hk => by
    have h1 := h t List.mem_cons_self
    have h2 := h1.1.pos
    rw [cat, ByteArray.size_append] at hk
    have h3 := take_app (r := cat ts) h1.1 h1.2
    rw [tkN, cat, h3]
    simp only
    rw [if_neg (by rw [ByteArray.size_append]; omega), tk_cat ts k (fun x hx => h x (List.mem_cons_of_mem _ hx)) (by omega)]
/-- The body of what has parts. -/
theorem body_node {t h : ByteArray} {ts : List ByteArray} {pow : Bool} (n : Node t h ts pow) : bodyF t = cat ts := by
  have h2 := n.body
  have h3 := bt_head n
  have hh := n.head
  unfold bodyF
  cases hh with
  | pow h4 h5 =>
    have h6 : bt t 0 = 101 := h3.trans rfl
    rw [if_neg (by omega), if_pos h6]
    exact h2
  | key x hx => rw [if_pos (.inl (h3.trans rfl))]; exact h2
  | hash x => rw [if_pos (.inr (.inl (h3.trans rfl)))]; exact h2
  | pair x y => rw [if_pos (.inr (.inr (.inl (h3.trans rfl))))]; exact h2
  | sign x y => rw [if_pos (.inr (.inr (.inr (.inr (h3.trans rfl)))))]; exact h2
  | sealed x y z => rw [if_pos (.inr (.inr (.inr (.inl (h3.trans rfl)))))]; exact h2
theorem kids_node {t h : ByteArray} {ts : List ByteArray} {pow : Bool} (n : Node t h ts pow) (hs : t.size ≤ 20000) : kidsF t = ts := by
  unfold kidsF tkF
  rw [body_node n]
  exact tk_cat ts _ (n.small hs) (Nat.le_refl _)
theorem kids_leaf {t : ByteArray} (h : Leaf t) : kidsF t = [] := by
  have hb := leaf_bytes h
  unfold kidsF bodyF
  rw [if_neg (by omega), if_neg (by omega)]
  exact tkF_nil rfl
/-- A right text is a leaf, or its parts stand in it. -/
theorem right_cases {t : ByteArray} (h : rightB t = true) : Leaf t ∨ ∃ hd pow, Node t hd (kidsF t) pow := by
  have h1 := (right_iff t).mp h
  rcases h1.1.cases with hl | ⟨hd, ts, pow, n⟩
  · exact .inl hl
  · have := kids_node n h1.2
    exact .inr ⟨hd, pow, by rw [this]; exact n⟩
theorem kids_right {t : ByteArray} (h : rightB t = true) : ∀ x ∈ kidsF t, rightB x = true ∧ x.size < t.size ∧ depF x < depF t := by
  intro x hx
  rcases right_cases h with hl | ⟨hd, pow, n⟩
  · rw [kids_leaf hl] at hx; cases hx
  · have h1 := (right_iff t).mp h
    have h2 := n.small h1.2 x hx
    have h3 := n.tm.2
    have h4 := (le_deepest (dep := 0) (ts := kidsF t)).2 x hx
    have h5 := cat_mem_size hx
    have h6 : t.size = hd.size + (cat (kidsF t)).size := by have := congrArg ByteArray.size n.eq; rwa [ByteArray.size_append] at this
    have h7 := n.head.pos
    exact ⟨(right_iff x).mpr h2, by omega, by omega⟩
theorem kids_none {t : ByteArray} (h : rightB t = true) (h0 : kidsF t = []) : Leaf t := by
  rcases right_cases h with hl | ⟨hd, pow, n⟩
  · exact hl
  · rw [h0] at n
    have hh := n.head
    exfalso
    cases hh
    rename_i h4 h5
    simp at h4
theorem kids_pair {t : ByteArray} (h : rightB t = true) (hb : bt t 0 = 112) : ∃ x y, kidsF t = [x, y] ∧ t = (⟨#[112]⟩ : ByteArray) ++ cat [x, y] := by
  rcases right_cases h with hl | ⟨hd, pow, n⟩
  · have := leaf_bytes hl; omega
  · have h3 := bt_head n
    have hq := n.eq
    have hh := n.head
    generalize kidsF t = ts at *
    cases hh with
    | pair x y => exact ⟨x, y, rfl, hq⟩
    | pow h4 h5 => rw [hb] at h3; exact absurd h3 (by show ¬ ((112 : Int) = 101); decide)
    | _ => rw [hb] at h3; exact absurd h3 (by show ¬ ((112 : Int) = _); decide)
theorem kids_sign {t : ByteArray} (h : rightB t = true) (hb : bt t 0 = 120) : ∃ x y, kidsF t = [x, y] ∧ t = (⟨#[120]⟩ : ByteArray) ++ cat [x, y] := by
  rcases right_cases h with hl | ⟨hd, pow, n⟩
  · have := leaf_bytes hl; omega
  · have h3 := bt_head n
    have hq := n.eq
    have hh := n.head
    generalize kidsF t = ts at *
    cases hh with
    | sign x y => exact ⟨x, y, rfl, hq⟩
    | pow h4 h5 => rw [hb] at h3; exact absurd h3 (by show ¬ ((120 : Int) = 101); decide)
    | _ => rw [hb] at h3; exact absurd h3 (by show ¬ ((120 : Int) = _); decide)
theorem kids_seal {t : ByteArray} (h : rightB t = true) (hb : bt t 0 = 115) : ∃ x y z, kidsF t = [x, y, z] ∧ t = (⟨#[115]⟩ : ByteArray) ++ cat [x, y, z] := by
  rcases right_cases h with hl | ⟨hd, pow, n⟩
  · have := leaf_bytes hl; omega
  · have h3 := bt_head n
    have hq := n.eq
    have hh := n.head
    generalize kidsF t = ts at *
    cases hh with
    | sealed x y z => exact ⟨x, y, z, rfl, hq⟩
    | pow h4 h5 => rw [hb] at h3; exact absurd h3 (by show ¬ ((115 : Int) = 101); decide)
    | _ => rw [hb] at h3; exact absurd h3 (by show ¬ ((115 : Int) = _); decide)
end Go.Proofs.Ytppimpadfgldjaa.Pure
namespace Go.Proofs.Ytppimpadfgldjaa.F
open Go.RowKit Go.Proofs.YtppimpadfgldjaaW.PrintWords Go.Proofs.YtppimpadfgldjaaW.PrintLast Go.Proofs.YtppimpadfgldjaaW.PrintMore
attribute [local go_sem] max2_int min2_int max_two min_two max_three min_three max_four min_four
set_option linter.unusedVariables false
set_option linter.unusedSimpArgs false

/-! ### parts_Kind: function 90 -/
/-! #### parts_Kind_p: function 90 -/
def parts_Kind_p.f (a0 : ByteArray) : Option (Int) := (term_Right.f a0).bind fun t1001 => (if t1001 = true then (if 0 < (a0.size : Int) then (some (bt a0 0)) else (none)) else (some 0))
set_option maxHeartbeats 8000000 in
set_option maxRecDepth 100000 in
theorem parts_Kind_p.calls (a0 : ByteArray) (r : Int) (w : World) (h : parts_Kind_p.f a0 = some r) :
    Calls Try.prog 90 #[.string a0] w fun e w' => e = .returned (.int .u8 r) ∧ Below w.heap.size w w' := by
  have HB := Aside0.mk (Below.refl w.heap.size w)
  have H : ((term_Right.f a0).bind fun t1001 => (if t1001 = true then (if 0 < (a0.size : Int) then (some (bt a0 0)) else (none)) else (some 0))) = some r := h
  clear h
  replace H := Option.bind_eq_some_iff.mp H
  obtain ⟨t1001, A20, H⟩ := H
  replace H : (if t1001 = true then (if 0 < (a0.size : Int) then (some (bt a0 0)) else (none)) else (some 0)) = some r := H
  have A2 := Aside0.mk A20
  clear A20
  by_cases c3 : t1001 = true
  · subst c3
    have H1 : (if 0 < (a0.size : Int) then (some (bt a0 0)) else (none)) = some r := by rw [if_pos rfl] at H; exact H
    clear H
    have H := H1
    clear H1
    by_cases c4 : 0 < (a0.size : Int)
    · rw [if_pos c4] at H
      have c4b0 : decide (0 < (a0.size : Int)) = true := decide_eq_true c4
      have c4b1 : decide (0 < a0.size) = true := decide_eq_true (by omega)
      clear c4
      obtain rfl := Option.some.inj H
      go_enter Try.func90, Try.ntmps90
      go_wp2_with (first | ((with_reducible refine gate_callee (f := 101) rfl ?_); refine goesL_ (some 4) rfl rfl Try.func101 (by kernel_rfl) rfl #[.string a0] rfl (by simp only [List.map_toArray, List.map_cons, List.map_nil] <;> rfl) ?_; (with_reducible refine (term_Right.calls a0 true _ A2.out).mono ?_); rintro e w6 ⟨rfl, hb⟩; refine ⟨_, rfl, ?_⟩; have n0_ := Aside0.mk (below_step (by repeat with_reducible first | exact HB.out | apply below_alloc | apply pw_below_drewN | apply below_drew1) hb); clear HB; have HB := n0_; clear n0_; (try clear hb); have p5 : 0 ≤ (0 : Int) := (by omega); have q5 : 0 < a0.size := (by have : (0 : Int) < (a0.size : Int) := of_decide_eq_true (by assumption); omega); have hx5 : ∀ h : 0 < a0.size, ((a0[0]'h).toNat : Int) = bt a0 0 := bt_at a0 0; clear p5; have qi5 : (0 < (a0.size : Int)) = True := eq_true (of_decide_eq_true (by assumption)); replace q5 := eq_true q5))
      go_ret
      exact ⟨by first | rfl | (simp [errW_none, errW_some] <;> rfl) | (simp [*, errW_none, errW_some] <;> rfl), by repeat (first | (with_reducible first | exact HB.out | apply below_alloc | apply pw_below_drewN | apply below_drew1) | exact HB.out)⟩
    · rw [if_neg c4] at H
      exact absurd H (by simp)
  · replace c3 := Bool.eq_false_iff.mpr c3
    subst c3
    have H1 : (some 0) = some r := by rw [if_neg (show ¬ (false = true) by decide)] at H; exact H
    clear H
    have H := H1
    clear H1
    obtain rfl := Option.some.inj H
    go_enter Try.func90, Try.ntmps90
    go_wp2_with (first | ((with_reducible refine gate_callee (f := 101) rfl ?_); refine goesL_ (some 4) rfl rfl Try.func101 (by kernel_rfl) rfl #[.string a0] rfl (by simp only [List.map_toArray, List.map_cons, List.map_nil] <;> rfl) ?_; (with_reducible refine (term_Right.calls a0 false _ A2.out).mono ?_); rintro e w7 ⟨rfl, hb⟩; refine ⟨_, rfl, ?_⟩; have n0_ := Aside0.mk (below_step (by repeat with_reducible first | exact HB.out | apply below_alloc | apply pw_below_drewN | apply below_drew1) hb); clear HB; have HB := n0_; clear n0_; (try clear hb)))
    go_ret
    exact ⟨by first | rfl | (simp [errW_none, errW_some] <;> rfl) | (simp [*, errW_none, errW_some] <;> rfl), by repeat (first | (with_reducible first | exact HB.out | apply below_alloc | apply pw_below_drewN | apply below_drew1) | exact HB.out)⟩

/-- A right text's first byte. -/
def kindF (t : ByteArray) : Int := if rightB t = true then bt t 0 else 0
def parts_Kind.f (t : ByteArray) : Option Int := if t.size < 9223372036854775808 then some (kindF t) else none
theorem parts_Kind.eq (t : ByteArray) (hs : t.size < 9223372036854775808) : parts_Kind_p.f t = parts_Kind.f t := by
  unfold parts_Kind_p.f term_Right.f parts_Kind.f kindF
  rw [if_pos hs, if_pos hs]
  simp only [Option.bind_some]
  by_cases c : rightB t = true
  · have h0 : 0 < t.size := by
      unfold rightB at c
      rw [decide_eq_true_eq] at c
      have := scanF_end c.1
      omega
    rw [if_pos c, if_pos c, if_pos (by omega)]
  · rw [if_neg c, if_neg c]
theorem parts_Kind.calls (a0 : ByteArray) (r : Int) (w : World) (h : parts_Kind.f a0 = some r) :
    Calls Try.prog 90 #[.string a0] w fun e w' => e = .returned (.int .u8 r) ∧ Below w.heap.size w w' := by
  have hs : a0.size < 9223372036854775808 := by
    unfold parts_Kind.f at h
    split at h
    · assumption
    · cases h
  exact parts_Kind_p.calls a0 r w ((parts_Kind.eq a0 hs).trans h)

end Go.Proofs.Ytppimpadfgldjaa.F
namespace Go.Proofs.Ytppimpadfgldjaa.F
open Go.RowKit Go.Proofs.YtppimpadfgldjaaW.PrintWords Go.Proofs.YtppimpadfgldjaaW.PrintLast Go.Proofs.YtppimpadfgldjaaW.PrintMore
attribute [local go_sem] max2_int min2_int max_two min_two max_three min_three max_four min_four
set_option linter.unusedVariables false
set_option linter.unusedSimpArgs false

/-! ### parts_Said: function 173 -/
/-! #### parts_Said_p: function 173 -/
def parts_Said_p.f (a0 : ByteArray) : Option (ByteArray × Bool) := (parts_Kind.f a0).bind fun t1001 => (if t1001 = 116 then (if 3 ≤ (a0.size : Int) then (some (a0.extract 3 a0.size, true)) else (none)) else (some ((⟨#[]⟩ : ByteArray), false)))
set_option maxHeartbeats 8000000 in
set_option maxRecDepth 100000 in
theorem parts_Said_p.calls (a0 : ByteArray) (r1 : ByteArray) (r2 : Bool) (w : World) (h : parts_Said_p.f a0 = some (r1, r2)) :
    Calls Try.prog 173 #[.string a0] w fun e w' => e = .returned (.tuple #[.string r1, .bool r2]) ∧ Below w.heap.size w w' := by
  have HB := Aside0.mk (Below.refl w.heap.size w)
  have H : ((parts_Kind.f a0).bind fun t1001 => (if t1001 = 116 then (if 3 ≤ (a0.size : Int) then (some (a0.extract 3 a0.size, true)) else (none)) else (some ((⟨#[]⟩ : ByteArray), false)))) = some (r1, r2) := h
  clear h
  replace H := Option.bind_eq_some_iff.mp H
  obtain ⟨t1001, A20, H⟩ := H
  replace H : (if t1001 = 116 then (if 3 ≤ (a0.size : Int) then (some (a0.extract 3 a0.size, true)) else (none)) else (some ((⟨#[]⟩ : ByteArray), false))) = some (r1, r2) := H
  have A2 := Aside0.mk A20
  clear A20
  by_cases c3 : t1001 = 116
  · rw [if_pos c3] at H
    have c3b0 : (t1001 == 116) = true := beq_iff_eq.mpr c3
    have c3b1 : (t1001 != 116) = false := bne_eq_false_iff_eq.mpr c3
    clear c3
    by_cases c4 : 3 ≤ (a0.size : Int)
    · rw [if_pos c4] at H
      have c4b0 := eq_true c4
      have c4b1 : decide (3 ≤ (a0.size : Int)) = true := decide_eq_true c4
      clear c4
      simp only [Option.some.injEq, Prod.mk.injEq] at H
      obtain ⟨rfl, rfl⟩ := H
      go_enter Try.func173, Try.ntmps173
      go_wp2_with (first | ((with_reducible refine gate_callee (f := 90) rfl ?_); refine goesL_ (some 5) rfl rfl Try.func90 (by kernel_rfl) rfl #[.string a0] rfl (by simp only [List.map_toArray, List.map_cons, List.map_nil] <;> rfl) ?_; (with_reducible refine (parts_Kind.calls a0 t1001 _ A2.out).mono ?_); rintro e w5 ⟨rfl, hb⟩; refine ⟨_, rfl, ?_⟩; have n0_ := Aside0.mk (below_step (by repeat with_reducible first | exact HB.out | apply below_alloc | apply pw_below_drewN | apply below_drew1) hb); clear HB; have HB := n0_; clear n0_; (try clear hb)))
      go_ret2
      exact ⟨by first | rfl | (simp [errW_none, errW_some] <;> rfl) | (simp [*, errW_none, errW_some] <;> rfl), by repeat (first | (with_reducible first | exact HB.out | apply below_alloc | apply pw_below_drewN | apply below_drew1) | exact HB.out)⟩
    · rw [if_neg c4] at H
      exact absurd H (by simp)
  · rw [if_neg c3] at H
    have c3b0 : (t1001 == 116) = false := beq_eq_false_iff_ne.mpr c3
    have c3b1 : (t1001 != 116) = true := bne_iff_ne.mpr c3
    simp only [Option.some.injEq, Prod.mk.injEq] at H
    obtain ⟨rfl, rfl⟩ := H
    go_enter Try.func173, Try.ntmps173
    go_wp2_with (first | ((with_reducible refine gate_callee (f := 90) rfl ?_); refine goesL_ (some 5) rfl rfl Try.func90 (by kernel_rfl) rfl #[.string a0] rfl (by simp only [List.map_toArray, List.map_cons, List.map_nil] <;> rfl) ?_; (with_reducible refine (parts_Kind.calls a0 t1001 _ A2.out).mono ?_); rintro e w6 ⟨rfl, hb⟩; refine ⟨_, rfl, ?_⟩; have n0_ := Aside0.mk (below_step (by repeat with_reducible first | exact HB.out | apply below_alloc | apply pw_below_drewN | apply below_drew1) hb); clear HB; have HB := n0_; clear n0_; (try clear hb)))
    go_ret2
    exact ⟨by first | rfl | (simp [errW_none, errW_some] <;> rfl) | (simp [*, errW_none, errW_some] <;> rfl), by repeat (first | (with_reducible first | exact HB.out | apply below_alloc | apply pw_below_drewN | apply below_drew1) | exact HB.out)⟩

open Go.Proofs.Ytppimpadfgldjaa.Pure
/-- What a text says. -/
def saidF (t : ByteArray) : ByteArray × Bool := if kindF t = 116 then (t.extract 3 t.size, true) else (⟨#[]⟩, false)
theorem kind_right {t : ByteArray} {c : Int} (h : kindF t = c) (h0 : c ≠ 0) : rightB t = true ∧ bt t 0 = c := by
  unfold kindF at h
  split at h
  · exact ⟨by assumption, h⟩
  · exact absurd h.symm h0
theorem said_size {t : ByteArray} (h : kindF t = 116) : 3 ≤ t.size := by
  obtain ⟨hr, hb⟩ := kind_right h (by decide)
  rcases right_cases hr with hl | ⟨hd, pow, n⟩
  · have h1 := hl.1
    have h2 := hl.2
    unfold leafF at h1 h2
    repeat' split at h2
    all_goals omega
  · have := node_bytes n; omega
def parts_Said.f (t : ByteArray) : Option (ByteArray × Bool) := if t.size < 9223372036854775808 then some (saidF t) else none
theorem parts_Said.eq (t : ByteArray) (hs : t.size < 9223372036854775808) : parts_Said_p.f t = some (saidF t) := by
  unfold parts_Said_p.f parts_Kind.f saidF
  simp only [if_pos hs, Option.bind_some]
  by_cases c : kindF t = 116
  · have := said_size c
    rw [if_pos c, if_pos c, if_pos (by omega)]
  · rw [if_neg c, if_neg c]
theorem parts_Said.calls (a0 : ByteArray) (r1 : ByteArray) (r2 : Bool) (w : World) (h : parts_Said.f a0 = some (r1, r2)) :
    Calls Try.prog 173 #[.string a0] w fun e w' => e = .returned (.tuple #[.string r1, .bool r2]) ∧ Below w.heap.size w w' := by
  unfold parts_Said.f at h
  split at h
  case isFalse => cases h
  rename_i hs
  exact parts_Said_p.calls a0 r1 r2 w ((parts_Said.eq a0 hs).trans h)

end Go.Proofs.Ytppimpadfgldjaa.F
namespace Go.Proofs.Ytppimpadfgldjaa.F
open Go.RowKit Go.Proofs.YtppimpadfgldjaaW.PrintWords Go.Proofs.YtppimpadfgldjaaW.PrintLast Go.Proofs.YtppimpadfgldjaaW.PrintMore
attribute [local go_sem] max2_int min2_int max_two min_two max_three min_three max_four min_four
set_option linter.unusedVariables false
set_option linter.unusedSimpArgs false

/-! ### parts_Value: function 147 -/
open Go.Proofs.Ytppimpadfgldjaa.Pure
/-- The number that k bytes behind the first one say. -/
def decK (t : ByteArray) : Nat → Int
  | 0 => 0
  | k + 1 => decK t k * 256 + bt t ((k + 1 : Nat) : Int)
theorem decK_bound (t : ByteArray) : ∀ k, 0 ≤ decK t k ∧ decK t k < ((256 ^ k : Nat) : Int)
  | 0 => ⟨Int.le_refl _, by show (0 : Int) < 1; decide⟩
  | k + 1 => by
    have h1 := decK_bound t k
    have h2 := bt_pos t ((k + 1 : Nat) : Int)
    rw [decK, Nat.pow_succ]
    generalize 256 ^ k = p at *
    omega
theorem decK_56 (t : ByteArray) {k : Nat} (h : k < 8) : 0 ≤ decK t k ∧ decK t k < 72057594037927936 := by
  have h1 := decK_bound t k
  have h2 : 256 ^ k ≤ 256 ^ 7 := Nat.pow_le_pow_right (by decide) (by omega)
  rw [show 256 ^ 7 = 72057594037927936 from rfl] at h2
  generalize 256 ^ k = p at *
  omega
theorem bytes_cell (w : World) (e : TypeId) (s : ByteArray) (j : Nat) (hj : j < s.size) : (Go.Lib.bytesWorld w e s).cell? ⟨w.heap.size, j, none⟩ = some (.int .u8 (bt s j)) := by
  rw [Go.Lib.bytesWorld_cell w e s j hj, bt_nat s j hj]
  have h : s.data.toList.getD j 0 = s[j] := by
    rw [List.getD_eq_getElem?_getD, List.getElem?_eq_getElem (by simpa [← ByteArray.size_data] using hj)]
    rfl
  rw [h]
/-- A name's, or a number's, value. -/
def valF (t : ByteArray) : Int × Bool := if kindF t = 110 ∨ kindF t = 117 then (decK t 8, true) else (0, false)
theorem val_size {t : ByteArray} (h : kindF t = 110 ∨ kindF t = 117) : t.size = 9 := by
  unfold kindF at h
  split at h
  case isFalse => omega
  rename_i hr
  rcases ((right_iff t).mp hr).1.cases with hl | ⟨hd, ts, pow, n⟩
  · have h1 := hl.1
    have h2 := hl.2
    unfold leafF at h1 h2
    have h3 : ¬ bt t 0 = 103 := by omega
    repeat' split at h2
    all_goals omega
  · exfalso
    have h3 : bt t 0 = bt hd 0 := by rw [n.eq]; exact bt_left hd (cat ts) 0 n.head.pos
    have hh := n.head
    rw [h3] at h
    cases hh with
    | pow h4 h5 => exact absurd h (by show ¬ ((101 : Int) = 110 ∨ (101 : Int) = 117); decide)
    | _ => exact absurd h (by show ¬ ((_ : Int) = 110 ∨ (_ : Int) = 117); decide)
theorem join8 (x y : Int) (h0 : 0 ≤ x) (h1 : x < 72057594037927936) (h2 : 0 ≤ y) (h3 : y < 256) : bits .or .u64 (x * 256) y = x * 256 + y := by
  refine bits_join .u64 64 (by decide) (fun n a b => ?_) 8 (x * 256) y (by omega) (by show x * 256 % 256 = 0; omega) (by show x * 256 < 18446744073709551616; omega) h2 (by show y < 256; exact h3) (by show y < 18446744073709551616; omega)
  have : (2 : Int) ^ 64 = 18446744073709551616 := by decide
  rw [this] at b
  show n % 18446744073709551616 = n
  omega
def parts_Value.f (t : ByteArray) : Option (Int × Bool) := if t.size < 9223372036854775808 then some (valF t) else none
set_option maxHeartbeats 1000000 in
set_option maxRecDepth 100000 in
theorem parts_Value.good (t : ByteArray) (w : World) (h : kindF t = 110 ∨ kindF t = 117) :
    Calls Try.prog 147 #[.string t] w fun e w' => e = .returned (.tuple #[.int .u64 (decK t 8), .bool true]) ∧ Below w.heap.size w w' := by
  have hz := val_size h
  have HK := Aside0.mk (fun W => parts_Kind.calls t (kindF t) W (by unfold parts_Kind.f; rw [if_pos (by omega)]))
  obtain ⟨c, hc⟩ : ∃ c, c = kindF t := ⟨_, rfl⟩
  rw [← hc] at HK h
  have hconv := fun (W : World) (s : ByteArray) => Go.Lib.run_convert_string_bytes (P := Try.prog) W 48 171 5 s Try.underlying48 Try.underlying171 Try.underlying5
  have hsl : (t.extract 1 t.size).size = 8 := by rw [ByteArray.size_extract]; omega
  have HD := Aside0.mk (fun k hk => decK_56 t (k := k) hk)
  have HZ := Aside0.mk hz
  clear hc
  rcases h with rfl | rfl
  all_goals
    go_enter Try.func147, Try.ntmps147
    go_wp2_with (go_at_call 90; go_loud (refine (HK.out _).mono ?_; rintro e w1 ⟨rfl, hb1⟩; have HB1 := Aside0.mk hb1; clear hb1))
    obtain ⟨W2, hW2⟩ : ∃ W2, Go.Lib.bytesWorld w1 5 (t.extract 1 9) = W2 := ⟨_, rfl⟩
    have HB2 : Aside0 (Below w.heap.size w W2) := ⟨below_then HB1.out HB1.out.size (by rw [← hW2]; exact Go.Lib.bytesWorld_below _ _ _)⟩
    have HC : Aside0 (∀ j : Nat, j < 8 → W2.cell? ⟨w1.heap.size, j, none⟩ = some (.int .u8 (bt t ((j + 1 : Nat) : Int)))) := ⟨fun j hj => by
      have h1 : (t.extract 1 9).size = 8 := by rw [ByteArray.size_extract]; have := HZ.out; omega
      rw [← hW2, bytes_cell _ _ _ j (by omega), show j + 1 = 1 + j by omega, bt_extract t 1 9 j (by omega) (by have := HZ.out; omega)]⟩
    rw [hW2]
    clear hW2 hconv hz hsl
    go_loop [5, 20] (fun n i => ∃ k : Nat, k ≤ 8 ∧ i = .int .i64 k ∧ n = .int .u64 (decK t k)) (fun _ i => 8 - (intOf i).toNat)
    case atStart => exact ⟨0, by omega, rfl, rfl⟩
    case round =>
      obtain ⟨k, hk, rfl, rfl⟩ := hrel
      by_cases hlt : k < 8
      · have hc := HC.out k hlt
        have hd := HD.out k hlt
        obtain ⟨b, hb⟩ : ∃ b, b = bt t ((k + 1 : Nat) : Int) := ⟨_, rfl⟩
        have hbr := bt_pos t ((k + 1 : Nat) : Int)
        have HS : Aside0 (decK t (k + 1) = decK t k * 256 + b) := ⟨by rw [decK, hb]⟩
        rw [← hb] at hc hbr
        obtain ⟨d, hdd⟩ : ∃ d, d = decK t k := ⟨_, rfl⟩
        rw [← hdd] at HS hd ⊢
        have hj := join8 d b hd.1 hd.2 hbr.1 (by omega)
        obtain ⟨hd1, hd2⟩ := hd
        obtain ⟨hb1, hb2⟩ := hbr
        clear hdd hb
        go_wp2
        go_round
        case rel => exact ⟨k + 1, by omega, by go_num, by rw [HS.out]⟩
        case measure => simp [intOf]; omega
      · obtain rfl : k = 8 := by omega
        go_wp2
        go_ret2
        exact ⟨rfl, HB2.out⟩
set_option maxHeartbeats 400000 in
set_option maxRecDepth 10000 in
theorem parts_Value.bad (t : ByteArray) (w : World) (hs : t.size < 9223372036854775808) (h1 : ¬ kindF t = 110) (h2 : ¬ kindF t = 117) :
    Calls Try.prog 147 #[.string t] w fun e w' => e = .returned (.tuple #[.int .u64 0, .bool false]) ∧ Below w.heap.size w w' := by
  have HK := Aside0.mk (fun W => parts_Kind.calls t (kindF t) W (by unfold parts_Kind.f; rw [if_pos hs]))
  obtain ⟨c, hc⟩ : ∃ c, c = kindF t := ⟨_, rfl⟩
  rw [← hc] at HK h1 h2
  have e1 : (c == 110) = false := beq_eq_false_iff_ne.mpr h1
  have e2 : (c == 117) = false := beq_eq_false_iff_ne.mpr h2
  have e3 : (c != 110) = true := bne_iff_ne.mpr h1
  have e4 : (c != 117) = true := bne_iff_ne.mpr h2
  clear hc hs h1 h2
  go_enter Try.func147, Try.ntmps147
  go_wp2_with (go_at_call 90; go_loud (refine (HK.out _).mono ?_; rintro e w1 ⟨rfl, hb1⟩; have HB1 := Aside0.mk hb1; clear hb1))
  go_ret2
  exact ⟨rfl, HB1.out⟩
theorem parts_Value.calls (a0 : ByteArray) (r1 : Int) (r2 : Bool) (w : World) (h : parts_Value.f a0 = some (r1, r2)) :
    Calls Try.prog 147 #[.string a0] w fun e w' => e = .returned (.tuple #[.int .u64 r1, .bool r2]) ∧ Below w.heap.size w w' := by
  unfold parts_Value.f at h
  split at h
  case isFalse => cases h
  rename_i hs
  replace h := Option.some.inj h
  unfold valF at h
  by_cases c : kindF a0 = 110 ∨ kindF a0 = 117
  · rw [if_pos c] at h
    obtain ⟨rfl, rfl⟩ := Prod.mk.inj h
    exact parts_Value.good a0 w c
  · rw [if_neg c] at h
    obtain ⟨rfl, rfl⟩ := Prod.mk.inj h
    exact parts_Value.bad a0 w hs (fun q => c (.inl q)) (fun q => c (.inr q))

end Go.Proofs.Ytppimpadfgldjaa.F
namespace Go.Proofs.Ytppimpadfgldjaa.F
open Go.RowKit Go.Proofs.YtppimpadfgldjaaW.PrintWords Go.Proofs.YtppimpadfgldjaaW.PrintLast Go.Proofs.YtppimpadfgldjaaW.PrintMore
attribute [local go_sem] max2_int min2_int max_two min_two max_three min_three max_four min_four
set_option linter.unusedVariables false
set_option linter.unusedSimpArgs false

/-! ### parts_Open: function 172 -/
/-! #### parts_Open_p: function 172 -/
def parts_Open_p.f (a0 : ByteArray) (a1 : ByteArray) : Option (ByteArray × ByteArray × Int) := (parts_Kind.f a0).bind fun t1001 => (if t1001 = 115 then ((parts_Of.f a0).bind fun t1002 => (if 0 < (t1002.length : Int) then (if (rdOf ByteArray.empty t1002 0).toList = a1.toList then (if 1 < (t1002.length : Int) then (if 2 < (t1002.length : Int) then (some (rdOf ByteArray.empty t1002 1, rdOf ByteArray.empty t1002 2, 0)) else (none)) else (none)) else (some ((⟨#[]⟩ : ByteArray), (⟨#[]⟩ : ByteArray), 6))) else (none))) else (some ((⟨#[]⟩ : ByteArray), (⟨#[]⟩ : ByteArray), 2)))
set_option maxHeartbeats 8000000 in
set_option maxRecDepth 100000 in
theorem parts_Open_p.calls (a0 : ByteArray) (a1 : ByteArray) (r1 : ByteArray) (r2 : ByteArray) (r3 : Int) (w : World) (h : parts_Open_p.f a0 a1 = some (r1, r2, r3)) :
    Calls Try.prog 172 #[.string a0, .string a1] w fun e w' => e = .returned (.tuple #[.string r1, .string r2, .int .i64 r3]) ∧ Below w.heap.size w w' := by
  have HB := Aside0.mk (Below.refl w.heap.size w)
  have H : ((parts_Kind.f a0).bind fun t1001 => (if t1001 = 115 then ((parts_Of.f a0).bind fun t1002 => (if 0 < (t1002.length : Int) then (if (rdOf ByteArray.empty t1002 0).toList = a1.toList then (if 1 < (t1002.length : Int) then (if 2 < (t1002.length : Int) then (some (rdOf ByteArray.empty t1002 1, rdOf ByteArray.empty t1002 2, 0)) else (none)) else (none)) else (some ((⟨#[]⟩ : ByteArray), (⟨#[]⟩ : ByteArray), 6))) else (none))) else (some ((⟨#[]⟩ : ByteArray), (⟨#[]⟩ : ByteArray), 2)))) = some (r1, r2, r3) := h
  clear h; replace H := Option.bind_eq_some_iff.mp H
  obtain ⟨t1001, A30, H⟩ := H; replace H : (if t1001 = 115 then ((parts_Of.f a0).bind fun t1002 => (if 0 < (t1002.length : Int) then (if (rdOf ByteArray.empty t1002 0).toList = a1.toList then (if 1 < (t1002.length : Int) then (if 2 < (t1002.length : Int) then (some (rdOf ByteArray.empty t1002 1, rdOf ByteArray.empty t1002 2, 0)) else (none)) else (none)) else (some ((⟨#[]⟩ : ByteArray), (⟨#[]⟩ : ByteArray), 6))) else (none))) else (some ((⟨#[]⟩ : ByteArray), (⟨#[]⟩ : ByteArray), 2))) = some (r1, r2, r3) := H
  have A3 := Aside0.mk A30
  clear A30; by_cases c4 : t1001 = 115
  · rw [if_pos c4] at H
    have c4b0 : (t1001 == 115) = true := beq_iff_eq.mpr c4
    have c4b1 : (t1001 != 115) = false := bne_eq_false_iff_eq.mpr c4
    clear c4; replace H := Option.bind_eq_some_iff.mp H
    obtain ⟨t1002, A50, H⟩ := H; replace H : (if 0 < (t1002.length : Int) then (if (rdOf ByteArray.empty t1002 0).toList = a1.toList then (if 1 < (t1002.length : Int) then (if 2 < (t1002.length : Int) then (some (rdOf ByteArray.empty t1002 1, rdOf ByteArray.empty t1002 2, 0)) else (none)) else (none)) else (some ((⟨#[]⟩ : ByteArray), (⟨#[]⟩ : ByteArray), 6))) else (none)) = some (r1, r2, r3) := H
    have A5 := Aside0.mk A50
    clear A50; by_cases c6 : 0 < (t1002.length : Int)
    · rw [if_pos c6] at H
      have c6b0 : decide (0 < (t1002.length : Int)) = true := decide_eq_true c6
      have c6b1 : decide (0 < t1002.length) = true := decide_eq_true (by omega)
      clear c6; by_cases c7 : (rdOf ByteArray.empty t1002 0).toList = a1.toList
      · rw [if_pos c7] at H
        have c7b0 : ((rdOf ByteArray.empty t1002 0).toList == a1.toList) = true := beq_iff_eq.mpr c7
        have c7b1 : ((rdOf ByteArray.empty t1002 0).toList != a1.toList) = false := bne_eq_false_iff_eq.mpr c7
        clear c7; by_cases c8 : 1 < (t1002.length : Int)
        · rw [if_pos c8] at H
          have c8b0 : decide (1 < (t1002.length : Int)) = true := decide_eq_true c8
          have c8b1 : decide (1 < t1002.length) = true := decide_eq_true (by omega)
          clear c8; by_cases c9 : 2 < (t1002.length : Int)
          · rw [if_pos c9] at H
            have c9b0 : decide (2 < (t1002.length : Int)) = true := decide_eq_true c9
            have c9b1 : decide (2 < t1002.length) = true := decide_eq_true (by omega)
            clear c9; simp only [Option.some.injEq, Prod.mk.injEq] at H; obtain ⟨rfl, rfl, rfl⟩ := H; go_enter Try.func172, Try.ntmps172
            go_wp2_with (first | (go_at_call 90; (with_reducible refine (parts_Kind.calls a0 t1001 _ A3.out).mono ?_); rintro e w10 ⟨rfl, hb⟩; have n0_ := Aside0.mk (below_step (by repeat with_reducible first | exact HB.out | apply below_alloc | apply pw_below_drewN | apply below_drew1) hb); clear HB; have HB := n0_; clear n0_; (try clear hb)) | (go_at_call 74; (with_reducible refine (parts_Of.calls a0 t1002 _ A5.out).mono ?_); rintro e w11 ⟨v1003, rfl, ho0, hb⟩; have n0_ := Aside0.mk (Kd.R_lower ho0 (below_size (by repeat with_reducible first | exact HB.out | apply below_alloc | apply pw_below_drewN | apply below_drew1))); have n1_ := Aside0.mk (below_step (by repeat with_reducible first | exact HB.out | apply below_alloc | apply pw_below_drewN | apply below_drew1) hb); clear HB; have HO1004 := n0_; have HB := n1_; clear n0_ n1_; (try clear hb); (try clear ho0); obtain ⟨Ao12, co12, eo12⟩ := Kd.R_slice HO1004.out; subst eo12; have p1005 : 0 ≤ (0 : Int) := (by omega); have q1005 : 0 < (t1002.length : Int) := of_decide_eq_true (by assumption); obtain ⟨ad1005, e1005, hx1005_0⟩ := Kd.at_string (Kd.R_reads' HO1004.out).2.2 0 p1005 q1005; cases e1005; have qi1005 : (0 < t1002.length) = True := eq_true (by omega); (try rw [show ((0 : Int)).toNat = 0 from rfl] at hx1005_0); (try rw [Addr.add_zero'] at hx1005_0); replace p1005 := eq_true p1005; replace q1005 := eq_true q1005; have p1006 : 0 ≤ (1 : Int) := (by omega); have q1006 : 1 < (t1002.length : Int) := of_decide_eq_true (by assumption); obtain ⟨ad1006, e1006, hx1006_0⟩ := Kd.at_string (Kd.R_reads' HO1004.out).2.2 1 p1006 q1006; obtain rfl : ad1005 = ad1006 := (by injection e1006); (try simp only [show (1 : Int).toNat = 1 from rfl, Nat.reduceMul, Nat.reduceEqDiff, Go.Addr.add, ↓reduceIte] at hx1006_0); have qi1006 : (1 < t1002.length) = True := eq_true (by omega); (try rw [show ((1 : Int)).toNat = 1 from rfl] at hx1006_0); replace p1006 := eq_true p1006; replace q1006 := eq_true q1006; have p1007 : 0 ≤ (2 : Int) := (by omega); have q1007 : 2 < (t1002.length : Int) := of_decide_eq_true (by assumption); obtain ⟨ad1007, e1007, hx1007_0⟩ := Kd.at_string (Kd.R_reads' HO1004.out).2.2 2 p1007 q1007; obtain rfl : ad1005 = ad1007 := (by injection e1007); (try simp only [show (2 : Int).toNat = 2 from rfl, Nat.reduceMul, Nat.reduceEqDiff, Go.Addr.add, ↓reduceIte] at hx1007_0); have qi1007 : (2 < t1002.length) = True := eq_true (by omega); (try rw [show ((2 : Int)).toNat = 2 from rfl] at hx1007_0); replace p1007 := eq_true p1007; replace q1007 := eq_true q1007))
            repeat (go_quiet (first | (go_at_call 90; (with_reducible refine (parts_Kind.calls a0 t1001 _ A3.out).mono ?_); rintro e w10 ⟨rfl, hb⟩; have n0_ := Aside0.mk (below_step (by repeat with_reducible first | exact HB.out | apply below_alloc | apply pw_below_drewN | apply below_drew1) hb); clear HB; have HB := n0_; clear n0_; (try clear hb)) | (go_at_call 74; (with_reducible refine (parts_Of.calls a0 t1002 _ A5.out).mono ?_); rintro e w11 ⟨v1003, rfl, ho0, hb⟩; have n0_ := Aside0.mk (Kd.R_lower ho0 (below_size (by repeat with_reducible first | exact HB.out | apply below_alloc | apply pw_below_drewN | apply below_drew1))); have n1_ := Aside0.mk (below_step (by repeat with_reducible first | exact HB.out | apply below_alloc | apply pw_below_drewN | apply below_drew1) hb); clear HB; have HO1004 := n0_; have HB := n1_; clear n0_ n1_; (try clear hb); (try clear ho0); obtain ⟨Ao12, co12, eo12⟩ := Kd.R_slice HO1004.out; subst eo12; have p1005 : 0 ≤ (0 : Int) := (by omega); have q1005 : 0 < (t1002.length : Int) := of_decide_eq_true (by assumption); obtain ⟨ad1005, e1005, hx1005_0⟩ := Kd.at_string (Kd.R_reads' HO1004.out).2.2 0 p1005 q1005; cases e1005; have qi1005 : (0 < t1002.length) = True := eq_true (by omega); (try rw [show ((0 : Int)).toNat = 0 from rfl] at hx1005_0); (try rw [Addr.add_zero'] at hx1005_0); replace p1005 := eq_true p1005; replace q1005 := eq_true q1005; have p1006 : 0 ≤ (1 : Int) := (by omega); have q1006 : 1 < (t1002.length : Int) := of_decide_eq_true (by assumption); obtain ⟨ad1006, e1006, hx1006_0⟩ := Kd.at_string (Kd.R_reads' HO1004.out).2.2 1 p1006 q1006; obtain rfl : ad1005 = ad1006 := (by injection e1006); (try simp only [show (1 : Int).toNat = 1 from rfl, Nat.reduceMul, Nat.reduceEqDiff, Go.Addr.add, ↓reduceIte] at hx1006_0); have qi1006 : (1 < t1002.length) = True := eq_true (by omega); (try rw [show ((1 : Int)).toNat = 1 from rfl] at hx1006_0); replace p1006 := eq_true p1006; replace q1006 := eq_true q1006; have p1007 : 0 ≤ (2 : Int) := (by omega); have q1007 : 2 < (t1002.length : Int) := of_decide_eq_true (by assumption); obtain ⟨ad1007, e1007, hx1007_0⟩ := Kd.at_string (Kd.R_reads' HO1004.out).2.2 2 p1007 q1007; obtain rfl : ad1005 = ad1007 := (by injection e1007); (try simp only [show (2 : Int).toNat = 2 from rfl, Nat.reduceMul, Nat.reduceEqDiff, Go.Addr.add, ↓reduceIte] at hx1007_0); have qi1007 : (2 < t1002.length) = True := eq_true (by omega); (try rw [show ((2 : Int)).toNat = 2 from rfl] at hx1007_0); replace p1007 := eq_true p1007; replace q1007 := eq_true q1007)); try go_wp2_with (first | (go_at_call 90; (with_reducible refine (parts_Kind.calls a0 t1001 _ A3.out).mono ?_); rintro e w10 ⟨rfl, hb⟩; have n0_ := Aside0.mk (below_step (by repeat with_reducible first | exact HB.out | apply below_alloc | apply pw_below_drewN | apply below_drew1) hb); clear HB; have HB := n0_; clear n0_; (try clear hb)) | (go_at_call 74; (with_reducible refine (parts_Of.calls a0 t1002 _ A5.out).mono ?_); rintro e w11 ⟨v1003, rfl, ho0, hb⟩; have n0_ := Aside0.mk (Kd.R_lower ho0 (below_size (by repeat with_reducible first | exact HB.out | apply below_alloc | apply pw_below_drewN | apply below_drew1))); have n1_ := Aside0.mk (below_step (by repeat with_reducible first | exact HB.out | apply below_alloc | apply pw_below_drewN | apply below_drew1) hb); clear HB; have HO1004 := n0_; have HB := n1_; clear n0_ n1_; (try clear hb); (try clear ho0); obtain ⟨Ao12, co12, eo12⟩ := Kd.R_slice HO1004.out; subst eo12; have p1005 : 0 ≤ (0 : Int) := (by omega); have q1005 : 0 < (t1002.length : Int) := of_decide_eq_true (by assumption); obtain ⟨ad1005, e1005, hx1005_0⟩ := Kd.at_string (Kd.R_reads' HO1004.out).2.2 0 p1005 q1005; cases e1005; have qi1005 : (0 < t1002.length) = True := eq_true (by omega); (try rw [show ((0 : Int)).toNat = 0 from rfl] at hx1005_0); (try rw [Addr.add_zero'] at hx1005_0); replace p1005 := eq_true p1005; replace q1005 := eq_true q1005; have p1006 : 0 ≤ (1 : Int) := (by omega); have q1006 : 1 < (t1002.length : Int) := of_decide_eq_true (by assumption); obtain ⟨ad1006, e1006, hx1006_0⟩ := Kd.at_string (Kd.R_reads' HO1004.out).2.2 1 p1006 q1006; obtain rfl : ad1005 = ad1006 := (by injection e1006); (try simp only [show (1 : Int).toNat = 1 from rfl, Nat.reduceMul, Nat.reduceEqDiff, Go.Addr.add, ↓reduceIte] at hx1006_0); have qi1006 : (1 < t1002.length) = True := eq_true (by omega); (try rw [show ((1 : Int)).toNat = 1 from rfl] at hx1006_0); replace p1006 := eq_true p1006; replace q1006 := eq_true q1006; have p1007 : 0 ≤ (2 : Int) := (by omega); have q1007 : 2 < (t1002.length : Int) := of_decide_eq_true (by assumption); obtain ⟨ad1007, e1007, hx1007_0⟩ := Kd.at_string (Kd.R_reads' HO1004.out).2.2 2 p1007 q1007; obtain rfl : ad1005 = ad1007 := (by injection e1007); (try simp only [show (2 : Int).toNat = 2 from rfl, Nat.reduceMul, Nat.reduceEqDiff, Go.Addr.add, ↓reduceIte] at hx1007_0); have qi1007 : (2 < t1002.length) = True := eq_true (by omega); (try rw [show ((2 : Int)).toNat = 2 from rfl] at hx1007_0); replace p1007 := eq_true p1007; replace q1007 := eq_true q1007)))
            go_ret3
            exact ⟨by first | rfl | (simp [errW_none, errW_some] <;> rfl) | (simp [*, errW_none, errW_some] <;> rfl), by repeat (first | (with_reducible first | exact HB.out | apply below_alloc | apply pw_below_drewN | apply below_drew1) | exact HB.out)⟩
          · rw [if_neg c9] at H
            exact absurd H (by simp)
        · rw [if_neg c8] at H
          exact absurd H (by simp)
      · rw [if_neg c7] at H
        have c7b0 : ((rdOf ByteArray.empty t1002 0).toList == a1.toList) = false := beq_eq_false_iff_ne.mpr c7
        have c7b1 : ((rdOf ByteArray.empty t1002 0).toList != a1.toList) = true := bne_iff_ne.mpr c7
        simp only [Option.some.injEq, Prod.mk.injEq] at H; obtain ⟨rfl, rfl, rfl⟩ := H; go_enter Try.func172, Try.ntmps172
        go_wp2_with (first | (go_at_call 90; (with_reducible refine (parts_Kind.calls a0 t1001 _ A3.out).mono ?_); rintro e w13 ⟨rfl, hb⟩; have n0_ := Aside0.mk (below_step (by repeat with_reducible first | exact HB.out | apply below_alloc | apply pw_below_drewN | apply below_drew1) hb); clear HB; have HB := n0_; clear n0_; (try clear hb)) | (go_at_call 74; (with_reducible refine (parts_Of.calls a0 t1002 _ A5.out).mono ?_); rintro e w14 ⟨v1003, rfl, ho0, hb⟩; have n0_ := Aside0.mk (Kd.R_lower ho0 (below_size (by repeat with_reducible first | exact HB.out | apply below_alloc | apply pw_below_drewN | apply below_drew1))); have n1_ := Aside0.mk (below_step (by repeat with_reducible first | exact HB.out | apply below_alloc | apply pw_below_drewN | apply below_drew1) hb); clear HB; have HO1004 := n0_; have HB := n1_; clear n0_ n1_; (try clear hb); (try clear ho0); obtain ⟨Ao15, co15, eo15⟩ := Kd.R_slice HO1004.out; subst eo15; have p1005 : 0 ≤ (0 : Int) := (by omega); have q1005 : 0 < (t1002.length : Int) := of_decide_eq_true (by assumption); obtain ⟨ad1005, e1005, hx1005_0⟩ := Kd.at_string (Kd.R_reads' HO1004.out).2.2 0 p1005 q1005; cases e1005; have qi1005 : (0 < t1002.length) = True := eq_true (by omega); (try rw [show ((0 : Int)).toNat = 0 from rfl] at hx1005_0); (try rw [Addr.add_zero'] at hx1005_0); replace p1005 := eq_true p1005; replace q1005 := eq_true q1005))
        repeat (go_quiet (first | (go_at_call 90; (with_reducible refine (parts_Kind.calls a0 t1001 _ A3.out).mono ?_); rintro e w13 ⟨rfl, hb⟩; have n0_ := Aside0.mk (below_step (by repeat with_reducible first | exact HB.out | apply below_alloc | apply pw_below_drewN | apply below_drew1) hb); clear HB; have HB := n0_; clear n0_; (try clear hb)) | (go_at_call 74; (with_reducible refine (parts_Of.calls a0 t1002 _ A5.out).mono ?_); rintro e w14 ⟨v1003, rfl, ho0, hb⟩; have n0_ := Aside0.mk (Kd.R_lower ho0 (below_size (by repeat with_reducible first | exact HB.out | apply below_alloc | apply pw_below_drewN | apply below_drew1))); have n1_ := Aside0.mk (below_step (by repeat with_reducible first | exact HB.out | apply below_alloc | apply pw_below_drewN | apply below_drew1) hb); clear HB; have HO1004 := n0_; have HB := n1_; clear n0_ n1_; (try clear hb); (try clear ho0); obtain ⟨Ao15, co15, eo15⟩ := Kd.R_slice HO1004.out; subst eo15; have p1005 : 0 ≤ (0 : Int) := (by omega); have q1005 : 0 < (t1002.length : Int) := of_decide_eq_true (by assumption); obtain ⟨ad1005, e1005, hx1005_0⟩ := Kd.at_string (Kd.R_reads' HO1004.out).2.2 0 p1005 q1005; cases e1005; have qi1005 : (0 < t1002.length) = True := eq_true (by omega); (try rw [show ((0 : Int)).toNat = 0 from rfl] at hx1005_0); (try rw [Addr.add_zero'] at hx1005_0); replace p1005 := eq_true p1005; replace q1005 := eq_true q1005)); try go_wp2_with (first | (go_at_call 90; (with_reducible refine (parts_Kind.calls a0 t1001 _ A3.out).mono ?_); rintro e w13 ⟨rfl, hb⟩; have n0_ := Aside0.mk (below_step (by repeat with_reducible first | exact HB.out | apply below_alloc | apply pw_below_drewN | apply below_drew1) hb); clear HB; have HB := n0_; clear n0_; (try clear hb)) | (go_at_call 74; (with_reducible refine (parts_Of.calls a0 t1002 _ A5.out).mono ?_); rintro e w14 ⟨v1003, rfl, ho0, hb⟩; have n0_ := Aside0.mk (Kd.R_lower ho0 (below_size (by repeat with_reducible first | exact HB.out | apply below_alloc | apply pw_below_drewN | apply below_drew1))); have n1_ := Aside0.mk (below_step (by repeat with_reducible first | exact HB.out | apply below_alloc | apply pw_below_drewN | apply below_drew1) hb); clear HB; have HO1004 := n0_; have HB := n1_; clear n0_ n1_; (try clear hb); (try clear ho0); obtain ⟨Ao15, co15, eo15⟩ := Kd.R_slice HO1004.out; subst eo15; have p1005 : 0 ≤ (0 : Int) := (by omega); have q1005 : 0 < (t1002.length : Int) := of_decide_eq_true (by assumption); obtain ⟨ad1005, e1005, hx1005_0⟩ := Kd.at_string (Kd.R_reads' HO1004.out).2.2 0 p1005 q1005; cases e1005; have qi1005 : (0 < t1002.length) = True := eq_true (by omega); (try rw [show ((0 : Int)).toNat = 0 from rfl] at hx1005_0); (try rw [Addr.add_zero'] at hx1005_0); replace p1005 := eq_true p1005; replace q1005 := eq_true q1005)))
        go_ret3
        exact ⟨by first | rfl | (simp [errW_none, errW_some] <;> rfl) | (simp [*, errW_none, errW_some] <;> rfl), by repeat (first | (with_reducible first | exact HB.out | apply below_alloc | apply pw_below_drewN | apply below_drew1) | exact HB.out)⟩
    · rw [if_neg c6] at H
      exact absurd H (by simp)
  · rw [if_neg c4] at H
    have c4b0 : (t1001 == 115) = false := beq_eq_false_iff_ne.mpr c4
    have c4b1 : (t1001 != 115) = true := bne_iff_ne.mpr c4
    simp only [Option.some.injEq, Prod.mk.injEq] at H; obtain ⟨rfl, rfl, rfl⟩ := H; go_enter Try.func172, Try.ntmps172
    go_wp2_with (first | (go_at_call 90; (with_reducible refine (parts_Kind.calls a0 t1001 _ A3.out).mono ?_); rintro e w16 ⟨rfl, hb⟩; have n0_ := Aside0.mk (below_step (by repeat with_reducible first | exact HB.out | apply below_alloc | apply pw_below_drewN | apply below_drew1) hb); clear HB; have HB := n0_; clear n0_; (try clear hb)))
    repeat (go_quiet (first | (go_at_call 90; (with_reducible refine (parts_Kind.calls a0 t1001 _ A3.out).mono ?_); rintro e w16 ⟨rfl, hb⟩; have n0_ := Aside0.mk (below_step (by repeat with_reducible first | exact HB.out | apply below_alloc | apply pw_below_drewN | apply below_drew1) hb); clear HB; have HB := n0_; clear n0_; (try clear hb))); try go_wp2_with (first | (go_at_call 90; (with_reducible refine (parts_Kind.calls a0 t1001 _ A3.out).mono ?_); rintro e w16 ⟨rfl, hb⟩; have n0_ := Aside0.mk (below_step (by repeat with_reducible first | exact HB.out | apply below_alloc | apply pw_below_drewN | apply below_drew1) hb); clear HB; have HB := n0_; clear n0_; (try clear hb))))
    go_ret3
    exact ⟨by first | rfl | (simp [errW_none, errW_some] <;> rfl) | (simp [*, errW_none, errW_some] <;> rfl), by repeat (first | (with_reducible first | exact HB.out | apply below_alloc | apply pw_below_drewN | apply below_drew1) | exact HB.out)⟩

open Go.Proofs.Ytppimpadfgldjaa.Pure
theorem same_text {a b : ByteArray} (h : a.toList = b.toList) : a = b := by
  rw [ByteArray.toList_eq, ByteArray.toList_eq] at h
  exact ByteArray.ext (Array.ext' h)
/-- What is told of a text that is opened with a key. -/
def openP (t key : ByteArray) : ByteArray × ByteArray × Int :=
  if kindF t = 115 then (if rdOf ByteArray.empty (kidsF t) 0 = key then (rdOf ByteArray.empty (kidsF t) 1, rdOf ByteArray.empty (kidsF t) 2, 0) else (⟨#[]⟩, ⟨#[]⟩, 6)) else (⟨#[]⟩, ⟨#[]⟩, 2)
def parts_Open.f (t key : ByteArray) : Option (ByteArray × ByteArray × Int) := if t.size < 9223372036854775808 then some (openP t key) else none
theorem parts_Open.eq (t key : ByteArray) (hs : t.size < 9223372036854775808) : parts_Open_p.f t key = some (openP t key) := by
  unfold parts_Open_p.f parts_Kind.f parts_Of.f openP
  simp only [if_pos hs, Option.bind_some]; by_cases c : kindF t = 115
  · obtain ⟨hr, hb⟩ := kind_right c (by decide)
    obtain ⟨x, y, z, hk, _⟩ := kids_seal hr hb
    have hp : kidsP t = [x, y, z] := by unfold kidsP; rw [if_pos hr, hk]
    rw [if_pos c, if_pos c, hp, hk, if_pos (by simp)]
    have hx : rdOf ByteArray.empty [x, y, z] 0 = x := rfl
    rw [hx]
    by_cases d : x = key
    · rw [if_pos d, if_pos (by rw [d]), if_pos (by simp), if_pos (by simp)]
    · rw [if_neg d, if_neg (fun h => d (same_text h))]
  · rw [if_neg c, if_neg c]
theorem parts_Open.calls (a0 : ByteArray) (a1 : ByteArray) (r1 : ByteArray) (r2 : ByteArray) (r3 : Int) (w : World) (h : parts_Open.f a0 a1 = some (r1, r2, r3)) :
    Calls Try.prog 172 #[.string a0, .string a1] w fun e w' => e = .returned (.tuple #[.string r1, .string r2, .int .i64 r3]) ∧ Below w.heap.size w w' := by
  unfold parts_Open.f at h
  split at h
  case isFalse => cases h
  rename_i hs
  exact parts_Open_p.calls a0 a1 r1 r2 r3 w ((parts_Open.eq a0 a1 hs).trans h)

end Go.Proofs.Ytppimpadfgldjaa.F
namespace Go.Proofs.Ytppimpadfgldjaa.F
open Go.RowKit Go.Proofs.YtppimpadfgldjaaW.PrintWords Go.Proofs.YtppimpadfgldjaaW.PrintLast Go.Proofs.YtppimpadfgldjaaW.PrintMore
attribute [local go_sem] max2_int min2_int max_two min_two max_three min_three max_four min_four
set_option linter.unusedVariables false
set_option linter.unusedSimpArgs false

/-! ### parts_Check: function 149 -/
/-! #### parts_Check_p: function 149 -/
def parts_Check_p.f (a0 : ByteArray) (a1 : Int) : Option (ByteArray × Int) := (parts_Kind.f a0).bind fun t1001 => (if t1001 = 120 then ((parts_Of.f a0).bind fun t1002 => ((term_Private.f a1).bind fun bt1005 => (if bt1005.2 = 0 then (if 0 < (t1002.length : Int) then (if (rdOf ByteArray.empty t1002 0).toList = bt1005.1.toList then (if 1 < (t1002.length : Int) then (some (rdOf ByteArray.empty t1002 1, 0)) else (none)) else (some ((⟨#[]⟩ : ByteArray), 6))) else (none)) else (some ((⟨#[]⟩ : ByteArray), 6))))) else (some ((⟨#[]⟩ : ByteArray), 2)))
set_option maxHeartbeats 8000000 in
set_option maxRecDepth 100000 in
theorem parts_Check_p.calls (a0 : ByteArray) (a1 : Int) (r1 : ByteArray) (r2 : Int) (w : World) (h : parts_Check_p.f a0 a1 = some (r1, r2)) :
    Calls Try.prog 149 #[.string a0, .int .i64 a1] w fun e w' => e = .returned (.tuple #[.string r1, .int .i64 r2]) ∧ Below w.heap.size w w' := by
  have HB := Aside0.mk (Below.refl w.heap.size w)
  have H : ((parts_Kind.f a0).bind fun t1001 => (if t1001 = 120 then ((parts_Of.f a0).bind fun t1002 => ((term_Private.f a1).bind fun bt1005 => (if bt1005.2 = 0 then (if 0 < (t1002.length : Int) then (if (rdOf ByteArray.empty t1002 0).toList = bt1005.1.toList then (if 1 < (t1002.length : Int) then (some (rdOf ByteArray.empty t1002 1, 0)) else (none)) else (some ((⟨#[]⟩ : ByteArray), 6))) else (none)) else (some ((⟨#[]⟩ : ByteArray), 6))))) else (some ((⟨#[]⟩ : ByteArray), 2)))) = some (r1, r2) := h
  clear h; replace H := Option.bind_eq_some_iff.mp H
  obtain ⟨t1001, A30, H⟩ := H; replace H : (if t1001 = 120 then ((parts_Of.f a0).bind fun t1002 => ((term_Private.f a1).bind fun bt1005 => (if bt1005.2 = 0 then (if 0 < (t1002.length : Int) then (if (rdOf ByteArray.empty t1002 0).toList = bt1005.1.toList then (if 1 < (t1002.length : Int) then (some (rdOf ByteArray.empty t1002 1, 0)) else (none)) else (some ((⟨#[]⟩ : ByteArray), 6))) else (none)) else (some ((⟨#[]⟩ : ByteArray), 6))))) else (some ((⟨#[]⟩ : ByteArray), 2))) = some (r1, r2) := H
  have A3 := Aside0.mk A30
  clear A30; by_cases c4 : t1001 = 120
  · rw [if_pos c4] at H
    have c4b0 : (t1001 == 120) = true := beq_iff_eq.mpr c4
    have c4b1 : (t1001 != 120) = false := bne_eq_false_iff_eq.mpr c4
    clear c4; replace H := Option.bind_eq_some_iff.mp H
    obtain ⟨t1002, A50, H⟩ := H; replace H : ((term_Private.f a1).bind fun bt1005 => (if bt1005.2 = 0 then (if 0 < (t1002.length : Int) then (if (rdOf ByteArray.empty t1002 0).toList = bt1005.1.toList then (if 1 < (t1002.length : Int) then (some (rdOf ByteArray.empty t1002 1, 0)) else (none)) else (some ((⟨#[]⟩ : ByteArray), 6))) else (none)) else (some ((⟨#[]⟩ : ByteArray), 6)))) = some (r1, r2) := H
    have A5 := Aside0.mk A50
    clear A50; replace H := Option.bind_eq_some_iff.mp H
    obtain ⟨⟨t1005, t1006⟩, A60, H⟩ := H
    replace H : (if t1006 = 0 then (if 0 < (t1002.length : Int) then (if (rdOf ByteArray.empty t1002 0).toList = t1005.toList then (if 1 < (t1002.length : Int) then (some (rdOf ByteArray.empty t1002 1, 0)) else (none)) else (some ((⟨#[]⟩ : ByteArray), 6))) else (none)) else (some ((⟨#[]⟩ : ByteArray), 6))) = some (r1, r2) := H
    have A6 := Aside0.mk A60
    clear A60; by_cases c7 : t1006 = 0
    · rw [if_pos c7] at H
      have c7b0 : (t1006 == 0) = true := beq_iff_eq.mpr c7
      have c7b1 : (t1006 != 0) = false := bne_eq_false_iff_eq.mpr c7
      clear c7; by_cases c8 : 0 < (t1002.length : Int)
      · rw [if_pos c8] at H
        have c8b0 : decide (0 < (t1002.length : Int)) = true := decide_eq_true c8
        have c8b1 : decide (0 < t1002.length) = true := decide_eq_true (by omega)
        clear c8; by_cases c9 : (rdOf ByteArray.empty t1002 0).toList = t1005.toList
        · rw [if_pos c9] at H
          have c9b0 : ((rdOf ByteArray.empty t1002 0).toList == t1005.toList) = true := beq_iff_eq.mpr c9
          have c9b1 : ((rdOf ByteArray.empty t1002 0).toList != t1005.toList) = false := bne_eq_false_iff_eq.mpr c9
          clear c9; by_cases c10 : 1 < (t1002.length : Int)
          · rw [if_pos c10] at H
            have c10b0 : decide (1 < (t1002.length : Int)) = true := decide_eq_true c10
            have c10b1 : decide (1 < t1002.length) = true := decide_eq_true (by omega)
            clear c10; simp only [Option.some.injEq, Prod.mk.injEq] at H; obtain ⟨rfl, rfl⟩ := H; go_enter Try.func149, Try.ntmps149
            go_wp2_with (first | ((with_reducible refine gate_callee (f := 90) rfl ?_); refine goesL_ (some 10) rfl rfl Try.func90 (by kernel_rfl) rfl #[.string a0] rfl (by simp only [List.map_toArray, List.map_cons, List.map_nil] <;> rfl) ?_; (with_reducible refine (parts_Kind.calls a0 t1001 _ A3.out).mono ?_); rintro e w11 ⟨rfl, hb⟩; refine ⟨_, rfl, ?_⟩; have n0_ := Aside0.mk (below_step (by repeat with_reducible first | exact HB.out | apply below_alloc | apply pw_below_drewN | apply below_drew1) hb); clear HB; have HB := n0_; clear n0_; (try clear hb)) | ((with_reducible refine gate_callee (f := 74) rfl ?_); refine goesL_ (some 13) rfl rfl Try.func74 (by kernel_rfl) rfl #[.string a0] rfl (by simp only [List.map_toArray, List.map_cons, List.map_nil] <;> rfl) ?_; (with_reducible refine (parts_Of.calls a0 t1002 _ A5.out).mono ?_); rintro e w12 ⟨v1003, rfl, ho0, hb⟩; refine ⟨_, rfl, ?_⟩; have n0_ := Aside0.mk (Kd.R_lower ho0 (below_size (by repeat with_reducible first | exact HB.out | apply below_alloc | apply pw_below_drewN | apply below_drew1))); have n1_ := Aside0.mk (below_step (by repeat with_reducible first | exact HB.out | apply below_alloc | apply pw_below_drewN | apply below_drew1) hb); clear HB; have HO1004 := n0_; have HB := n1_; clear n0_ n1_; (try clear hb); (try clear ho0)) | ((with_reducible refine gate_callee (f := 54) rfl ?_); refine goesL_ (some 16) rfl rfl Try.func54 (by kernel_rfl) rfl #[.int .i64 a1] rfl (by simp only [List.map_toArray, List.map_cons, List.map_nil] <;> rfl) ?_; (with_reducible refine (term_Private.calls a1 t1005 t1006 _ A6.out).mono ?_); rintro e w13 ⟨rfl, hb⟩; refine ⟨_, rfl, ?_⟩; have n0_ := Aside0.mk (Kd.R_below (by (with_reducible repeat (first | apply Kd.R_alloc | apply Kd.R_drewN | apply Kd.R_drew)); exact HO1004.out) hb); have n1_ := Aside0.mk (below_step (by repeat with_reducible first | exact HB.out | apply below_alloc | apply pw_below_drewN | apply below_drew1) hb); clear HO1004; clear HB; have HO1004 := n0_; have HB := n1_; clear n0_ n1_; (try clear hb); obtain ⟨Ao14, co14, eo14⟩ := Kd.R_slice HO1004.out; subst eo14; have p1007 : 0 ≤ (0 : Int) := (by omega); have q1007 : 0 < (t1002.length : Int) := of_decide_eq_true (by assumption); obtain ⟨ad1007, e1007, hx1007_0⟩ := Kd.at_string (Kd.R_reads' HO1004.out).2.2 0 p1007 q1007; cases e1007; have qi1007 : (0 < t1002.length) = True := eq_true (by omega); (try rw [show ((0 : Int)).toNat = 0 from rfl] at hx1007_0); (try rw [Addr.add_zero'] at hx1007_0); replace p1007 := eq_true p1007; replace q1007 := eq_true q1007; have p1008 : 0 ≤ (1 : Int) := (by omega); have q1008 : 1 < (t1002.length : Int) := of_decide_eq_true (by assumption); obtain ⟨ad1008, e1008, hx1008_0⟩ := Kd.at_string (Kd.R_reads' HO1004.out).2.2 1 p1008 q1008; obtain rfl : ad1007 = ad1008 := (by injection e1008); (try simp only [show (1 : Int).toNat = 1 from rfl, Nat.reduceMul, Nat.reduceEqDiff, Go.Addr.add, ↓reduceIte] at hx1008_0); have qi1008 : (1 < t1002.length) = True := eq_true (by omega); (try rw [show ((1 : Int)).toNat = 1 from rfl] at hx1008_0); replace p1008 := eq_true p1008; replace q1008 := eq_true q1008))
            go_ret2
            exact ⟨by first | rfl | (simp [errW_none, errW_some] <;> rfl) | (simp [*, errW_none, errW_some] <;> rfl), by repeat (first | (with_reducible first | exact HB.out | apply below_alloc | apply pw_below_drewN | apply below_drew1) | exact HB.out)⟩
          · rw [if_neg c10] at H
            exact absurd H (by simp)
        · rw [if_neg c9] at H
          have c9b0 : ((rdOf ByteArray.empty t1002 0).toList == t1005.toList) = false := beq_eq_false_iff_ne.mpr c9
          have c9b1 : ((rdOf ByteArray.empty t1002 0).toList != t1005.toList) = true := bne_iff_ne.mpr c9
          simp only [Option.some.injEq, Prod.mk.injEq] at H; obtain ⟨rfl, rfl⟩ := H; go_enter Try.func149, Try.ntmps149
          go_wp2_with (first | ((with_reducible refine gate_callee (f := 90) rfl ?_); refine goesL_ (some 10) rfl rfl Try.func90 (by kernel_rfl) rfl #[.string a0] rfl (by simp only [List.map_toArray, List.map_cons, List.map_nil] <;> rfl) ?_; (with_reducible refine (parts_Kind.calls a0 t1001 _ A3.out).mono ?_); rintro e w15 ⟨rfl, hb⟩; refine ⟨_, rfl, ?_⟩; have n0_ := Aside0.mk (below_step (by repeat with_reducible first | exact HB.out | apply below_alloc | apply pw_below_drewN | apply below_drew1) hb); clear HB; have HB := n0_; clear n0_; (try clear hb)) | ((with_reducible refine gate_callee (f := 74) rfl ?_); refine goesL_ (some 13) rfl rfl Try.func74 (by kernel_rfl) rfl #[.string a0] rfl (by simp only [List.map_toArray, List.map_cons, List.map_nil] <;> rfl) ?_; (with_reducible refine (parts_Of.calls a0 t1002 _ A5.out).mono ?_); rintro e w16 ⟨v1003, rfl, ho0, hb⟩; refine ⟨_, rfl, ?_⟩; have n0_ := Aside0.mk (Kd.R_lower ho0 (below_size (by repeat with_reducible first | exact HB.out | apply below_alloc | apply pw_below_drewN | apply below_drew1))); have n1_ := Aside0.mk (below_step (by repeat with_reducible first | exact HB.out | apply below_alloc | apply pw_below_drewN | apply below_drew1) hb); clear HB; have HO1004 := n0_; have HB := n1_; clear n0_ n1_; (try clear hb); (try clear ho0)) | ((with_reducible refine gate_callee (f := 54) rfl ?_); refine goesL_ (some 16) rfl rfl Try.func54 (by kernel_rfl) rfl #[.int .i64 a1] rfl (by simp only [List.map_toArray, List.map_cons, List.map_nil] <;> rfl) ?_; (with_reducible refine (term_Private.calls a1 t1005 t1006 _ A6.out).mono ?_); rintro e w17 ⟨rfl, hb⟩; refine ⟨_, rfl, ?_⟩; have n0_ := Aside0.mk (Kd.R_below (by (with_reducible repeat (first | apply Kd.R_alloc | apply Kd.R_drewN | apply Kd.R_drew)); exact HO1004.out) hb); have n1_ := Aside0.mk (below_step (by repeat with_reducible first | exact HB.out | apply below_alloc | apply pw_below_drewN | apply below_drew1) hb); clear HO1004; clear HB; have HO1004 := n0_; have HB := n1_; clear n0_ n1_; (try clear hb); obtain ⟨Ao18, co18, eo18⟩ := Kd.R_slice HO1004.out; subst eo18; have p1007 : 0 ≤ (0 : Int) := (by omega); have q1007 : 0 < (t1002.length : Int) := of_decide_eq_true (by assumption); obtain ⟨ad1007, e1007, hx1007_0⟩ := Kd.at_string (Kd.R_reads' HO1004.out).2.2 0 p1007 q1007; cases e1007; have qi1007 : (0 < t1002.length) = True := eq_true (by omega); (try rw [show ((0 : Int)).toNat = 0 from rfl] at hx1007_0); (try rw [Addr.add_zero'] at hx1007_0); replace p1007 := eq_true p1007; replace q1007 := eq_true q1007))
          go_ret2
          exact ⟨by first | rfl | (simp [errW_none, errW_some] <;> rfl) | (simp [*, errW_none, errW_some] <;> rfl), by repeat (first | (with_reducible first | exact HB.out | apply below_alloc | apply pw_below_drewN | apply below_drew1) | exact HB.out)⟩
      · rw [if_neg c8] at H
        exact absurd H (by simp)
    · rw [if_neg c7] at H
      have c7b0 : (t1006 == 0) = false := beq_eq_false_iff_ne.mpr c7
      have c7b1 : (t1006 != 0) = true := bne_iff_ne.mpr c7
      simp only [Option.some.injEq, Prod.mk.injEq] at H; obtain ⟨rfl, rfl⟩ := H; go_enter Try.func149, Try.ntmps149
      go_wp2_with (first | ((with_reducible refine gate_callee (f := 90) rfl ?_); refine goesL_ (some 10) rfl rfl Try.func90 (by kernel_rfl) rfl #[.string a0] rfl (by simp only [List.map_toArray, List.map_cons, List.map_nil] <;> rfl) ?_; (with_reducible refine (parts_Kind.calls a0 t1001 _ A3.out).mono ?_); rintro e w19 ⟨rfl, hb⟩; refine ⟨_, rfl, ?_⟩; have n0_ := Aside0.mk (below_step (by repeat with_reducible first | exact HB.out | apply below_alloc | apply pw_below_drewN | apply below_drew1) hb); clear HB; have HB := n0_; clear n0_; (try clear hb)) | ((with_reducible refine gate_callee (f := 74) rfl ?_); refine goesL_ (some 13) rfl rfl Try.func74 (by kernel_rfl) rfl #[.string a0] rfl (by simp only [List.map_toArray, List.map_cons, List.map_nil] <;> rfl) ?_; (with_reducible refine (parts_Of.calls a0 t1002 _ A5.out).mono ?_); rintro e w20 ⟨v1003, rfl, ho0, hb⟩; refine ⟨_, rfl, ?_⟩; have n0_ := Aside0.mk (Kd.R_lower ho0 (below_size (by repeat with_reducible first | exact HB.out | apply below_alloc | apply pw_below_drewN | apply below_drew1))); have n1_ := Aside0.mk (below_step (by repeat with_reducible first | exact HB.out | apply below_alloc | apply pw_below_drewN | apply below_drew1) hb); clear HB; have HO1004 := n0_; have HB := n1_; clear n0_ n1_; (try clear hb); (try clear ho0)) | ((with_reducible refine gate_callee (f := 54) rfl ?_); refine goesL_ (some 16) rfl rfl Try.func54 (by kernel_rfl) rfl #[.int .i64 a1] rfl (by simp only [List.map_toArray, List.map_cons, List.map_nil] <;> rfl) ?_; (with_reducible refine (term_Private.calls a1 t1005 t1006 _ A6.out).mono ?_); rintro e w21 ⟨rfl, hb⟩; refine ⟨_, rfl, ?_⟩; have n0_ := Aside0.mk (Kd.R_below (by (with_reducible repeat (first | apply Kd.R_alloc | apply Kd.R_drewN | apply Kd.R_drew)); exact HO1004.out) hb); have n1_ := Aside0.mk (below_step (by repeat with_reducible first | exact HB.out | apply below_alloc | apply pw_below_drewN | apply below_drew1) hb); clear HO1004; clear HB; have HO1004 := n0_; have HB := n1_; clear n0_ n1_; (try clear hb)))
      go_ret2
      exact ⟨by first | rfl | (simp [errW_none, errW_some] <;> rfl) | (simp [*, errW_none, errW_some] <;> rfl), by repeat (first | (with_reducible first | exact HB.out | apply below_alloc | apply pw_below_drewN | apply below_drew1) | exact HB.out)⟩
  · rw [if_neg c4] at H
    have c4b0 : (t1001 == 120) = false := beq_eq_false_iff_ne.mpr c4
    have c4b1 : (t1001 != 120) = true := bne_iff_ne.mpr c4
    simp only [Option.some.injEq, Prod.mk.injEq] at H; obtain ⟨rfl, rfl⟩ := H; go_enter Try.func149, Try.ntmps149
    go_wp2_with (first | ((with_reducible refine gate_callee (f := 90) rfl ?_); refine goesL_ (some 10) rfl rfl Try.func90 (by kernel_rfl) rfl #[.string a0] rfl (by simp only [List.map_toArray, List.map_cons, List.map_nil] <;> rfl) ?_; (with_reducible refine (parts_Kind.calls a0 t1001 _ A3.out).mono ?_); rintro e w22 ⟨rfl, hb⟩; refine ⟨_, rfl, ?_⟩; have n0_ := Aside0.mk (below_step (by repeat with_reducible first | exact HB.out | apply below_alloc | apply pw_below_drewN | apply below_drew1) hb); clear HB; have HB := n0_; clear n0_; (try clear hb)))
    go_ret2
    exact ⟨by first | rfl | (simp [errW_none, errW_some] <;> rfl) | (simp [*, errW_none, errW_some] <;> rfl), by repeat (first | (with_reducible first | exact HB.out | apply below_alloc | apply pw_below_drewN | apply below_drew1) | exact HB.out)⟩

open Go.Proofs.Ytppimpadfgldjaa.Pure
/-- What is told of a text that is checked as a process's. -/
def checkP (t : ByteArray) (p : Int) : ByteArray × Int :=
  if kindF t = 120 then (if (privF p).2 = 0 ∧ rdOf ByteArray.empty (kidsF t) 0 = (privF p).1 then (rdOf ByteArray.empty (kidsF t) 1, 0) else (⟨#[]⟩, 6)) else (⟨#[]⟩, 2)
def parts_Check.f (t : ByteArray) (p : Int) : Option (ByteArray × Int) := if t.size < 9223372036854775808 then some (checkP t p) else none
theorem parts_Check.eq (t : ByteArray) (p : Int) (hs : t.size < 9223372036854775808) : parts_Check_p.f t p = some (checkP t p) := by
  unfold parts_Check_p.f parts_Kind.f parts_Of.f term_Private.f checkP
  simp only [if_pos hs, Option.bind_some]; by_cases c : kindF t = 120
  · obtain ⟨hr, hb⟩ := kind_right c (by decide)
    obtain ⟨x, y, hk, _⟩ := kids_sign hr hb
    have hp : kidsP t = [x, y] := by unfold kidsP; rw [if_pos hr, hk]
    rw [if_pos c, if_pos c, hp, hk]
    have hx : rdOf ByteArray.empty [x, y] 0 = x := rfl
    rw [hx]
    by_cases d : (privF p).2 = 0
    · rw [if_pos d, if_pos (by simp)]
      by_cases g : x = (privF p).1
      · rw [if_pos (by rw [g]), if_pos (by simp), if_pos ⟨d, g⟩]
      · rw [if_neg (fun h => g (same_text h)), if_neg (fun h => g h.2)]
    · rw [if_neg d, if_neg (fun h => d h.1)]
  · rw [if_neg c, if_neg c]
theorem parts_Check.calls (a0 : ByteArray) (a1 : Int) (r1 : ByteArray) (r2 : Int) (w : World) (h : parts_Check.f a0 a1 = some (r1, r2)) :
    Calls Try.prog 149 #[.string a0, .int .i64 a1] w fun e w' => e = .returned (.tuple #[.string r1, .int .i64 r2]) ∧ Below w.heap.size w w' := by
  unfold parts_Check.f at h
  split at h
  case isFalse => cases h
  rename_i hs
  exact parts_Check_p.calls a0 a1 r1 r2 w ((parts_Check.eq a0 a1 hs).trans h)

end Go.Proofs.Ytppimpadfgldjaa.F
namespace Go.Proofs.Ytppimpadfgldjaa.Pure
set_option linter.unusedVariables false
set_option linter.unusedSimpArgs false
open Go.RowKit Go.Proofs.Ytppimpadfgldjaa.F Go.Proofs.YtppimpadfgldjaaW.PrintWords Go.Proofs.YtppimpadfgldjaaW.PrintLast

theorem kids_of {h : ByteArray} {ts : List ByteArray} {pow : Bool} (hh : HeadOf h ts pow) (hp : ∀ x ∈ ts, Part 399 x) (hr : pow = true → Rises ⟨#[]⟩ ts) (hs : (h ++ cat ts).size ≤ 20000) :
    rightB (h ++ cat ts) = true ∧ kidsP (h ++ cat ts) = ts ∧ kidsF (h ++ cat ts) = ts ∧ kindF (h ++ cat ts) = bt h 0 := by
  obtain ⟨n, _⟩ := node_made (m := 399) (by decide) hh hp hr (by decide)
  have h1 := node_right n hs
  have h2 := kids_node n hs
  refine ⟨h1, ?_, h2, ?_⟩
  · unfold kidsP; rw [if_pos h1, h2]
  · unfold kindF; rw [if_pos h1]; exact bt_head n
theorem kids_pairM {a b : ByteArray} (ha : Part 399 a) (hb : Part 399 b) (hs : a.size + b.size < 20000) :
    rightB ((⟨#[112]⟩ : ByteArray) ++ cat [a, b]) = true ∧ kidsP ((⟨#[112]⟩ : ByteArray) ++ cat [a, b]) = [a, b] ∧ kidsF ((⟨#[112]⟩ : ByteArray) ++ cat [a, b]) = [a, b] ∧ kindF ((⟨#[112]⟩ : ByteArray) ++ cat [a, b]) = 112 :=
  kids_of (HeadOf.pair a b) (mem2 ha hb) (fun h => absurd h (by simp)) (by rw [cat2, ByteArray.size_append, ByteArray.size_append]; show 1 + _ ≤ _; omega)
theorem kids_signM {a b : ByteArray} (ha : Part 399 a) (hb : Part 399 b) (hs : a.size + b.size < 20000) :
    rightB ((⟨#[120]⟩ : ByteArray) ++ cat [a, b]) = true ∧ kidsP ((⟨#[120]⟩ : ByteArray) ++ cat [a, b]) = [a, b] ∧ kidsF ((⟨#[120]⟩ : ByteArray) ++ cat [a, b]) = [a, b] ∧ kindF ((⟨#[120]⟩ : ByteArray) ++ cat [a, b]) = 120 :=
  kids_of (HeadOf.sign a b) (mem2 ha hb) (fun h => absurd h (by simp)) (by rw [cat2, ByteArray.size_append, ByteArray.size_append]; show 1 + _ ≤ _; omega)
theorem kids_hashM {a : ByteArray} (ha : Part 399 a) (hs : a.size < 20000) :
    rightB ((⟨#[104]⟩ : ByteArray) ++ cat [a]) = true ∧ kidsP ((⟨#[104]⟩ : ByteArray) ++ cat [a]) = [a] ∧ kidsF ((⟨#[104]⟩ : ByteArray) ++ cat [a]) = [a] ∧ kindF ((⟨#[104]⟩ : ByteArray) ++ cat [a]) = 104 :=
  kids_of (HeadOf.hash a) (mem1 ha) (fun h => absurd h (by simp)) (by rw [cat1, ByteArray.size_append]; show 1 + _ ≤ _; omega)
theorem kids_sealM {a b c : ByteArray} (ha : Part 399 a) (hb : Part 399 b) (hc : Part 399 c) (hs : a.size + b.size + c.size < 20000) :
    rightB ((⟨#[115]⟩ : ByteArray) ++ cat [a, b, c]) = true ∧ kidsP ((⟨#[115]⟩ : ByteArray) ++ cat [a, b, c]) = [a, b, c] ∧ kidsF ((⟨#[115]⟩ : ByteArray) ++ cat [a, b, c]) = [a, b, c] ∧ kindF ((⟨#[115]⟩ : ByteArray) ++ cat [a, b, c]) = 115 :=
  kids_of (HeadOf.sealed a b c) (mem3 ha hb hc) (fun h => absurd h (by simp)) (by rw [cat3, ByteArray.size_append, ByteArray.size_append, ByteArray.size_append]; show 1 + _ ≤ _; omega)
theorem kind_leaf {t : ByteArray} (h : Leaf t) (hs : t.size ≤ 20000) : kindF t = bt t 0 := by
  unfold kindF
  rw [if_pos (h.right hs)]
theorem kidsP_leaf {t : ByteArray} (h : Leaf t) : kidsP t = [] := by
  unfold kidsP
  split
  · exact kids_leaf h
  · rfl
end Go.Proofs.Ytppimpadfgldjaa.Pure
