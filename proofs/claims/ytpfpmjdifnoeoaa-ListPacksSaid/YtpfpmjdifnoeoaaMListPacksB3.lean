/- The program's functions on what stands in terms, and plain facts about it; no condition. -/
import Derived.Test.YtpfpmjdifnoeoaaMListPacksF0
import Derived.Test.YtpfpmjdifnoeoaaMListPacksB1
import Derived.RangeFuncNested
import Derived.RangeFuncBound
import Derived.RangeFuncCalls
import Derived.RangeFuncLeaves
import Derived.Shelf.Abstract
import Derived.Shelf.AbstractIn
import Derived.Shelf.RegionOpen
import Derived.OwnWalkIn
import Derived.TacticsInMore
import Derived.LoopNIn
import Derived.LoopIn
import Derived.RangeFuncBox
import Derived.Shelf.SlIter.Collect
import Derived.Lib.OwnBridge
import Derived.Test.YtpfpmjdifnoeoaaMListPacksB2
import Derived.Lib.ConvBytes
import Derived.Lib.AtoiErrMem
import Derived.Laws.BitsLemmas
namespace Go.Proofs.Ytpfpmjdifnoeoaa.F
open Go.RowKit Go.Proofs.YtpfpmjdifnoeoaaW.PrintWords Go.Proofs.YtpfpmjdifnoeoaaW.PrintLast Go.Proofs.YtpfpmjdifnoeoaaW.PrintMore
attribute [local go_sem] max2_int min2_int max_two min_two max_three min_three max_four min_four
set_option linter.unusedVariables false
set_option linter.unusedSimpArgs false
open Go.Shelf Go.Proofs.Ytpfpmjdifnoeoaa.Pure
attribute [local go_sem] Oper.semAt_some
def tkN : Nat → ByteArray → List ByteArray
  | 0, _ => []
  | n + 1, s => if s.size = 0 ∨ (takeF s).2.2 ≠ 0 then [] else (takeF s).1 :: tkN n (takeF s).2.1
theorem take_less {s : ByteArray} (h : (takeF s).2.2 = 0) : (takeF s).2.1.size < s.size := by
  unfold takeF at h ⊢
  by_cases c : (scanF s).2.2 = 0
  · have := scanF_end c
    rw [if_neg (show ¬ ((scanF s).2.2 ≠ 0) from fun h => h c)] at h ⊢
    by_cases c2 : (scanF s).1 > 20000
    · rw [if_pos c2] at h; exact absurd h (by decide)
    · rw [if_neg c2]
      show (s.extract (scanF s).1.toNat s.size).size < s.size
      rw [ByteArray.size_extract]
      omega
  · rw [if_pos c] at h
    exact absurd h c
theorem tkN_same : ∀ (n m : Nat) (s : ByteArray), s.size ≤ n → s.size ≤ m → tkN n s = tkN m s
  | 0, 0, _, _, _ => rfl
  | 0, m + 1, s, h, _ => by rw [tkN, tkN, if_pos (.inl (by omega))]
  | n + 1, 0, s, _, h => by rw [tkN, tkN, if_pos (.inl (by omega))]
  | n + 1, m + 1, s, h1, h2 => by
    rw [tkN, tkN]
    by_cases c : s.size = 0 ∨ (takeF s).2.2 ≠ 0
    · rw [if_pos c, if_pos c]
    · rw [if_neg c, if_neg c]
      have := take_less (s := s) (Decidable.byContradiction fun h => c (.inr h))
      rw [tkN_same n m _ (by omega) (by omega)]
def tkF (s : ByteArray) : List ByteArray := tkN s.size s
theorem tkF_nil {s : ByteArray} (h : s.size = 0) : tkF s = [] := by unfold tkF; rw [h]; rfl
theorem tkF_bad {s : ByteArray} (h : (takeF s).2.2 ≠ 0) : tkF s = [] := by
  unfold tkF
  cases hs : s.size with
  | zero => rfl
  | succ n => rw [tkN, if_pos (.inr h)]
theorem tkF_cons {s : ByteArray} (h0 : s.size ≠ 0) (h : (takeF s).2.2 = 0) : tkF s = (takeF s).1 :: tkF (takeF s).2.1 := by
  have hl := take_less h
  unfold tkF
  obtain ⟨n, hn⟩ : ∃ n, s.size = n + 1 := ⟨s.size - 1, by omega⟩
  rw [hn, tkN, if_neg (fun h_ => h_.elim h0 fun h1 => h1 h), tkN_same n (takeF s).2.1.size _ (by omega) (Nat.le_refl _)]
theorem tkF_len (s : ByteArray) : (tkF s).length ≤ s.size := by
  have h : ∀ (n : Nat) (s : ByteArray), (tkN n s).length ≤ n := by
    intro n; induction n with
    | zero => intro s; exact Nat.le_refl _
    | succ n ih =>
      intro s; rw [tkN]
      split
      · simp
      · rw [List.length_cons]; have := ih (takeF s).2.1; omega
  exact h _ _
def bodyF (t : ByteArray) : ByteArray :=
  if bt t 0 = 107 ∨ bt t 0 = 104 ∨ bt t 0 = 112 ∨ bt t 0 = 115 ∨ bt t 0 = 120 then t.extract 1 t.size else if bt t 0 = 101 then t.extract 2 t.size else ⟨#[]⟩
def kidsF (t : ByteArray) : List ByteArray := tkF (bodyF t)
theorem bodyF_size (t : ByteArray) : (bodyF t).size ≤ t.size := by
  unfold bodyF
  split
  · rw [ByteArray.size_extract]; omega
  · split
    · rw [ByteArray.size_extract]; omega
    · exact Nat.zero_le _
theorem parts_Of.size_nil {s : ByteArray} (h : s.size = 0) : s = ⟨#[]⟩ := by
  apply ByteArray.ext
  exact Array.eq_empty_of_size_eq_zero h
def parts_Of.leftOf : Value → Nat | .string s => s.size | _ => 0
set_option maxRecDepth 100000 in
set_option maxHeartbeats 4000000 in
theorem next1_in {α : Type} (val : α → ByteArray) (n : Nat) (hn : 1 ≤ n) (l B : Nat) (t : ByteArray) (xs : List α) (hx : xs.map val = kidsF t) (ht : t.size < 9223372036854775808) (hp : 0 < t.size) (h2 : bt t 0 = 101 → 2 ≤ t.size) (J Jx : List α → World → Prop)
    (hY : ∀ pre x W, J pre W → pre.length < xs.length → YieldAt Fence.wide (n - 1) Try.prog l #[.string (val x)] W fun e W' => (e = .returned (.bool true) ∧ J (pre ++ [x]) W') ∨ (e = .returned (.bool false) ∧ Jx (pre ++ [x]) W'))
    (W : World) (hJ : AbidesFrom W.heap.size J) (hB : W.cell? ⟨B, 0, none⟩ = some (.string t)) (h0 : J [] W) :
    CallsIn Fence.wide n Try.prog 157 #[.func (.yield l) #[] #[], .pointer (some ⟨B, 0, none⟩)] W fun e W' => (∃ v, e = .returned v) ∧ (J xs W' ∨ ∃ pre, Jx pre W') := by
  have hbx : ∀ (h : 0 < t.size), ((t[0]'h).toNat : Int) = bt t 0 := fun h => bt_at t 0 h
  have HX := Aside0.mk hx
  have HS := Aside0.mk (bodyF_size t)
  have HJ := Aside0.mk hJ
  have HY := Aside0.mk hY
  clear hx hJ hY; obtain ⟨b, hb⟩ : ∃ b, b = bodyF t := ⟨_, rfl⟩
  have HBD := Aside0.mk hb
  unfold bodyF at hb
  obtain ⟨c, hc⟩ : ∃ c, c = bt t 0 := ⟨_, rfl⟩
  rw [← hc] at hb hbx h2
  refine callsIn_of_wp Try.func157 rfl trivial ?_ rfl
  simp only [Try.ntmps157, List.size_toArray, List.length_cons, List.length_nil, Nat.reduceAdd, Nat.reduceSub, Array.replicate_succ, Array.replicate_zero, List.push_toArray, List.append_toArray, List.nil_append, List.cons_append]
  have hcs : (c = 107 ∧ b = t.extract 1 t.size) ∨ (c = 104 ∧ b = t.extract 1 t.size) ∨ (c = 112 ∧ b = t.extract 1 t.size) ∨ (c = 115 ∧ b = t.extract 1 t.size) ∨ (c = 120 ∧ b = t.extract 1 t.size) ∨ (c = 101 ∧ 2 ≤ t.size ∧ b = t.extract 2 t.size) ∨ (c ≠ 107 ∧ c ≠ 104 ∧ c ≠ 112 ∧ c ≠ 115 ∧ c ≠ 120 ∧ c ≠ 101 ∧ b = ⟨#[]⟩) := by
    by_cases d1 : c = 107
    · exact .inl ⟨d1, by rw [hb, if_pos (.inl d1)]⟩
    by_cases d2 : c = 104
    · exact .inr (.inl ⟨d2, by rw [hb, if_pos (.inr (.inl d2))]⟩)
    by_cases d3 : c = 112
    · exact .inr (.inr (.inl ⟨d3, by rw [hb, if_pos (.inr (.inr (.inl d3)))]⟩))
    by_cases d4 : c = 115
    · exact .inr (.inr (.inr (.inl ⟨d4, by rw [hb, if_pos (.inr (.inr (.inr (.inl d4))))]⟩)))
    by_cases d5 : c = 120
    · exact .inr (.inr (.inr (.inr (.inl ⟨d5, by rw [hb, if_pos (.inr (.inr (.inr (.inr d5))))]⟩))))
    have hn : ¬ (c = 107 ∨ c = 104 ∨ c = 112 ∨ c = 115 ∨ c = 120) := by rintro (h | h | h | h | h) <;> contradiction
    by_cases d6 : c = 101
    · exact .inr (.inr (.inr (.inr (.inr (.inl ⟨d6, h2 d6, by rw [hb, if_neg hn, if_pos d6]⟩)))))
    · exact .inr (.inr (.inr (.inr (.inr (.inr ⟨d1, d2, d3, d4, d5, d6, by rw [hb, if_neg hn, if_neg d6]⟩)))))
  clear hb h2; have HT := Aside0.mk (fun (s : ByteArray) (hs : s.size < 9223372036854775808) W => term_Take.calls s (takeF s).1 (takeF s).2.1 (takeF s).2.2 W (by unfold term_Take.f; rw [if_pos hs]))
  clear hc; rcases hcs with ⟨rfl, hb⟩ | ⟨rfl, hb⟩ | ⟨rfl, hb⟩ | ⟨rfl, hb⟩ | ⟨rfl, hb⟩ | ⟨rfl, h2, hb⟩ | ⟨n1, n2, n3, n4, n5, n6, hb⟩
  case' inl | inr.inl | inr.inr.inl | inr.inr.inr.inl | inr.inr.inr.inr.inl => (have hp1 : (1 : Int) ≤ t.size := by omega)
  case' inr.inr.inr.inr.inr.inl => (have hp1 : (2 : Int) ≤ t.size := by omega); clear h2
  case' inr.inr.inr.inr.inr.inr =>
    have e1 : (c == 107) = false := beq_eq_false_iff_ne.mpr n1
    have e2 : (c == 104) = false := beq_eq_false_iff_ne.mpr n2
    have e3 : (c == 112) = false := beq_eq_false_iff_ne.mpr n3
    have e4 : (c == 115) = false := beq_eq_false_iff_ne.mpr n4
    have e5 : (c == 120) = false := beq_eq_false_iff_ne.mpr n5
    have e6 : (c == 101) = false := beq_eq_false_iff_ne.mpr n6
    clear n1 n2 n3 n4 n5 n6
  all_goals
    gi_wp2
    gi_loopw [3] (fun v wr => ∃ (pre rest : List α) (s : ByteArray), v = .string s ∧ xs = pre ++ rest ∧ rest.map val = tkF s ∧ s.size ≤ t.size ∧ Aside0 (AbidesFrom W.heap.size J) ∧ J pre wr) (fun v _ => parts_Of.leftOf v)
    case atStart => exact ⟨[], xs, b, by rw [hb], rfl, by rw [HX.out, kidsF, ← HBD.out], by rw [HBD.out]; exact HS.out, HJ, h0⟩
    case round =>
      clear hb hbx hB h0 HX HBD; obtain ⟨pre, rest, s, rfl, hxs, hr, hss, HJ, hJs⟩ := hrel; have HXS := Aside0.mk hxs
      by_cases hz : s.size = 0
      · obtain rfl : s = ⟨#[]⟩ := parts_Of.size_nil hz
        rw [tkF_nil rfl, List.map_eq_nil_iff] at hr
        subst hr; clear hxs; gi_wp2
        go_end0
        exact ⟨⟨_, rfl⟩, .inl (by rw [HXS.out, List.append_nil]; exact hJs)⟩
      · have hn1 : (s.toList == ([] : List UInt8)) = false := by
          cases hl : s.toList with
          | nil => exact absurd (by rw [ByteArray.toList_eq] at hl; have h1 := congrArg List.length hl; rw [Array.length_toList] at h1; exact h1) hz
          | cons x y => rfl
        have hn2 : (s.toList != ([] : List UInt8)) = true := by rw [bne, hn1]; rfl
        have HTs := Aside0.mk (HT.out s (by omega))
        by_cases hc : (takeF s).2.2 = 0
        · rw [tkF_cons hz hc] at hr
          obtain ⟨x, rest, rfl, hx, hr⟩ := List.map_eq_cons_iff.mp hr; have hl := take_less hc
          rw [hc, ← hx] at HTs
          obtain ⟨r, hr0⟩ : ∃ r, r = (takeF s).2.1 := ⟨_, rfl⟩
          rw [← hr0] at HTs hr hl
          have HR := Aside0.mk hr
          have HL := Aside0.mk hl
          clear hr hr0 hx hc hl hxs; gi_wp2_with (refine ⟨trivial, ?_⟩; gi_at_call 99; go_loud (refine (callsIn_wide.2 (HTs.out _)).mono ?_; rintro e w1 ⟨rfl, hb1⟩; have hJ1 := HJ.out _ _ w1 none hJs ⟨hb1.os, hb1.tape, hb1.output, hb1.size, fun k hk _ => hb1.block k hk⟩ (fun r e => by cases e); obtain ⟨fn, tmps, assign, body, hy, hR⟩ := HY.out pre x w1 hJ1 (by rw [HXS.out]; simp)))
          refine hR.mono ?_
          rintro e W3 (⟨rfl, hJ3⟩ | ⟨rfl, hJx3⟩)
          · gi_wp2
            go_roundw
            case rel => exact ⟨pre ++ [x], rest, r, rfl, by rw [HXS.out]; simp, HR.out, by have := HL.out; omega, HJ, hJ3⟩
            case measure => exact HL.out
          · gi_wp2
            refine bodyPost_ret (results_none rfl _ _ _) rfl ?_
            exact ⟨⟨_, rfl⟩, .inr ⟨_, hJx3⟩⟩
        · rw [tkF_bad hc, List.map_eq_nil_iff] at hr
          subst hr; obtain ⟨q, hq⟩ : ∃ q, q = (takeF s).2.2 := ⟨_, rfl⟩
          rw [← hq] at HTs hc
          have hq1 : (q == 0) = false := beq_eq_false_iff_ne.mpr hc
          have hq2 : (q != 0) = true := bne_iff_ne.mpr hc
          clear hq hc hxs; gi_wp2_with (refine ⟨trivial, ?_⟩; gi_at_call 99; go_loud (refine (callsIn_wide.2 (HTs.out _)).mono ?_; rintro e w1 ⟨rfl, hb1⟩; have hJ1 := HJ.out _ _ w1 none hJs ⟨hb1.os, hb1.tape, hb1.output, hb1.size, fun k hk _ => hb1.block k hk⟩ (fun r e => by cases e)))
          refine ⟨fun f h => (by cases h), ?_⟩
          gi_wp2
          refine bodyPost_ret (results_none rfl _ _ _) rfl ?_
          exact ⟨⟨_, rfl⟩, .inl (by rw [HXS.out, List.append_nil]; exact hJ1)⟩
def parts_Of.ren : Go.Shelf.Ren := ⟨fun | 8 => 124 | 11 => 156 | n => n, fun | 26 => 23 | 28 => 152 | 24 => 37 | 0 => 0 | 33 => 75 | 4 => 4 | n => n, fun | n => n⟩
theorem parts_Of.lay : Go.Proofs.SlLaysZ.n8 Try.prog parts_Of.ren := {
  mixed := by kernel_rfl
  f8 := ⟨Try.f124.name, by decide, Try.func124.trans (congrArg some (by kernel_rfl))⟩
  f11 := ⟨Try.f156.name, by decide, Try.func156.trans (congrArg some (by kernel_rfl))⟩
  t0 := Try.underlying0
  a0 := Try.isAgg0
  z0 := Try.sizeOf0
  v0 := Try.zeroValue0
  t24 := Try.underlying37
  a24 := Try.isAgg37
  z24 := Try.sizeOf37
  v24 := Try.zeroValue37
  t26 := Try.underlying23
  a26 := Try.isAgg23
  z26 := Try.sizeOf23
  v26 := Try.zeroValue23
  t28 := Try.underlying152
  a28 := Try.isAgg152
  z28 := Try.sizeOf152
  v28 := Try.zeroValue152
  i26 := by kernel_rfl }
def txt (l : List UInt8) : ByteArray := ⟨l.toArray⟩
theorem txt_map (l : List ByteArray) : (l.map (·.data.toList)).map txt = l := by
  rw [List.map_map]
  conv => rhs; rw [← List.map_id l]
  apply List.map_congr_left
  intro x _; rfl
theorem parts_Of.gives (n : Nat) (hn : 1 ≤ n) (B : Nat) (t : ByteArray) (ht : t.size < 9223372036854775808) (hp : 0 < t.size) (h2 : bt t 0 = 101 → 2 ≤ t.size) (w : World) (hB : w.cell? ⟨B, 0, none⟩ = some (.string t)) :
    SeqGives Fence.wide n Try.prog 157 #[.pointer (some ⟨B, 0, none⟩)] Go.Proofs.encStr (fun ss => ss = (kidsF t).map (·.data.toList)) (kidsF t).length w := fun l J W hW hJ hY h0 => by
  have hlt := World.block_lt_of_cell? w _ hB
  refine (next1_in txt n hn l B t ((kidsF t).map (·.data.toList)) (txt_map _) ht hp h2 J (fun _ _ => False) (fun pre x W1 hJ1 hl => ?_) W hJ ((hW.cell (p := ⟨B, 0, none⟩) hlt).trans hB) h0).mono ?_
  · have := hY pre x W1 hJ1 (by simpa using hl)
    obtain ⟨fn, tmps, assign, body, hy, hR⟩ := this; exact ⟨fn, tmps, assign, body, hy, hR.mono fun e W' ⟨h1, h2, _⟩ => .inl ⟨h1, h2⟩⟩
  · rintro e W' ⟨hv, h | ⟨pre, h⟩⟩
    · exact ⟨hv, _, rfl, h⟩
    · exact h.elim
theorem parts_Of.next.calls (t : ByteArray) (w : World) :
    Calls Try.prog 125 #[.string t] w fun e w' => e = .returned (.func (.func 157) #[] #[.pointer (some ⟨w.heap.size, 0, none⟩)]) ∧ w' = w.alloc (.cells #[.string t] 23) := by
  go_enter Try.func125, Try.ntmps125
  go_wp2; go_ret
  exact ⟨rfl, rfl⟩
def kidsP (t : ByteArray) : List ByteArray := if rightB t = true then kidsF t else []
def parts_Of.f (t : ByteArray) : Option (List ByteArray) := if t.size < 9223372036854775808 then some (kidsP t) else none
theorem kids_two {t : ByteArray} (h : rightB t = true) (h1 : bt t 0 = 101) : 2 ≤ t.size := by
  have ht := ((right_iff t).mp h).1
  rcases ht.cases with hl | ⟨h, ts, pow, n⟩
  · exfalso
    refine hl.1 ?_
    unfold leafF
    rw [h1]
    rfl
  · have hl : 1 ≤ ts.length := by
      have hh := n.head; cases hh with
      | pow h1 h2 => assumption
      | _ => simp
    have h0 := n.head.pos; cases ts with
    | nil => simp at hl
    | cons x r =>
      have h3 := (n.parts x List.mem_cons_self).1.pos
      rw [n.eq, cat, ByteArray.size_append, ByteArray.size_append]
      omega
theorem parts_Of.call_collect (t : ByteArray) (hr : rightB t = true) (w : World) :
    CallsIn Fence.wide 4 Try.prog 124 #[.func (.func 157) #[] #[.pointer (some ⟨w.heap.size, 0, none⟩)]] (w.alloc (.cells #[.string t] 23)) fun e w' =>
      ∃ v : Value, e = .returned v ∧ Kd.R Kd.string 23 w' w.heap.size (fun _ => True) v (kidsF t) ∧ Below w.heap.size w w' := by
  have hb := ((right_iff t).mp hr)
  have hp := hb.1.pos; have hl : (kidsF t).length ≤ 20000 := Nat.le_trans (tkF_len _) (Nat.le_trans (bodyF_size t) hb.2)
  have hc : (w.alloc (.cells #[.string t] 23)).cell? ⟨w.heap.size, 0, none⟩ = some (.string t) := (Boxed.new w 23 (.string t)).cell
  have hs := parts_Of.gives 2 (by omega) w.heap.size t (by have := hb.2; omega) hp (kids_two hr) _ hc
  have := AnyZ.collect_in parts_Of.lay Fence.wide 4 trivial trivial rfl (by omega) 157 #[.pointer (some ⟨w.heap.size, 0, none⟩)] trivial (enters_of Try.func157 (by kernel_rfl) rfl) _ (kidsF t).length (by unfold maxLen; omega) (by omega) _ hs
  refine CallsIn.mono this ?_
  rintro e w' ⟨v, ss, rfl, rfl, hrow, _, hbl⟩; refine ⟨v, rfl, Kd.R_of_own ?_ (fun _ _ => trivial), ((Below.refl _ w).alloc (Nat.le_refl _) _).trans (hbl.mono (by simp))⟩
  have h1 := ownsRow_base_a hrow (base' := w.heap.size) (by simp)
  rw [Lib.map_encStr, List.length_map] at h1
  exact h1
set_option maxHeartbeats 400000 in
set_option maxRecDepth 10000 in
theorem parts_Of.calls (a0 : ByteArray) (r : List ByteArray) (w : World) (h : parts_Of.f a0 = some r) :
    Calls Try.prog 74 #[.string a0] w fun e w' => ∃ v0_ : Value, e = .returned (v0_) ∧ Kd.R Kd.string 23 w' w.heap.size (fun _ => True) v0_ r ∧ Below w.heap.size w w' := by
  unfold parts_Of.f at h
  split at h
  case isFalse => cases h
  rename_i hsz
  replace h := Option.some.inj h
  have HR := Aside0.mk (fun W => term_Right.calls a0 (rightB a0) W (by rw [term_Right.f, if_pos hsz]))
  have HN := Aside0.mk (parts_Of.next.calls a0)
  have HC := Aside0.mk (parts_Of.call_collect a0)
  have HH := Aside0.mk h
  unfold kidsP at HH
  obtain ⟨q, hq⟩ : ∃ q, q = rightB a0 := ⟨_, rfl⟩
  rw [← hq] at HR HC HH
  clear h hsz hq; cases q
  · rw [if_neg (by decide)] at HH
    obtain rfl := HH.out
    clear HH HC HN; go_enter Try.func74, Try.ntmps74
    go_wp2_with (go_at_call 66; go_loud (refine (HR.out _).mono ?_; rintro e w1 ⟨rfl, hb1⟩; have HB1 := Aside0.mk hb1; clear hb1))
    go_ret
    exact ⟨_, rfl, Kd.R_nil Kd.string _ _ _ _, HB1.out⟩
  · rw [if_pos rfl] at HH
    obtain rfl := HH.out
    clear HH; have HC2 := Aside0.mk (HC.out rfl)
    clear HC; refine (callsIn_wide (n := 5)).1 ?_
    refine callsIn_of_wp Try.func74 rfl trivial ?_ rfl
    simp only [Try.ntmps74, List.size_toArray, List.length_cons, List.length_nil, Nat.reduceAdd, Nat.reduceSub, Array.replicate_succ, Array.replicate_zero, List.push_toArray, List.append_toArray, List.nil_append, List.cons_append]; have hw4 : 5 - 1 = 4 := rfl
    gi_wp2_with (first | (refine ⟨trivial, ?_⟩; gi_at_call 66; go_loud (refine (callsIn_wide.2 (HR.out _)).mono ?_; rintro e w1 ⟨rfl, hb1⟩; have HB1 := Aside0.mk hb1; clear hb1)) | (refine ⟨trivial, ?_⟩; gi_at_call 125; go_loud (refine (callsIn_wide.2 (HN.out _)).mono ?_; rintro e w2 ⟨rfl, rfl⟩)) | (refine ⟨trivial, ?_⟩; gi_at_call 124; go_loud (refine CallsIn.mono (HC2.out _) ?_; rintro e w3 ⟨v, rfl, hR, hb3⟩; have HR3 := Aside0.mk hR; have HB3 := Aside0.mk hb3; clear hR hb3)))
    go_ret
    exact ⟨_, rfl, Kd.R_lower HR3.out HB1.out.size, below_then HB1.out HB1.out.size HB3.out⟩
end Go.Proofs.Ytpfpmjdifnoeoaa.F
namespace Go.Proofs.Ytpfpmjdifnoeoaa.Pure
set_option linter.unusedVariables false
set_option linter.unusedSimpArgs false
open Go.RowKit Go.Proofs.Ytpfpmjdifnoeoaa.F Go.Proofs.YtpfpmjdifnoeoaaW.PrintWords Go.Proofs.YtpfpmjdifnoeoaaW.PrintLast
theorem tk_cat : ∀ (ts : List ByteArray) (k : Nat), (∀ t ∈ ts, Tm t ∧ t.size ≤ 20000) → (cat ts).size ≤ k → tkN k (cat ts) = ts
  | [], 0, _, _ => rfl
  | [], k + 1, _, _ => by rw [tkN, if_pos (.inl (show (cat []).size = 0 from rfl))]
  | t :: ts, 0, h, hk => by
    have := (h t List.mem_cons_self).1.pos
    rw [cat, ByteArray.size_append] at hk
    omega
  | t :: ts, k + 1, h, hk => by
    have h1 := h t List.mem_cons_self
    have h2 := h1.1.pos
    rw [cat, ByteArray.size_append] at hk
    have h3 := take_app (r := cat ts) h1.1 h1.2
    rw [tkN, cat, h3]
    simp only
    rw [if_neg (by rw [ByteArray.size_append]; omega), tk_cat ts k (fun x hx => h x (List.mem_cons_of_mem _ hx)) (by omega)]
theorem body_node {t h : ByteArray} {ts : List ByteArray} {pow : Bool} (n : Node t h ts pow) : bodyF t = cat ts := by
  have h2 := n.body
  have h3 := bt_head n
  have hh := n.head
  unfold bodyF
  cases hh with
  | pow h4 h5 =>
    have h6 : bt t 0 = 101 := h3.trans rfl
    rw [if_neg (by omega), if_pos h6]
    exact h2
  | key x hx => rw [if_pos (.inl (h3.trans rfl))]; exact h2
  | hash x => rw [if_pos (.inr (.inl (h3.trans rfl)))]; exact h2
  | pair x y => rw [if_pos (.inr (.inr (.inl (h3.trans rfl))))]; exact h2
  | sign x y => rw [if_pos (.inr (.inr (.inr (.inr (h3.trans rfl)))))]; exact h2
  | sealed x y z => rw [if_pos (.inr (.inr (.inr (.inl (h3.trans rfl)))))]; exact h2
theorem kids_node {t h : ByteArray} {ts : List ByteArray} {pow : Bool} (n : Node t h ts pow) (hs : t.size ≤ 20000) : kidsF t = ts := by
  unfold kidsF tkF
  rw [body_node n]
  exact tk_cat ts _ (n.small hs) (Nat.le_refl _)
theorem kids_leaf {t : ByteArray} (h : Leaf t) : kidsF t = [] := by
  have hb := leaf_bytes h
  unfold kidsF bodyF
  rw [if_neg (by omega), if_neg (by omega)]
  exact tkF_nil rfl
theorem right_cases {t : ByteArray} (h : rightB t = true) : Leaf t ∨ ∃ hd pow, Node t hd (kidsF t) pow := by
  have h1 := (right_iff t).mp h
  rcases h1.1.cases with hl | ⟨hd, ts, pow, n⟩
  · exact .inl hl
  · have := kids_node n h1.2
    exact .inr ⟨hd, pow, by rw [this]; exact n⟩
theorem kids_right {t : ByteArray} (h : rightB t = true) : ∀ x ∈ kidsF t, rightB x = true ∧ x.size < t.size ∧ depF x < depF t := by
  intro x hx
  rcases right_cases h with hl | ⟨hd, pow, n⟩
  · rw [kids_leaf hl] at hx; cases hx
  · have h1 := (right_iff t).mp h
    have h2 := n.small h1.2 x hx
    have h3 := n.tm.2
    have h4 := (le_deepest (dep := 0) (ts := kidsF t)).2 x hx
    have h5 := cat_mem_size hx
    have h6 : t.size = hd.size + (cat (kidsF t)).size := by have := congrArg ByteArray.size n.eq; rwa [ByteArray.size_append] at this
    have h7 := n.head.pos
    exact ⟨(right_iff x).mpr h2, by omega, by omega⟩
theorem kids_pair {t : ByteArray} (h : rightB t = true) (hb : bt t 0 = 112) : ∃ x y, kidsF t = [x, y] ∧ t = (⟨#[112]⟩ : ByteArray) ++ cat [x, y] := by
  rcases right_cases h with hl | ⟨hd, pow, n⟩
  · have := leaf_bytes hl; omega
  · have h3 := bt_head n
    have hq := n.eq
    have hh := n.head
    generalize kidsF t = ts at *
    cases hh with
    | pair x y => exact ⟨x, y, rfl, hq⟩
    | pow h4 h5 => rw [hb] at h3; exact absurd h3 (by show ¬ ((112 : Int) = 101); decide)
    | _ => rw [hb] at h3; exact absurd h3 (by show ¬ ((112 : Int) = _); decide)
end Go.Proofs.Ytpfpmjdifnoeoaa.Pure
namespace Go.Proofs.Ytpfpmjdifnoeoaa.F
open Go.RowKit Go.Proofs.YtpfpmjdifnoeoaaW.PrintWords Go.Proofs.YtpfpmjdifnoeoaaW.PrintLast Go.Proofs.YtpfpmjdifnoeoaaW.PrintMore
attribute [local go_sem] max2_int min2_int max_two min_two max_three min_three max_four min_four
set_option linter.unusedVariables false
set_option linter.unusedSimpArgs false
def parts_Kind_p.f (a0 : ByteArray) : Option (Int) := (term_Right.f a0).bind fun t1001 => (if t1001 = true then (if 0 < (a0.size : Int) then (some (bt a0 0)) else (none)) else (some 0))
set_option maxHeartbeats 8000000 in
set_option maxRecDepth 100000 in
theorem parts_Kind_p.calls (a0 : ByteArray) (r : Int) (w : World) (h : parts_Kind_p.f a0 = some r) :
    Calls Try.prog 71 #[.string a0] w fun e w' => e = .returned (.int .u8 r) ∧ Below w.heap.size w w' := by
  have HB := Aside0.mk (Below.refl w.heap.size w)
  have H : ((term_Right.f a0).bind fun t1001 => (if t1001 = true then (if 0 < (a0.size : Int) then (some (bt a0 0)) else (none)) else (some 0))) = some r := h
  clear h
  replace H := Option.bind_eq_some_iff.mp H
  obtain ⟨t1001, A20, H⟩ := H
  replace H : (if t1001 = true then (if 0 < (a0.size : Int) then (some (bt a0 0)) else (none)) else (some 0)) = some r := H
  have A2 := Aside0.mk A20
  clear A20
  by_cases c3 : t1001 = true
  · subst c3
    have H1 : (if 0 < (a0.size : Int) then (some (bt a0 0)) else (none)) = some r := by rw [if_pos rfl] at H; exact H
    clear H
    have H := H1
    clear H1
    by_cases c4 : 0 < (a0.size : Int)
    · rw [if_pos c4] at H
      have c4b0 : decide (0 < (a0.size : Int)) = true := decide_eq_true c4
      have c4b1 : decide (0 < a0.size) = true := decide_eq_true (by omega)
      clear c4
      obtain rfl := Option.some.inj H
      go_enter Try.func71, Try.ntmps71
      go_wp2_with (first | ((with_reducible refine gate_callee (f := 66) rfl ?_); refine goesL_ (some 4) rfl rfl Try.func66 (by kernel_rfl) rfl #[.string a0] rfl (by simp only [List.map_toArray, List.map_cons, List.map_nil] <;> rfl) ?_; (with_reducible refine (term_Right.calls a0 true _ A2.out).mono ?_); rintro e w6 ⟨rfl, hb⟩; refine ⟨_, rfl, ?_⟩; have n0_ := Aside0.mk (below_step (by repeat with_reducible first | exact HB.out | apply below_alloc | apply pw_below_drewN | apply below_drew1) hb); clear HB; have HB := n0_; clear n0_; (try clear hb); have p5 : 0 ≤ (0 : Int) := (by omega); have q5 : 0 < a0.size := (by have : (0 : Int) < (a0.size : Int) := of_decide_eq_true (by assumption); omega); have hx5 : ∀ h : 0 < a0.size, ((a0[0]'h).toNat : Int) = bt a0 0 := bt_at a0 0; clear p5; have qi5 : (0 < (a0.size : Int)) = True := eq_true (of_decide_eq_true (by assumption)); replace q5 := eq_true q5))
      go_ret
      exact ⟨by first | rfl | (simp [errW_none, errW_some] <;> rfl) | (simp [*, errW_none, errW_some] <;> rfl), by repeat (first | (with_reducible first | exact HB.out | apply below_alloc | apply pw_below_drewN | apply below_drew1) | exact HB.out)⟩
    · rw [if_neg c4] at H
      exact absurd H (by simp)
  · replace c3 := Bool.eq_false_iff.mpr c3
    subst c3
    have H1 : (some 0) = some r := by rw [if_neg (show ¬ (false = true) by decide)] at H; exact H
    clear H
    have H := H1
    clear H1
    obtain rfl := Option.some.inj H
    go_enter Try.func71, Try.ntmps71
    go_wp2_with (first | ((with_reducible refine gate_callee (f := 66) rfl ?_); refine goesL_ (some 4) rfl rfl Try.func66 (by kernel_rfl) rfl #[.string a0] rfl (by simp only [List.map_toArray, List.map_cons, List.map_nil] <;> rfl) ?_; (with_reducible refine (term_Right.calls a0 false _ A2.out).mono ?_); rintro e w7 ⟨rfl, hb⟩; refine ⟨_, rfl, ?_⟩; have n0_ := Aside0.mk (below_step (by repeat with_reducible first | exact HB.out | apply below_alloc | apply pw_below_drewN | apply below_drew1) hb); clear HB; have HB := n0_; clear n0_; (try clear hb)))
    go_ret
    exact ⟨by first | rfl | (simp [errW_none, errW_some] <;> rfl) | (simp [*, errW_none, errW_some] <;> rfl), by repeat (first | (with_reducible first | exact HB.out | apply below_alloc | apply pw_below_drewN | apply below_drew1) | exact HB.out)⟩
def kindF (t : ByteArray) : Int := if rightB t = true then bt t 0 else 0
def parts_Kind.f (t : ByteArray) : Option Int := if t.size < 9223372036854775808 then some (kindF t) else none
theorem parts_Kind.eq (t : ByteArray) (hs : t.size < 9223372036854775808) : parts_Kind_p.f t = parts_Kind.f t := by
  unfold parts_Kind_p.f term_Right.f parts_Kind.f kindF
  rw [if_pos hs, if_pos hs]
  simp only [Option.bind_some]
  by_cases c : rightB t = true
  · have h0 : 0 < t.size := by
      unfold rightB at c
      rw [decide_eq_true_eq] at c
      have := scanF_end c.1
      omega
    rw [if_pos c, if_pos c, if_pos (by omega)]
  · rw [if_neg c, if_neg c]
theorem parts_Kind.calls (a0 : ByteArray) (r : Int) (w : World) (h : parts_Kind.f a0 = some r) :
    Calls Try.prog 71 #[.string a0] w fun e w' => e = .returned (.int .u8 r) ∧ Below w.heap.size w w' := by
  have hs : a0.size < 9223372036854775808 := by
    unfold parts_Kind.f at h
    split at h
    · assumption
    · cases h
  exact parts_Kind_p.calls a0 r w ((parts_Kind.eq a0 hs).trans h)
end Go.Proofs.Ytpfpmjdifnoeoaa.F
namespace Go.Proofs.Ytpfpmjdifnoeoaa.F
open Go.RowKit Go.Proofs.YtpfpmjdifnoeoaaW.PrintWords Go.Proofs.YtpfpmjdifnoeoaaW.PrintLast Go.Proofs.YtpfpmjdifnoeoaaW.PrintMore
attribute [local go_sem] max2_int min2_int max_two min_two max_three min_three max_four min_four
set_option linter.unusedVariables false
set_option linter.unusedSimpArgs false
open Go.Proofs.Ytpfpmjdifnoeoaa.Pure
theorem kind_right {t : ByteArray} {c : Int} (h : kindF t = c) (h0 : c ≠ 0) : rightB t = true ∧ bt t 0 = c := by
  unfold kindF at h
  split at h
  · exact ⟨by assumption, h⟩
  · exact absurd h.symm h0
end Go.Proofs.Ytpfpmjdifnoeoaa.F
namespace Go.Proofs.Ytpfpmjdifnoeoaa.F
open Go.RowKit Go.Proofs.YtpfpmjdifnoeoaaW.PrintWords Go.Proofs.YtpfpmjdifnoeoaaW.PrintLast Go.Proofs.YtpfpmjdifnoeoaaW.PrintMore
attribute [local go_sem] max2_int min2_int max_two min_two max_three min_three max_four min_four
set_option linter.unusedVariables false
set_option linter.unusedSimpArgs false
open Go.Proofs.Ytpfpmjdifnoeoaa.Pure
def decK (t : ByteArray) : Nat → Int
  | 0 => 0
  | k + 1 => decK t k * 256 + bt t ((k + 1 : Nat) : Int)
theorem decK_bound (t : ByteArray) : ∀ k, 0 ≤ decK t k ∧ decK t k < ((256 ^ k : Nat) : Int)
  | 0 => ⟨Int.le_refl _, by show (0 : Int) < 1; decide⟩
  | k + 1 => by
    have h1 := decK_bound t k
    have h2 := bt_pos t ((k + 1 : Nat) : Int)
    rw [decK, Nat.pow_succ]
    generalize 256 ^ k = p at *
    omega
theorem decK_56 (t : ByteArray) {k : Nat} (h : k < 8) : 0 ≤ decK t k ∧ decK t k < 72057594037927936 := by
  have h1 := decK_bound t k
  have h2 : 256 ^ k ≤ 256 ^ 7 := Nat.pow_le_pow_right (by decide) (by omega)
  rw [show 256 ^ 7 = 72057594037927936 from rfl] at h2
  generalize 256 ^ k = p at *
  omega
theorem bytes_cell (w : World) (e : TypeId) (s : ByteArray) (j : Nat) (hj : j < s.size) : (Go.Lib.bytesWorld w e s).cell? ⟨w.heap.size, j, none⟩ = some (.int .u8 (bt s j)) := by
  rw [Go.Lib.bytesWorld_cell w e s j hj, bt_nat s j hj]
  have h : s.data.toList.getD j 0 = s[j] := by
    rw [List.getD_eq_getElem?_getD, List.getElem?_eq_getElem (by simpa [← ByteArray.size_data] using hj)]
    rfl
  rw [h]
def valF (t : ByteArray) : Int × Bool := if kindF t = 110 ∨ kindF t = 117 then (decK t 8, true) else (0, false)
theorem val_size {t : ByteArray} (h : kindF t = 110 ∨ kindF t = 117) : t.size = 9 := by
  unfold kindF at h
  split at h
  case isFalse => omega
  rename_i hr
  rcases ((right_iff t).mp hr).1.cases with hl | ⟨hd, ts, pow, n⟩
  · have h1 := hl.1
    have h2 := hl.2
    unfold leafF at h1 h2
    have h3 : ¬ bt t 0 = 103 := by omega
    repeat' split at h2
    all_goals omega
  · exfalso
    have h3 : bt t 0 = bt hd 0 := by rw [n.eq]; exact bt_left hd (cat ts) 0 n.head.pos
    have hh := n.head
    rw [h3] at h
    cases hh with
    | pow h4 h5 => exact absurd h (by show ¬ ((101 : Int) = 110 ∨ (101 : Int) = 117); decide)
    | _ => exact absurd h (by show ¬ ((_ : Int) = 110 ∨ (_ : Int) = 117); decide)
theorem join8 (x y : Int) (h0 : 0 ≤ x) (h1 : x < 72057594037927936) (h2 : 0 ≤ y) (h3 : y < 256) : bits .or .u64 (x * 256) y = x * 256 + y := by
  refine bits_join .u64 64 (by decide) (fun n a b => ?_) 8 (x * 256) y (by omega) (by show x * 256 % 256 = 0; omega) (by show x * 256 < 18446744073709551616; omega) h2 (by show y < 256; exact h3) (by show y < 18446744073709551616; omega)
  have : (2 : Int) ^ 64 = 18446744073709551616 := by decide
  rw [this] at b
  show n % 18446744073709551616 = n
  omega
def parts_Value.f (t : ByteArray) : Option (Int × Bool) := if t.size < 9223372036854775808 then some (valF t) else none
set_option maxHeartbeats 1000000 in
set_option maxRecDepth 100000 in
theorem parts_Value.good (t : ByteArray) (w : World) (h : kindF t = 110 ∨ kindF t = 117) :
    Calls Try.prog 67 #[.string t] w fun e w' => e = .returned (.tuple #[.int .u64 (decK t 8), .bool true]) ∧ Below w.heap.size w w' := by
  have hz := val_size h
  have HK := Aside0.mk (fun W => parts_Kind.calls t (kindF t) W (by unfold parts_Kind.f; rw [if_pos (by omega)]))
  obtain ⟨c, hc⟩ : ∃ c, c = kindF t := ⟨_, rfl⟩
  rw [← hc] at HK h
  have hconv := fun (W : World) (s : ByteArray) => Go.Lib.run_convert_string_bytes (P := Try.prog) W 23 148 5 s Try.underlying23 Try.underlying148 Try.underlying5
  have hsl : (t.extract 1 t.size).size = 8 := by rw [ByteArray.size_extract]; omega
  have HD := Aside0.mk (fun k hk => decK_56 t (k := k) hk)
  have HZ := Aside0.mk hz
  clear hc
  rcases h with rfl | rfl
  all_goals
    go_enter Try.func67, Try.ntmps67
    go_wp2_with (go_at_call 71; go_loud (refine (HK.out _).mono ?_; rintro e w1 ⟨rfl, hb1⟩; have HB1 := Aside0.mk hb1; clear hb1))
    obtain ⟨W2, hW2⟩ : ∃ W2, Go.Lib.bytesWorld w1 5 (t.extract 1 9) = W2 := ⟨_, rfl⟩
    have HB2 : Aside0 (Below w.heap.size w W2) := ⟨below_then HB1.out HB1.out.size (by rw [← hW2]; exact Go.Lib.bytesWorld_below _ _ _)⟩
    have HC : Aside0 (∀ j : Nat, j < 8 → W2.cell? ⟨w1.heap.size, j, none⟩ = some (.int .u8 (bt t ((j + 1 : Nat) : Int)))) := ⟨fun j hj => by
      have h1 : (t.extract 1 9).size = 8 := by rw [ByteArray.size_extract]; have := HZ.out; omega
      rw [← hW2, bytes_cell _ _ _ j (by omega), show j + 1 = 1 + j by omega, bt_extract t 1 9 j (by omega) (by have := HZ.out; omega)]⟩
    rw [hW2]
    clear hW2 hconv hz hsl
    go_loop [5, 20] (fun n i => ∃ k : Nat, k ≤ 8 ∧ i = .int .i64 k ∧ n = .int .u64 (decK t k)) (fun _ i => 8 - (intOf i).toNat)
    case atStart => exact ⟨0, by omega, rfl, rfl⟩
    case round =>
      obtain ⟨k, hk, rfl, rfl⟩ := hrel
      by_cases hlt : k < 8
      · have hc := HC.out k hlt
        have hd := HD.out k hlt
        obtain ⟨b, hb⟩ : ∃ b, b = bt t ((k + 1 : Nat) : Int) := ⟨_, rfl⟩
        have hbr := bt_pos t ((k + 1 : Nat) : Int)
        have HS : Aside0 (decK t (k + 1) = decK t k * 256 + b) := ⟨by rw [decK, hb]⟩
        rw [← hb] at hc hbr
        obtain ⟨d, hdd⟩ : ∃ d, d = decK t k := ⟨_, rfl⟩
        rw [← hdd] at HS hd ⊢
        have hj := join8 d b hd.1 hd.2 hbr.1 (by omega)
        obtain ⟨hd1, hd2⟩ := hd
        obtain ⟨hb1, hb2⟩ := hbr
        clear hdd hb
        go_wp2
        go_round
        case rel => exact ⟨k + 1, by omega, by go_num, by rw [HS.out]⟩
        case measure => simp [intOf]; omega
      · obtain rfl : k = 8 := by omega
        go_wp2
        go_ret2
        exact ⟨rfl, HB2.out⟩
set_option maxHeartbeats 400000 in
set_option maxRecDepth 10000 in
theorem parts_Value.bad (t : ByteArray) (w : World) (hs : t.size < 9223372036854775808) (h1 : ¬ kindF t = 110) (h2 : ¬ kindF t = 117) :
    Calls Try.prog 67 #[.string t] w fun e w' => e = .returned (.tuple #[.int .u64 0, .bool false]) ∧ Below w.heap.size w w' := by
  have HK := Aside0.mk (fun W => parts_Kind.calls t (kindF t) W (by unfold parts_Kind.f; rw [if_pos hs]))
  obtain ⟨c, hc⟩ : ∃ c, c = kindF t := ⟨_, rfl⟩
  rw [← hc] at HK h1 h2
  have e1 : (c == 110) = false := beq_eq_false_iff_ne.mpr h1
  have e2 : (c == 117) = false := beq_eq_false_iff_ne.mpr h2
  have e3 : (c != 110) = true := bne_iff_ne.mpr h1
  have e4 : (c != 117) = true := bne_iff_ne.mpr h2
  clear hc hs h1 h2
  go_enter Try.func67, Try.ntmps67
  go_wp2_with (go_at_call 71; go_loud (refine (HK.out _).mono ?_; rintro e w1 ⟨rfl, hb1⟩; have HB1 := Aside0.mk hb1; clear hb1))
  go_ret2
  exact ⟨rfl, HB1.out⟩
theorem parts_Value.calls (a0 : ByteArray) (r1 : Int) (r2 : Bool) (w : World) (h : parts_Value.f a0 = some (r1, r2)) :
    Calls Try.prog 67 #[.string a0] w fun e w' => e = .returned (.tuple #[.int .u64 r1, .bool r2]) ∧ Below w.heap.size w w' := by
  unfold parts_Value.f at h
  split at h
  case isFalse => cases h
  rename_i hs
  replace h := Option.some.inj h
  unfold valF at h
  by_cases c : kindF a0 = 110 ∨ kindF a0 = 117
  · rw [if_pos c] at h
    obtain ⟨rfl, rfl⟩ := Prod.mk.inj h
    exact parts_Value.good a0 w c
  · rw [if_neg c] at h
    obtain ⟨rfl, rfl⟩ := Prod.mk.inj h
    exact parts_Value.bad a0 w hs (fun q => c (.inl q)) (fun q => c (.inr q))
end Go.Proofs.Ytpfpmjdifnoeoaa.F
namespace Go.Proofs.Ytpfpmjdifnoeoaa.F
open Go.RowKit Go.Proofs.YtpfpmjdifnoeoaaW.PrintWords Go.Proofs.YtpfpmjdifnoeoaaW.PrintLast Go.Proofs.YtpfpmjdifnoeoaaW.PrintMore
attribute [local go_sem] max2_int min2_int max_two min_two max_three min_three max_four min_four
set_option linter.unusedVariables false
set_option linter.unusedSimpArgs false
open Go.Proofs.Ytpfpmjdifnoeoaa.Pure
end Go.Proofs.Ytpfpmjdifnoeoaa.F
namespace Go.Proofs.Ytpfpmjdifnoeoaa.F
open Go.RowKit Go.Proofs.YtpfpmjdifnoeoaaW.PrintWords Go.Proofs.YtpfpmjdifnoeoaaW.PrintLast Go.Proofs.YtpfpmjdifnoeoaaW.PrintMore
attribute [local go_sem] max2_int min2_int max_two min_two max_three min_three max_four min_four
set_option linter.unusedVariables false
set_option linter.unusedSimpArgs false
open Go.Proofs.Ytpfpmjdifnoeoaa.Pure
end Go.Proofs.Ytpfpmjdifnoeoaa.F
namespace Go.Proofs.Ytpfpmjdifnoeoaa.Pure
set_option linter.unusedVariables false
set_option linter.unusedSimpArgs false
open Go.RowKit Go.Proofs.Ytpfpmjdifnoeoaa.F Go.Proofs.YtpfpmjdifnoeoaaW.PrintWords Go.Proofs.YtpfpmjdifnoeoaaW.PrintLast
theorem kind_leaf {t : ByteArray} (h : Leaf t) (hs : t.size ≤ 20000) : kindF t = bt t 0 := by
  unfold kindF
  rw [if_pos (h.right hs)]
end Go.Proofs.Ytpfpmjdifnoeoaa.Pure
