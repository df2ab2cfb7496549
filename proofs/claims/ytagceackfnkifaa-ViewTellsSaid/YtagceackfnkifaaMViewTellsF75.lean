import Derived.Test.YtagceackfnkifaaMViewTellsF0
import Derived.Test.YtagceackfnkifaaMViewTellsB1
import Derived.RangeFuncNested
import Derived.RangeFuncBound
import Derived.RangeFuncCalls
import Derived.RangeFuncLeaves
import Derived.Shelf.Abstract
import Derived.Shelf.RegionOpen
import Derived.OwnWalkIn
import Derived.TacticsInMore
import Derived.LoopNIn
import Derived.LoopIn
import Derived.RangeFuncBox
namespace Go.Proofs.Ytagceackfnkifaa.F
open Go.RowKit Go.Proofs.YtagceackfnkifaaW.PrintWords Go.Proofs.YtagceackfnkifaaW.PrintLast Go.Proofs.YtagceackfnkifaaW.PrintMore
attribute [local go_sem] max2_int min2_int max_two min_two max_three min_three max_four min_four
set_option linter.unusedVariables false
set_option linter.unusedSimpArgs false
open Go.Shelf
attribute [local go_sem] Oper.semAt_some
theorem list_Put.bw.calls (A0 : Option Addr) (c0 n : Nat) (w : World) :
    Calls Try.prog 109 #[.slice A0 n c0] w fun e w' => e = .returned (.func (.func 139) #[] #[.pointer (some ⟨w.heap.size, 0, none⟩)]) ∧ w' = w.alloc (.cells #[.slice A0 n c0] 58) := by
  go_enter Try.func109, Try.ntmps109
  go_wp2; go_ret
  exact ⟨rfl, rfl⟩
theorem list_Put.add_block (a : Addr) (n : Nat) : (a.add n).block = a.block := by unfold Addr.add; split <;> rfl
def list_Put.KeepB (n₀ Bs : Nat) (W W' : World) : Prop := Below n₀ W W' ∧ (Bs < W.heap.size → W'.heap[Bs]? = W.heap[Bs]?)
theorem list_Put.KeepB.refl (n₀ Bs : Nat) (W : World) : list_Put.KeepB n₀ Bs W W := ⟨Below.refl _ _, fun _ => rfl⟩
theorem list_Put.KeepB.trans {n₀ Bs : Nat} {A B C : World} (h : list_Put.KeepB n₀ Bs A B) (k : list_Put.KeepB n₀ Bs B C) : list_Put.KeepB n₀ Bs A C := ⟨h.1.trans k.1, fun hb => (k.2 (Nat.lt_of_lt_of_le hb h.1.size)).trans (h.2 hb)⟩
theorem list_Put.KeepB.cellBs {n₀ Bs : Nat} {A B : World} (h : list_Put.KeepB n₀ Bs A B) {v : Value} (hc : A.cell? ⟨Bs, 0, none⟩ = some v) : B.cell? ⟨Bs, 0, none⟩ = some v := by
  have hlt := World.block_lt_of_cell? A _ hc
  have := h.2 hlt
  unfold World.cell? at hc ⊢
  simp only at hc ⊢
  rw [this]; exact hc
theorem list_Put.KeepB.put {n₀ Bs : Nat} {w0 : World} (hn : n₀ ≤ w0.heap.size) (hB : Bs < w0.heap.size) (W : World) (l : Nat) (o o' : Obj) (hl : w0.heap.size ≤ l) (h : W.heap[l]? = some o) (h1 : o.isCells = false) (h2 : o.isWalk = false) : list_Put.KeepB n₀ Bs W (W.putObj l o') :=
  ⟨belowK_b hn W l o o' hl h h1 h2, fun _ => (grownBy_putObj' W l o').block Bs (by have := (Array.getElem?_eq_some_iff.1 h).1; omega) (by intro e; cases e; omega)⟩
abbrev list_Put.Short := { x : Int × ByteArray // x.2.size ≤ 20000 }
def list_Put.shortAt (l : List ByteArray) (hl : ∀ z ∈ l, z.size ≤ 20000) (i : Int) (j : Nat) : list_Put.Short := ⟨(i, l.getD j ⟨#[]⟩), by
  simp only [List.getD_eq_getElem?_getD]; rcases Nat.lt_or_ge j l.length with h | h
  · rw [List.getElem?_eq_getElem h]; exact hl _ (List.getElem_mem _)
  · rw [List.getElem?_eq_none h]; exact Nat.zero_le _⟩
def list_Put.back (l : List ByteArray) (hl : ∀ z ∈ l, z.size ≤ 20000) (k : Nat) : List list_Put.Short := (List.range k).map (fun j : Nat => list_Put.shortAt l hl ((l.length : Int) - 1 - (j : Int)) (l.length - 1 - j))
theorem list_Put.back_succ (l : List ByteArray) (hl : ∀ z ∈ l, z.size ≤ 20000) (k : Nat) : list_Put.back l hl (k + 1) = list_Put.back l hl k ++ [list_Put.shortAt l hl ((l.length : Int) - 1 - (k : Int)) (l.length - 1 - k)] := by simp [list_Put.back, List.range_succ]
set_option maxRecDepth 100000 in
set_option maxHeartbeats 2000000 in
theorem list_Put.bw1_in (F : Fence) (n : Nat) (h7 : F.fn 139) (hro : F.round = none) (hn : 1 ≤ n) (l Bs n₀ : Nat) (A0 : Option Addr) (c0 : Nat) (zs : List ByteArray) (hz : ∀ z ∈ zs, z.size ≤ 20000) (J Jx : List list_Put.Short → World → Prop)
    (hY : ∀ pre x W, J pre W → pre.length < zs.length → YieldAt F (n - 1) Try.prog l #[.int .i64 x.1.1, .string x.1.2] W fun e W' =>
      (e = .returned (.bool true) ∧ J (pre ++ [x]) W' ∧ list_Put.KeepB n₀ Bs W W') ∨ (e = .returned (.bool false) ∧ Jx (pre ++ [x]) W'))
    (W : World) (hBs : W.cell? ⟨Bs, 0, none⟩ = some (.slice A0 zs.length c0)) (hlen : zs.length ≤ 9223372036854775807) (hc : ∀ j, j < zs.length → ∃ ad, A0 = some ad ∧ ad.block < n₀ ∧ W.cell? (ad.add j) = some (.string (zs.getD j ⟨#[]⟩))) (h0 : J [] W) :
    CallsIn F n Try.prog 139 #[.func (.yield l) #[] #[], .pointer (some ⟨Bs, 0, none⟩)] W fun e W' => (∃ v, e = .returned v) ∧
      ((∃ ys, ys = list_Put.back zs hz zs.length ∧ J ys W') ∨ (∃ pre, (∃ k, k ≤ zs.length ∧ pre = list_Put.back zs hz k) ∧ Jx pre W')) := by
  refine callsIn_of_wp Try.func139 rfl h7 ?_ hro
  simp only [Try.ntmps139, List.size_toArray, List.length_cons, List.length_nil, Nat.reduceAdd, Nat.reduceSub, Array.replicate_succ, Array.replicate_zero, List.push_toArray, List.append_toArray, List.nil_append, List.cons_append]; gi_wp2
  gi_loopw [3] (fun i wr => ∃ k : Nat, k ≤ zs.length ∧ i = .int .i64 ((zs.length : Int) - 1 - k) ∧ J (list_Put.back zs hz k) wr ∧ list_Put.KeepB n₀ Bs W wr)
    (fun i _ => (intOf i + 1).toNat)
  case atStart => exact ⟨0, Nat.zero_le _, by simp, h0, list_Put.KeepB.refl _ _ _⟩
  case round =>
    obtain ⟨k, hk, rfl, hJs, hnx⟩ := hrel; have hBs' := hnx.cellBs hBs
    by_cases hlt : k < zs.length
    · obtain ⟨ad, rfl, hb, hcx⟩ := hc (zs.length - 1 - k) (by omega)
      obtain ⟨i, hi⟩ : ∃ i : Nat, i = zs.length - 1 - k := ⟨_, rfl⟩
      have hii : (zs.length : Int) - 1 - k = (i : Int) := by omega
      have hil : i < zs.length := by omega
      obtain ⟨y, hy0⟩ : ∃ y, y = zs.getD i ⟨#[]⟩ := ⟨_, rfl⟩
      rw [← hi, ← hy0] at hcx
      have hcx' := (hnx.1.cell (p := ad.add i) (by rw [list_Put.add_block]; exact hb)).trans hcx
      have hbs := list_Put.back_succ zs hz k
      rw [hii, ← hi] at hbs
      obtain ⟨xx, hxx⟩ : ∃ xx, xx = list_Put.shortAt zs hz (i : Int) i := ⟨_, rfl⟩
      rw [← hxx] at hbs
      have hx1 : xx.1.1 = (i : Int) := by rw [hxx]; rfl
      have hx2 : xx.1.2 = y := by rw [hxx, hy0]; rfl
      obtain ⟨fn, tmps, assign, body, hy, hR⟩ := hY _ xx wr hJs (by simp [list_Put.back]; omega)
      rw [hx1, hx2] at hy
      rw [hii]
      have HI := Aside0.mk hi
      have HBS := Aside0.mk hbs
      have HII := Aside0.mk hii
      clear hi hbs hii hy0 hcx hBs hx1 hx2 hxx; gi_wp2
      refine hR.mono ?_
      rintro e W3 (⟨rfl, hJ3, hk3⟩ | ⟨rfl, hJx3⟩)
      · gi_wp2
        go_roundw
        case rel => exact ⟨k + 1, by omega, by have := HII.out; rw [show (i : Int) - 1 = (zs.length : Int) - 1 - (k + 1 : Nat) by omega], by rw [HBS.out]; exact hJ3, hnx.trans hk3⟩
        case measure => simp [intOf] <;> omega
      · gi_wp2
        refine bodyPost_ret (results_none rfl _ _ _) rfl ?_
        exact ⟨⟨_, rfl⟩, .inr ⟨_, ⟨k + 1, by omega, HBS.out.symm⟩, hJx3⟩⟩
    · obtain rfl : k = zs.length := by omega
      have hii : (zs.length : Int) - 1 - zs.length = -1 := by omega
      rw [hii]
      gi_wp2
      go_end0
      exact ⟨⟨_, rfl⟩, .inl ⟨_, rfl, hJs⟩⟩
theorem list_Put.bw_stops (F : Fence) (n : Nat) (h7 : F.fn 139) (hro : F.round = none) (hn : 1 ≤ n) (Bs n₀ : Nat) (A0 : Option Addr) (c0 : Nat) (zs : List ByteArray) (hz : ∀ z ∈ zs, z.size ≤ 20000) (w : World) (hBs0 : Bs < w.heap.size) (hn₀ : n₀ ≤ w.heap.size)
    (hBs : w.cell? ⟨Bs, 0, none⟩ = some (.slice A0 zs.length c0)) (hlen : zs.length ≤ 9223372036854775807) (hc : ∀ j, j < zs.length → ∃ ad, A0 = some ad ∧ ad.block < n₀ ∧ w.cell? (ad.add j) = some (.string (zs.getD j ⟨#[]⟩))) :
    SeqStopsK F n Try.prog 139 #[.pointer (some ⟨Bs, 0, none⟩)] (fun x : list_Put.Short => #[Value.int .i64 x.1.1, Value.string x.1.2]) (list_Put.KeepB n₀ Bs) (fun ys => ys = list_Put.back zs hz zs.length)
      (fun pre => ∃ k, k ≤ zs.length ∧ pre = list_Put.back zs hz k) zs.length w := fun l J Jx W hW _ _ hY h0 =>
  list_Put.bw1_in F n h7 hro hn l Bs n₀ A0 c0 zs hz J Jx hY W ((hW.cell (p := ⟨Bs, 0, none⟩) hBs0).trans hBs) hlen (fun j hj => by
    obtain ⟨ad, e, hb, h⟩ := hc j hj
    exact ⟨ad, e, hb, (hW.cell (p := ad.add j) (by rw [list_Put.add_block]; exact Nat.lt_of_lt_of_le hb hn₀)).trans h⟩) h0
set_option maxHeartbeats 400000 in
set_option maxRecDepth 10000 in
theorem list_Put.wrong.calls (x : ByteArray) (hx : x.size < 9223372036854775808) (W : World) :
    Calls Try.prog 107 #[.string x] W fun e w' => e = .returned (.bool (!rightB x)) ∧ Below W.heap.size W w' := by
  have HC := Aside0.mk (term_Right.calls x (rightB x) W (by rw [term_Right.f, if_pos hx]))
  obtain ⟨q, hq⟩ : ∃ q, q = rightB x := ⟨_, rfl⟩
  rw [← hq] at HC ⊢
  clear hq; go_enter Try.func107, Try.ntmps107
  go_wp2_with (go_at_call 59; refine (HC.out).mono ?_; rintro e w' ⟨rfl, hb⟩)
  go_ret
  exact ⟨rfl, hb⟩
theorem list_Put.first_bad (p : ByteArray → Bool) (l : List ByteArray) : l.any p = false ∨ ∃ j, j < l.length ∧ p (l.getD j ByteArray.empty) = true ∧ ∀ m, m < j → p (l.getD m ByteArray.empty) = false := by
  induction l with
  | nil => exact .inl rfl
  | cons x xs ih =>
    by_cases hx : p x
    · exact .inr ⟨0, by simp, by simpa using hx, fun m hm => by omega⟩
    · rcases ih with h | ⟨j, h1, h2, h3⟩
      · exact .inl (by simp [hx, h])
      · refine .inr ⟨j + 1, by simpa using h1, by simpa using h2, fun m hm => ?_⟩
        rcases m with _ | m
        · simpa using hx
        · simpa using h3 m (by omega)
set_option maxHeartbeats 400000 in
set_option maxRecDepth 10000 in
theorem list_Put.idxS.calls (A0 : Option Addr) (c0 : Nat) (l0 : List ByteArray) (hl : ∀ x ∈ l0, x.size < 9223372036854775808) (w : World) (hr0 : Kd.C Kd.string w A0 l0.length l0) :
    Calls Try.prog 138 #[.slice A0 l0.length c0, .func (.func 107) #[] #[]] w fun e w' => (∃ i : Int, e = .returned (.int .i64 i) ∧ decide (0 ≤ i) = l0.any (fun x => !rightB x)) ∧ Below w.heap.size w w' := by
  have eg := enters_of Try.func107 (by kernel_rfl) rfl
  have HR0 := Aside0.mk hr0
  have HL := Aside0.mk hl
  have hlen : l0.length ≤ 9223372036854775807 := hr0.2.1
  have HB0 := Aside0.mk (Below.refl w.heap.size w)
  clear hr0 hl; go_enter Try.func138, Try.ntmps138
  go_wp2; go_loopw [8] (fun i wr => ∃ k : Nat, k ≤ l0.length ∧ i = .int .i64 k ∧ Aside0 (∀ m, m < k → (!rightB (l0.getD m ByteArray.empty)) = false) ∧ Aside0 (Below w.heap.size w wr)) (fun i _ => l0.length - (intOf i).toNat)
  case atStart => exact ⟨0, Nat.zero_le _, rfl, ⟨fun m hm => by omega⟩, HB0⟩
  case round =>
    clear HB0; obtain ⟨k, hk, rfl, hall, HB⟩ := hrel; by_cases hlt : k < l0.length
    · obtain ⟨ad, e, hx⟩ := Kd.at_string (Kd.C_below HR0.out HB.out) (k : Int) (by omega) (by omega)
      cases e
      have hrd : rdOf ByteArray.empty l0 (k : Int) = l0.getD k ByteArray.empty := by simp [rdOf]
      rw [hrd, Int.toNat_natCast] at hx
      obtain ⟨y, hy⟩ : ∃ y, y = l0.getD k ByteArray.empty := ⟨_, rfl⟩
      rw [← hy] at hx
      have hys : y.size < 9223372036854775808 := by
        rw [hy, List.getD_eq_getElem?_getD, List.getElem?_eq_getElem hlt]
        exact HL.out _ (List.getElem_mem _)
      have HW := Aside0.mk (list_Put.wrong.calls y hys)
      have HY := Aside0.mk hy
      clear hrd hy hys; by_cases hpx : rightB y = true
      · rw [hpx] at HW
        go_wp2_with (go_at_call 107; go_loud (refine (HW.out _).mono ?_; rintro e w' ⟨rfl, hb⟩; have HB2 := Aside0.mk (below_then HB.out HB.out.size hb); clear hb))
        go_roundw
        case rel => exact ⟨k + 1, by omega, by go_num, ⟨fun m hm => by
          rcases Nat.lt_or_ge m k with h | h
          · exact hall.out m h
          · obtain rfl : m = k := by omega
            rw [← HY.out, hpx]; rfl⟩, HB2⟩
        case measure => simp [intOf]; omega
      · have hpf : rightB y = false := by simpa using hpx
        clear hpx; rw [hpf] at HW
        go_wp2_with (go_at_call 107; go_loud (refine (HW.out _).mono ?_; rintro e w' ⟨rfl, hb⟩; have HB2 := Aside0.mk (below_then HB.out HB.out.size hb); clear hb))
        go_ret
        refine ⟨⟨(k : Int), rfl, ?_⟩, HB2.out⟩
        rw [decide_eq_true (by omega)]
        symm
        rw [List.any_eq_true]
        exact ⟨y, by rw [HY.out, List.getD_eq_getElem?_getD, List.getElem?_eq_getElem hlt]; exact List.getElem_mem _, by rw [hpf]; rfl⟩
    · obtain rfl : k = l0.length := by omega
      go_wp2; go_ret
      refine ⟨⟨-1, rfl, ?_⟩, HB.out⟩
      rcases list_Put.first_bad (fun x => !rightB x) l0 with h | ⟨j, h1, h2, _⟩
      · rw [h]; rfl
      · have := hall.out j h1
        rw [this] at h2
        exact absurd h2 (by simp)
set_option maxHeartbeats 400000 in
set_option maxRecDepth 10000 in
theorem list_Put.contS.calls (A0 : Option Addr) (c0 : Nat) (l0 : List ByteArray) (hl : ∀ x ∈ l0, x.size < 9223372036854775808) (w : World) (hr0 : Kd.C Kd.string w A0 l0.length l0) :
    Calls Try.prog 108 #[.slice A0 l0.length c0, .func (.func 107) #[] #[]] w fun e w' => e = .returned (.bool (l0.any (fun x => !rightB x))) ∧ Below w.heap.size w w' := by
  have HC := Aside0.mk (list_Put.idxS.calls A0 c0 l0 hl w hr0)
  go_enter Try.func108, Try.ntmps108
  go_wp2_with (go_at_call 138; go_loud (refine (HC.out).mono ?_; rintro e w' ⟨⟨i, rfl, hi⟩, hb⟩; have HI := Aside0.mk hi; clear hi))
  go_ret
  exact ⟨by rw [← HI.out]; rfl, hb⟩
def outOf (pre : List list_Put.Short) : ByteArray := pre.foldl (fun o x => (⟨#[112]⟩ : ByteArray) ++ x.1.2 ++ o) (numF 0)
theorem outOf_snoc (pre : List list_Put.Short) (x : list_Put.Short) : outOf (pre ++ [x]) = (⟨#[112]⟩ : ByteArray) ++ x.1.2 ++ outOf pre := by simp [outOf]
theorem outOf_size (pre : List list_Put.Short) : (outOf pre).size ≤ 9 + pre.length * 20001 := by
  have h : ∀ (l : List list_Put.Short) (o : ByteArray), (l.foldl (fun o x => (⟨#[112]⟩ : ByteArray) ++ x.1.2 ++ o) o).size ≤ o.size + l.length * 20001 := by
    intro l; induction l with
    | nil => intro o; simp
    | cons x l ih =>
      intro o; have h1 := ih ((⟨#[112]⟩ : ByteArray) ++ x.1.2 ++ o)
      have h2 := x.2; rw [List.foldl_cons, List.length_cons]
      have h3 : ((⟨#[112]⟩ : ByteArray) ++ x.1.2 ++ o).size = 1 + x.1.2.size + o.size := by rw [ByteArray.size_append, ByteArray.size_append]; rfl
      omega
  have := h pre (numF 0)
  rw [numF_size] at this
  exact this
def putOut (l : List ByteArray) : ByteArray := l.foldr (fun t o => (⟨#[112]⟩ : ByteArray) ++ t ++ o) (numF 0)
def putF (l : List ByteArray) : ByteArray × Int :=
  if 150 < l.length ∨ l.any (fun x => !rightB x) = true then (⟨#[]⟩, 1) else if 20000 < (putOut l).size then (⟨#[]⟩, 3) else if rightB (putOut l) = true then (putOut l, 0) else (⟨#[]⟩, 4)
theorem outOf_back (l : List ByteArray) (hl : ∀ z ∈ l, z.size ≤ 20000) : outOf (list_Put.back l hl l.length) = putOut l := by
  have h : ∀ k, k ≤ l.length → outOf (list_Put.back l hl k) = (l.drop (l.length - k)).foldr (fun t o => (⟨#[112]⟩ : ByteArray) ++ t ++ o) (numF 0) := by
    intro k; induction k with
    | zero => intro _; simp [list_Put.back, outOf]
    | succ k ih =>
      intro hk; rw [list_Put.back_succ, outOf_snoc, ih (by omega)]
      have h1 : l.length - (k + 1) < l.length := by omega
      have h2 : l.drop (l.length - (k + 1)) = l[l.length - (k + 1)] :: l.drop (l.length - k) := by
        rw [List.drop_eq_getElem_cons h1]
        congr 2
        omega
      rw [h2, List.foldr_cons]
      have h3 : (list_Put.shortAt l hl ((l.length : Int) - 1 - (k : Int)) (l.length - 1 - k)).1.2 = l[l.length - (k + 1)] := by
        show l.getD (l.length - 1 - k) ⟨#[]⟩ = _
        have h4 : l.length - 1 - k = l.length - (k + 1) := by omega
        rw [h4]
        simp [List.getD_eq_getElem?_getD, h1]
      rw [h3]
  have := h l.length (Nat.le_refl _)
  rw [Nat.sub_self] at this
  exact this
set_option maxHeartbeats 1000000 in
set_option maxRecDepth 100000 in
theorem list_Put.put.good (A0 : Option Addr) (c0 : Nat) (l0 : List ByteArray) (w : World) (hr0 : Kd.C Kd.string w A0 l0.length l0) (hc0 : l0.length ≤ c0) (hs : l0.length ≤ 150) (hg : l0.any (fun x => !rightB x) = false) (hz : ∀ z ∈ l0, z.size ≤ 20000) :
    Calls Try.prog 75 #[.slice A0 l0.length c0] w fun e w' => e = .returned (.tuple #[.string (putF l0).1, .int .i64 (putF l0).2]) ∧ Below w.heap.size w w' := by
  have HR0 := Aside0.mk hr0
  have HZ := Aside0.mk hz
  have hn150 : decide ((150 : Int) < l0.length) = false := decide_eq_false (by omega)
  have hn150b : decide (150 < l0.length) = false := decide_eq_false (by omega)
  have HCS := Aside0.mk (list_Put.contS.calls A0 c0 l0 (fun x hx => by have := hz x hx; omega) w hr0)
  rw [hg] at HCS
  have HG := Aside0.mk hg
  have HN := Aside0.mk (fun W => term_Number.calls 0 (numF 0) W rfl)
  have HBW := Aside0.mk (list_Put.bw.calls A0 c0 l0.length)
  have HS := Aside0.mk hs
  clear hr0 hz hg hs; refine (callsIn_wide (n := 5)).1 ?_
  refine callsIn_of_wp_marks Try.func75 rfl trivial ?_ rfl
  simp only [Try.ntmps75, List.size_toArray, List.length_cons, List.length_nil, Nat.reduceAdd, Nat.reduceSub, Array.replicate_succ, Array.replicate_zero, List.push_toArray, List.append_toArray, List.nil_append, List.cons_append]; gi_wp2_with (first | (refine ⟨trivial, ?_⟩; gi_at_call 108; go_loud (refine (callsIn_wide.2 HCS.out).mono ?_; rintro e w1 ⟨rfl, hb1⟩; have HB1 := Aside0.mk hb1; clear hb1)) | (refine ⟨trivial, ?_⟩; gi_at_call 26; go_loud (refine (callsIn_wide.2 (HN.out _)).mono ?_; rintro e w2 ⟨rfl, hb2⟩; have HB2 := Aside0.mk hb2; clear hb2)) | (refine ⟨trivial, ?_⟩; gi_at_call 109; go_loud (refine (callsIn_wide.2 (HBW.out _)).mono ?_; rintro e w3 ⟨rfl, hw3⟩)))
  obtain ⟨W0, hW0⟩ : ∃ W0, ((w2.alloc (.cells #[.string (numF 0)] 45)).alloc (.cells #[.slice A0 l0.length c0] 58)) = W0 := ⟨_, rfl⟩
  have hb12 : Below w.heap.size w w2 := below_then HB1.out HB1.out.size HB2.out
  have hsz : W0.heap.size = w2.heap.size + 2 := by rw [← hW0]; simp
  have hB0 : Below w.heap.size w W0 := by rw [← hW0]; exact below_alloc (below_alloc hb12 _) _
  have hbo : Boxed W0 w2.heap.size 45 (.string (numF 0)) := by rw [← hW0]; exact (Boxed.new w2 45 _).alloc _
  have hbs : W0.cell? ⟨w2.heap.size + 1, 0, none⟩ = some (.slice A0 l0.length c0) := by
    rw [← hW0]
    have := (Boxed.new (w2.alloc (.cells #[.string (numF 0)] 45)) 58 (.slice A0 l0.length c0)).cell
    rwa [World.size_alloc] at this
  have hw2 : w.heap.size ≤ w2.heap.size := hb12.size
  have HW0 := Aside0.mk hW0
  have HCR := Aside0.mk (Kd.C_below HR0.out hB0)
  rw [hW0]
  clear hW0 HB1 HB2 HBW HN HCS
  refine wpIn_rangeFunc_ownG rfl (by omega) (gf := 139) (lb := #[.pointer (some ⟨w2.heap.size + 1, 0, none⟩)]) rfl trivial (enters_of Try.func139 (by kernel_rfl) rfl)
    (list_Put.bw_stops Fence.wide 4 trivial rfl (by omega) (w2.heap.size + 1) w.heap.size A0 c0 l0 HZ.out W0 (by omega) (by omega) hbs HCR.out.2.1 ?hcells) list_Put.KeepB.trans (list_Put.KeepB.put (by omega) (by omega)) (Below.refl _ _) (fun _ => rfl)
    (fun pre W => Boxed W w2.heap.size 45 (.string (outOf pre)) ∧ Below w.heap.size w W) (fun _ _ _ => False)
    (OwnFrom.and (Own.from ?hown _) (ownFrom_below (Nat.le_refl _) (by omega))) (fun _ _ _ _ _ hs _ _ => hs)
    ⟨hbo, hB0⟩
    (fun x => { tmps := #[.slice A0 l0.length c0, undef, .string ⟨#[]⟩, .int .i64 0, .func (.func 107) #[] #[], .pointer (some ⟨w2.heap.size, 0, none⟩), undef, .string x.1.2, .slice A0 l0.length c0, .int .i64 l0.length, .bool false, .bool false, .slice A0 l0.length c0, .func (.func 107) #[] #[], .bool false, .bool false, .string (numF 0), .slice A0 l0.length c0, .func (.func 139) #[] #[.pointer (some ⟨w2.heap.size + 1, 0, none⟩)], .int .i64 x.1.1, .string x.1.2, undef, undef, undef, undef, undef, undef, undef, undef, undef, undef, undef, undef, undef], defers := [] }) ?assign ?body ?done ?stop
  case hcells =>
    intro j hj; obtain ⟨ad, e, hx⟩ := Kd.at_string HR0.out (j : Int) (by omega) (by omega)
    have hlt := World.block_lt_of_cell? w _ hx
    rw [Int.toNat_natCast] at hx hlt
    refine ⟨ad, e, by rw [← list_Put.add_block ad j]; exact hlt, ?_⟩
    have hx2 := pw_cell_below hB0 hx
    rw [hx2]
    rfl
  case hown =>
    intro s A B row hs hg hr
    exact (hg.block _ hs.lt (by
      intro e; obtain ⟨o, h1, h2⟩ := hr _ e.symm
      rw [show A.heap[w2.heap.size]? = _ from hs] at h1
      cases h1
      cases h2)).trans hs
  case assign =>
    intro l x W K hK; gi_wp2
    exact hK
  case body =>
    rintro l pre x W ⟨hbx, hB⟩ hlt; have hc := hbx.cell; have hf := hbx.frozen; have hos : (outOf pre).size ≤ 4000000 := by have := outOf_size pre; have := HS.out; omega
    have hx := x.2; have hcc : ((⟨#[112]⟩ : ByteArray) ++ x.1.2).size ≤ 20001 := by rw [ByteArray.size_append]; show 1 + _ ≤ _; omega
    clear hlt; gi_wp2
    refine ⟨(KeepsOthers.setCell _ _ _).from _, ⟨(Below.refl w.heap.size W).setCell (p := ⟨w2.heap.size, 0, none⟩) hw2 _, fun _ => Below.heap_setCell W ⟨w2.heap.size, 0, none⟩ _ (w2.heap.size + 1) (by simp)⟩, ?_, hB.setCell (p := ⟨w2.heap.size, 0, none⟩) hw2 _⟩
    rw [outOf_snoc]
    exact Boxed.set _ hbx
  case done =>
    rintro D ys W hD rfl ⟨hbx, hB⟩ hK; have hc := hbx.cell; rw [outOf_back l0 HZ.out] at hc
    have hDB : W.heap.size > D := (Array.getElem?_eq_some_iff.1 hK).1
    obtain ⟨o, ho⟩ : ∃ o, o = putOut l0 := ⟨_, rfl⟩
    rw [← ho] at hc
    have hp : putF l0 = if 20000 < o.size then (⟨#[]⟩, 3) else if rightB o = true then (o, 0) else (⟨#[]⟩, 4) := by
      unfold putF
      rw [if_neg (by rw [HG.out]; have := HS.out; simp; omega), ← ho]
    have HP := Aside0.mk hp
    clear hp ho hbx; by_cases h2 : 20000 < o.size
    · have h2a : decide ((20000 : Int) < o.size) = true := decide_eq_true (by omega)
      have h2b : decide (20000 < o.size) = true := decide_eq_true h2
      rw [if_pos h2] at HP
      gi_wp2
      refine ⟨by simp, .inl ⟨_, _, rfl, run_takeDeferred hK, ?_⟩⟩
      exact ⟨_, by simp [results, Try.f75, go_sem]; rfl, by rw [HP.out], hB.trans (belowK_b (w := w) (Nat.le_refl _) W D _ _ (by omega) hK rfl rfl)⟩
    · have h2a : decide ((20000 : Int) < o.size) = false := decide_eq_false (by omega)
      have h2b : decide (20000 < o.size) = false := decide_eq_false h2
      rw [if_neg h2] at HP
      have HRT := Aside0.mk (fun W => term_Right.calls o (rightB o) W (by rw [term_Right.f, if_pos (by omega)]))
      obtain ⟨q, hq⟩ : ∃ q, q = rightB o := ⟨_, rfl⟩
      rw [← hq] at HRT HP
      clear hq; cases q
      · gi_wp2_with (refine ⟨trivial, ?_⟩; gi_at_call 59; go_loud (refine (callsIn_wide.2 (HRT.out _)).mono ?_; rintro e w5 ⟨rfl, hb5⟩))
        have hK5 := (hb5.block D hDB).trans hK
        refine ⟨by simp, .inl ⟨_, _, rfl, run_takeDeferred hK5, ?_⟩⟩
        exact ⟨_, by simp [results, Try.f75, go_sem]; rfl, by rw [HP.out]; rfl, (below_then hB hB.size hb5).trans (belowK_b (w := w) (Nat.le_refl _) w5 D _ _ (by omega) hK5 rfl rfl)⟩
      · gi_wp2_with (refine ⟨trivial, ?_⟩; gi_at_call 59; go_loud (refine (callsIn_wide.2 (HRT.out _)).mono ?_; rintro e w5 ⟨rfl, hb5⟩; have hc5 := pw_cell_below hb5 hc))
        have hK5 := (hb5.block D hDB).trans hK
        refine ⟨by simp, .inl ⟨_, _, rfl, run_takeDeferred hK5, ?_⟩⟩
        exact ⟨_, by simp [results, Try.f75, go_sem]; rfl, by rw [HP.out]; rfl, (below_then hB hB.size hb5).trans (belowK_b (w := w) (Nat.le_refl _) w5 D _ _ (by omega) hK5 rfl rfl)⟩
  case stop =>
    rintro D c pre W hD _ h _; exact h.elim
set_option maxHeartbeats 400000 in
set_option maxRecDepth 10000 in
theorem list_Put.long (A0 : Option Addr) (c0 n : Nat) (w : World) (h : 150 < n) :
    Calls Try.prog 75 #[.slice A0 n c0] w fun e w' => e = .returned (.tuple #[.string ⟨#[]⟩, .int .i64 1]) ∧ Below w.heap.size w w' := by
  have h1 : decide ((150 : Int) < n) = true := decide_eq_true (by omega)
  have h2 : decide (150 < n) = true := decide_eq_true h
  have HB := Aside0.mk (Below.refl w.heap.size w)
  clear h; go_enter Try.func75, Try.ntmps75
  go_wp2; go_ret2
  exact ⟨rfl, HB.out⟩
set_option maxHeartbeats 400000 in
set_option maxRecDepth 10000 in
theorem list_Put.bad (A0 : Option Addr) (c0 : Nat) (l0 : List ByteArray) (w : World) (hr0 : Kd.C Kd.string w A0 l0.length l0) (h : ¬ 150 < l0.length) (hl : ∀ x ∈ l0, x.size < 9223372036854775808) (hg : l0.any (fun x => !rightB x) = true) :
    Calls Try.prog 75 #[.slice A0 l0.length c0] w fun e w' => e = .returned (.tuple #[.string ⟨#[]⟩, .int .i64 1]) ∧ Below w.heap.size w w' := by
  have h1 : decide ((150 : Int) < l0.length) = false := decide_eq_false (by omega)
  have h2 : decide (150 < l0.length) = false := decide_eq_false h
  have HCS := Aside0.mk (list_Put.contS.calls A0 c0 l0 hl w hr0)
  rw [hg] at HCS
  clear h hl hg hr0; go_enter Try.func75, Try.ntmps75
  go_wp2_with (go_at_call 108; refine (HCS.out).mono ?_; rintro e w1 ⟨rfl, hb1⟩)
  go_ret2
  exact ⟨rfl, hb1⟩
def list_Put.f (l : List ByteArray) : Option (ByteArray × Int) := if ∀ x ∈ l, x.size < 9223372036854775808 then some (putF l) else none
theorem list_Put.calls (A0 : Option Addr) (c0 : Nat) (l0 : List ByteArray) (r1 : ByteArray) (r2 : Int) (w : World) (hr0 : Kd.C Kd.string w A0 l0.length l0) (hc0 : l0.length ≤ c0) (h : list_Put.f l0 = some (r1, r2)) :
    Calls Try.prog 75 #[.slice A0 l0.length c0] w fun e w' => e = .returned (.tuple #[.string r1, .int .i64 r2]) ∧ Below w.heap.size w w' := by
  unfold list_Put.f at h
  split at h
  case isFalse => cases h
  rename_i hl
  replace h := Option.some.inj h
  by_cases h1 : 150 < l0.length
  · unfold putF at h
    rw [if_pos (.inl h1)] at h
    obtain ⟨rfl, rfl⟩ := Prod.mk.inj h; exact list_Put.long A0 c0 l0.length w h1
  · by_cases h2 : l0.any (fun x => !rightB x) = true
    · unfold putF at h
      rw [if_pos (.inr h2)] at h
      obtain ⟨rfl, rfl⟩ := Prod.mk.inj h; exact list_Put.bad A0 c0 l0 w hr0 h1 hl h2
    · have h3 : l0.any (fun x => !rightB x) = false := by simpa using h2
      have hz : ∀ z ∈ l0, z.size ≤ 20000 := by
        intro z hz; have h4 := List.any_eq_false.mp h3 z hz
        have h5 : rightB z = true := by simpa using h4
        unfold rightB at h5
        rw [decide_eq_true_eq] at h5
        exact h5.2.2
      have := list_Put.put.good A0 c0 l0 w hr0 hc0 (by omega) h3 hz
      rw [h] at this
      exact this
end Go.Proofs.Ytagceackfnkifaa.F
