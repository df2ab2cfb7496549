-- Laid by mk.py (a program of this session) over the seat's translation.
import Derived.Test.YtiofobdmkkbmlaaDoorF0
import Derived.Test.YtiofobdmkkbmlaaDoorF64
import Derived.Test.YtiofobdmkkbmlaaDoorF70
import Derived.RegionTactic
import Derived.BigRegion
import Derived.Deep.QuietTactic
import Derived.BigQuiet
import Derived.Test.YtiofobdmkkbmlaaDoorLTree
import Derived.Test.YtiofobdmkkbmlaaDoorF51
namespace Go.Proofs.YtiofobdmkkbmlaaDoor.F
open Go.RowKit Go.Proofs.YtiofobdmkkbmlaaDoorW.PrintWords Go.Proofs.YtiofobdmkkbmlaaDoorW.PrintLast Go.Proofs.YtiofobdmkkbmlaaDoorW.PrintMore
attribute [local go_sem] max2_int min2_int max_two min_two max_three min_three max_four min_four
set_option linter.unusedVariables false
set_option linter.unusedSimpArgs false

/-! ### tree_read: function 53 -/
open Go.Proofs.YtiofobdmkkbmlaaDoor.Pure
/-! trees in memory -/
abbrev nodeO (q : Int) (l r : Value) : Obj := .cells #[.int .i64 q, l, r] 57 (0, 0)
/-- A tree lies in the blocks from one on and below another one, its head at the first. -/
def TreeIn (w : World) : Tr → Nat → Nat → Nat → Prop
  | .leaf p, lo, hi, b => lo ≤ b ∧ b < hi ∧ w.heap[b]? = some (nodeO p (.pointer none) (.pointer none))
  | .node l r, lo, hi, b => ∃ m bl br, lo ≤ b ∧ b < m ∧ m ≤ hi ∧ w.heap[b]? = some (nodeO 0 (.pointer (some ⟨bl, 0, none⟩)) (.pointer (some ⟨br, 0, none⟩))) ∧ TreeIn w l (b + 1) m bl ∧ TreeIn w r m hi br
theorem TreeIn.lt {w : World} {t : Tr} {lo hi b : Nat} (h : TreeIn w t lo hi b) : lo ≤ b ∧ b < hi := by
  cases t with
  | leaf p => exact ⟨h.1, h.2.1⟩
  | node l r => obtain ⟨m, bl, br, h1, h2, h3, _⟩ := h; exact ⟨h1, by omega⟩
theorem TreeIn.kept {w w' : World} : ∀ {t : Tr} {lo hi b : Nat}, TreeIn w t lo hi b → (∀ k, lo ≤ k → k < hi → w'.heap[k]? = w.heap[k]?) → TreeIn w' t lo hi b
  | .leaf p, lo, hi, b, h, hk => ⟨h.1, h.2.1, (hk b h.1 h.2.1).trans h.2.2⟩
  | .node l r, lo, hi, b, ⟨m, bl, br, h1, h2, h3, h4, h5, h6⟩, hk => by
    refine ⟨m, bl, br, h1, h2, h3, (hk b h1 (by omega)).trans h4, h5.kept fun k k1 k2 => hk k (by omega) (by omega), h6.kept fun k k1 k2 => hk k (by omega) (by omega)⟩
theorem TreeIn.wide {w : World} {t : Tr} {lo hi lo' hi' b : Nat} (h : TreeIn w t lo hi b) (h1 : lo' ≤ lo) (h2 : hi ≤ hi') : TreeIn w t lo' hi' b := by
  induction t generalizing lo hi lo' hi' b with
  | leaf p => exact ⟨by have := h.1; omega, by have := h.2.1; omega, h.2.2⟩
  | node l r ihl ihr =>
    obtain ⟨m, bl, br, g1, g2, g3, g4, g5, g6⟩ := h; exact ⟨m, bl, br, by omega, g2, by omega, g4, g5, ihr g6 (Nat.le_refl _) h2⟩
theorem TreeIn.below {w w' : World} {t : Tr} {lo hi b B : Nat} (h : TreeIn w t lo hi b) (hb : Below B w w') (hB : hi ≤ B) : TreeIn w' t lo hi b :=
  h.kept fun k _ h2 => hb.block k (by omega)
theorem TreeIn.set {w : World} {t : Tr} {lo hi b : Nat} (h : TreeIn w t lo hi b) {p : Addr} (hp : p.block < lo ∨ hi ≤ p.block) (u : Value) : TreeIn (w.setCell p u) t lo hi b :=
  h.kept fun k h1 h2 => Below.heap_setCell w p u k (by omega)
/-- What a text begins with, as 'read' gives it. -/
def ReadOut (w : World) (s : ByteArray) (e : Ending) (w' : World) : Prop :=
  (match prs s.data.toList with
  | none => e = .returned (.tuple #[.pointer none, .string ⟨#[]⟩])
  | some (t, r) => ∃ b, e = .returned (.tuple #[(.pointer (some ⟨b, 0, none⟩)), .string ⟨r.toArray⟩]) ∧ TreeIn w' t w.heap.size w'.heap.size b) ∧ Below w.heap.size w w'
theorem bt0 {s : ByteArray} {c : UInt8} {l : List UInt8} (h : s.data.toList = c :: l) : bt s 0 = (c.toNat : Int) := by
  obtain ⟨⟨s⟩⟩ := s
  simp only at h
  subst h; rfl
theorem readCut {s : ByteArray} {c : UInt8} {l : List UInt8} (h : s.data.toList = c :: l) : s.extract 1 s.size = ⟨l.toArray⟩ := by
  apply ByteArray.ext
  apply Array.ext'
  rw [ByteArray.data_extract, Array.toList_extract, h]
  have hz : s.size = (c :: l).length := by rw [← h]; rfl
  rw [hz]
  simp
theorem nil_text {s : ByteArray} (h : s.data.toList = []) : s = ⟨#[]⟩ := ByteArray.ext (Array.ext' h)
set_option maxHeartbeats 1000000 in
set_option maxRecDepth 100000 in
theorem read.none0 (w : World) : Calls Tryd.prog 53 #[.string ⟨#[]⟩] w fun e w' => e = .returned (.tuple #[.pointer none, .string ⟨#[]⟩]) ∧ Below w.heap.size w w' := by
  go_enter Tryd.func53, Tryd.ntmps53
  go_wp2; go_ret2
  exact ⟨rfl, Below.refl _ _⟩
set_option maxHeartbeats 1000000 in
set_option maxRecDepth 100000 in
theorem read.leaf (s : ByteArray) (c : UInt8) (l : List UInt8) (h : s.data.toList = c :: l) (h1 : 49 ≤ c.toNat ∧ c.toNat ≤ 56) (hs : s.size < 9223372036854775808) (w : World) : Calls Tryd.prog 53 #[.string s] w (ReadOut w s) := by
  have hz : 0 < s.size := by have : s.size = (c :: l).length := by rw [← h]; rfl
                             rw [this, List.length_cons]; omega
  have hx : s[0] = c := by
    have : s.data.toList[0]'(by rw [h]; exact Nat.zero_lt_succ _) = c := by simp only [h]; rfl
    exact this
  have hne : (s.toList == ([] : List UInt8)) = false := by
    rw [beq_eq_false_iff_ne, ByteArray.toList_eq, h]; exact List.cons_ne_nil _ _
  have hne2 : s.toList.isEmpty = false := by rw [ByteArray.toList_eq, h]; rfl
  have c1 : decide (49 ≤ (c.toNat : Int)) = true := decide_eq_true (by omega)
  have c2 : decide ((c.toNat : Int) ≤ 56) = true := decide_eq_true (by omega)
  have c3 : IntKind.u8.wrap ((c.toNat : Int) - 48) = (c.toNat : Int) - 48 := by show ((c.toNat : Int) - 48) % 256 = _; omega
  have c4 : wrap64 ((c.toNat : Int) - 48) = (c.toNat : Int) - 48 := by unfold wrap64; omega
  have HCUT := Aside0.mk (readCut h)
  have HP := Aside0.mk (show prs s.data.toList = some (.leaf ((c.toNat : Int) - 48), l) by rw [h, prs_cons, if_pos h1])
  clear h h1; go_enter Tryd.func53, Tryd.ntmps53
  go_wp2_with fail
  go_region
  go_wp2; go_ret2
  unfold ReadOut
  rw [HP.out]
  refine ⟨⟨w.heap.size, ?_, ?_⟩, ?_⟩
  · simp only [Array.getD_eq_getD_getElem?, List.getElem?_toArray, List.getElem?_cons_succ, List.getElem?_cons_zero, Option.getD_some, HCUT.out]
  · refine ⟨Nat.le_refl _, ?_, ?_⟩
    · simp
    · first | exact blk_new w _ | exact blk_drew (blk_new w _)
  · repeat (first | with_reducible exact Below.refl _ _ | apply below_alloc | apply below_drew1)
def closeB : List UInt8 → Bool
  | [] => false
  | d :: _ => decide (d.toNat = 41)
theorem hasp {r : List UInt8} : strings_HasPrefix.f ⟨r.toArray⟩ ⟨#[41]⟩ = some (closeB r) := by
  unfold strings_HasPrefix.f stringslite_HasPrefix.f
  have h1 : (⟨#[41]⟩ : ByteArray).size = 1 := rfl
  have h2 : (⟨r.toArray⟩ : ByteArray).size = r.length := rfl
  rw [h1, h2]
  cases r with
  | nil => rfl
  | cons d r =>
    rw [List.length_cons, if_pos (by omega), if_pos (by omega), if_pos (by omega)]
    simp only [Option.bind_some]; congr 1
    have h3 : (((⟨(d :: r).toArray⟩ : ByteArray).extract 0 (((1 : Nat) : Int)).toNat).toList) = [d] := by
      rw [ByteArray.toList_eq, ByteArray.data_extract, Array.toList_extract]
      rfl
    have h4 : (⟨#[41]⟩ : ByteArray).toList = [41] := by rw [ByteArray.toList_eq]
    rw [h3, h4]
    unfold closeB
    by_cases c : d = 41
    · subst c; rfl
    · have : d.toNat ≠ 41 := fun e => c (UInt8.toNat_inj.mp e)
      show ([d] == [41]) = decide (d.toNat = 41)
      rw [decide_eq_false this, beq_eq_false_iff_ne]
      simpa using c
set_option maxHeartbeats 2000000 in
set_option maxRecDepth 100000 in
theorem read.node (s : ByteArray) (l : List UInt8) (h : s.data.toList = 40 :: l) (hs : s.size < 9223372036854775808) (w : World) (tl tr : Tr) (r1 r3 : List UInt8) (e1 : prs l = some (tl, r1)) (e2 : prs r1 = some (tr, 41 :: r3))
    (IH1 : ∀ W, Calls Tryd.prog 53 #[.string ⟨l.toArray⟩] W (ReadOut W ⟨l.toArray⟩)) (IH2 : ∀ W, Calls Tryd.prog 53 #[.string ⟨r1.toArray⟩] W (ReadOut W ⟨r1.toArray⟩)) : Calls Tryd.prog 53 #[.string s] w (ReadOut w s) := by
  have hz : 0 < s.size := by have : s.size = (40 :: l).length := by rw [← h]; rfl
                             rw [this, List.length_cons]; omega
  have hx : s[0] = 40 := by
    have : s.data.toList[0]'(by rw [h]; exact Nat.zero_lt_succ _) = 40 := by simp only [h]; rfl
    exact this
  have hne : (s.toList == ([] : List UInt8)) = false := by
    rw [beq_eq_false_iff_ne, ByteArray.toList_eq, h]; exact List.cons_ne_nil _ _
  have hne2 : s.toList.isEmpty = false := by rw [ByteArray.toList_eq, h]; rfl
  have H1 := Aside0.mk (fun W => show Calls Tryd.prog 53 #[.string (s.extract 1 s.size)] W fun e w' => ∃ b, e = .returned (.tuple #[(.pointer (some ⟨b, 0, none⟩)), .string ⟨r1.toArray⟩]) ∧ TreeIn w' tl W.heap.size w'.heap.size b ∧ Below W.heap.size W w' from by
    rw [readCut h]
    refine (IH1 W).mono fun e w' hq => ?_
    unfold ReadOut at hq
    rw [show (⟨l.toArray⟩ : ByteArray).data.toList = l from rfl, e1] at hq
    obtain ⟨⟨b, q1, q2⟩, q3⟩ := hq
    exact ⟨b, q1, q2, q3⟩)
  have H2 := Aside0.mk (fun W => show Calls Tryd.prog 53 #[.string ⟨r1.toArray⟩] W fun e w' => ∃ b, e = .returned (.tuple #[(.pointer (some ⟨b, 0, none⟩)), .string ⟨(41 :: r3).toArray⟩]) ∧ TreeIn w' tr W.heap.size w'.heap.size b ∧ Below W.heap.size W w' from by
    refine (IH2 W).mono fun e w' hq => ?_
    unfold ReadOut at hq
    rw [show (⟨r1.toArray⟩ : ByteArray).data.toList = r1 from rfl, e2] at hq
    obtain ⟨⟨b, q1, q2⟩, q3⟩ := hq
    exact ⟨b, q1, q2, q3⟩)
  have H3 := Aside0.mk (fun W => strings_HasPrefix.calls ⟨(41 :: r3).toArray⟩ ⟨#[41]⟩ true W (hasp (r := 41 :: r3)))
  have HP := Aside0.mk (show prs s.data.toList = some (.node tl tr, r3) by rw [h, prs_cons, if_neg (by decide), if_pos (by decide), e1]; simp only; rw [e2]; rfl)
  have HC3 := Aside0.mk (readCut (s := ⟨(41 :: r3).toArray⟩) (c := 41) (l := r3) rfl)
  have hz3 : 0 < (⟨(41 :: r3).toArray⟩ : ByteArray).size := Nat.zero_lt_succ _
  obtain ⟨S3, hS3⟩ : ∃ S3 : ByteArray, S3 = ⟨(41 :: r3).toArray⟩ := ⟨_, rfl⟩
  rw [← hS3] at H2 H3 HC3 hz3
  clear h e1 e2 IH1 IH2 hS3; go_enter Tryd.func53, Tryd.ntmps53
  go_upto_region 8 with (fail)
  have BK0 := Aside0.mk (blk_new w (nodeO 0 (.pointer none) (.pointer none)))
  have HB0 := Aside0.mk (below_alloc (Below.refl w.heap.size w) (nodeO 0 (.pointer none) (.pointer none)))
  have hz0 : (w.alloc (nodeO 0 (.pointer none) (.pointer none))).heap.size = w.heap.size + 1 := by simp
  have HZ0 := Aside0.mk hz0
  clear hz0; generalize w.alloc (nodeO 0 (.pointer none) (.pointer none)) = W0 at BK0 HB0 HZ0 ⊢
  go_upto_region 9 with (go_at_call 53; go_loud (refine (H1.out _).mono ?_; rintro e w1 ⟨b1, rfl, ht1, hb1⟩; have BK1 := Aside0.mk (blk_below BK0.out hb1); have HT1 := Aside0.mk ht1; have HB1 := Aside0.mk (below_step HB0.out hb1); have hc1 : w1.cell? ⟨w.heap.size, 1, none⟩ = some (.pointer none) := (blk_cell BK1.out 1).trans rfl; have hf1 := blk_frozen BK1.out 1; have HZ1 := Aside0.mk hb1.size; clear ht1 hb1))
  have BK2 := Aside0.mk (blk_put BK1.out 1 (.pointer (some ⟨b1, 0, none⟩)) (cs' := #[.int .i64 0, (.pointer (some ⟨b1, 0, none⟩)), .pointer none]) rfl)
  have HT2 := Aside0.mk (HT1.out.set (p := ⟨w.heap.size, 1, none⟩) (.inl (by have := HZ0.out; show w.heap.size < _; omega)) (.pointer (some ⟨b1, 0, none⟩)))
  have HB2 := Aside0.mk (below_set HB1.out (g := w.heap.size) (j := 1) (v := (.pointer (some ⟨b1, 0, none⟩))) (Nat.le_refl _))
  have HZ2 := Aside0.mk (show (w1.setCell ⟨w.heap.size, 1, none⟩ (.pointer (some ⟨b1, 0, none⟩))).heap.size = w1.heap.size by simp)
  clear hc1 hf1; generalize w1.setCell ⟨w.heap.size, 1, none⟩ (.pointer (some ⟨b1, 0, none⟩)) = W2 at BK2 HT2 HB2 HZ2 ⊢
  have hc2 : W2.cell? ⟨w.heap.size, 1, none⟩ = some (.pointer (some ⟨b1, 0, none⟩)) := (blk_cell BK2.out 1).trans rfl
  go_upto_region 12 with (go_at_call 53; go_loud (refine (H2.out _).mono ?_; rintro e w3 ⟨b2, rfl, ht3, hb3⟩; have BK3 := Aside0.mk (blk_below BK2.out hb3); have HT3 := Aside0.mk ht3; have HB3 := Aside0.mk (below_step HB2.out hb3); have hc3 : w3.cell? ⟨w.heap.size, 2, none⟩ = some (.pointer none) := (blk_cell BK3.out 2).trans rfl; have hf3 := blk_frozen BK3.out 2; have HL3 := Aside0.mk (HT2.out.below hb3 (by rw [HZ2.out]; exact Nat.le_refl _)); have HZ3 := Aside0.mk hb3.size; clear ht3 hb3 hc2))
  have BK4 := Aside0.mk (blk_put BK3.out 2 (.pointer (some ⟨b2, 0, none⟩)) (cs' := #[.int .i64 0, (.pointer (some ⟨b1, 0, none⟩)), (.pointer (some ⟨b2, 0, none⟩))]) rfl)
  have HL4 := Aside0.mk (HL3.out.set (p := ⟨w.heap.size, 2, none⟩) (.inl (by have := HZ0.out; show w.heap.size < _; omega)) (.pointer (some ⟨b2, 0, none⟩)))
  have HT4 := Aside0.mk (HT3.out.set (p := ⟨w.heap.size, 2, none⟩) (.inl (by have := HZ0.out; have := HZ1.out; have := HZ2.out; show w.heap.size < _; omega)) (.pointer (some ⟨b2, 0, none⟩)))
  have HB4 := Aside0.mk (below_set HB3.out (g := w.heap.size) (j := 2) (v := (.pointer (some ⟨b2, 0, none⟩))) (Nat.le_refl _))
  have HZ4 := Aside0.mk (show (w3.setCell ⟨w.heap.size, 2, none⟩ (.pointer (some ⟨b2, 0, none⟩))).heap.size = w3.heap.size by simp)
  clear hc3 hf3; generalize w3.setCell ⟨w.heap.size, 2, none⟩ (.pointer (some ⟨b2, 0, none⟩)) = W4 at BK4 HL4 HT4 HB4 HZ4 ⊢
  have hc4 : W4.cell? ⟨w.heap.size, 2, none⟩ = some (.pointer (some ⟨b2, 0, none⟩)) := (blk_cell BK4.out 2).trans rfl
  go_wp2_with (go_at_call 64; go_loud (refine (H3.out _).mono ?_; rintro e w5 ⟨rfl, hd⟩))
  have p0 : (0 < (S3.size : Int)) = True := eq_true (by omega)
  go_region
  go_wp2; go_ret2
  unfold ReadOut
  rw [HP.out]
  have HB5 := below_step HB4.out hd.below
  have hs5 : w5.heap.size = W4.heap.size := by obtain ⟨n, rfl⟩ := hd.out; rfl
  have h0 := HZ0.out; have h1 := HZ1.out; have h2 := HZ2.out; have h3 := HZ3.out; have h4 := HZ4.out
  have ht : TreeIn w5 (.node tl tr) w.heap.size w5.heap.size w.heap.size := by
    refine ⟨w1.heap.size, b1, b2, Nat.le_refl _, by omega, by omega, ?_, ?_, ?_⟩
    · obtain ⟨n, rfl⟩ := hd.out; exact BK4.out
    · rw [← h0]
      exact HL4.out.below hd.below (by omega)
    · have := HT4.out.below hd.below (by omega)
      rw [h2] at this
      exact this.wide (Nat.le_refl _) (by omega)
  refine ⟨⟨w.heap.size, ?_, ?_⟩, ?_⟩
  · simp only [Array.getD_eq_getD_getElem?, List.getElem?_toArray, List.getElem?_cons_succ, List.getElem?_cons_zero, Option.getD_some, HC3.out]
  · first | exact ht | exact ht.kept fun _ _ _ => rfl
  · first | exact HB5 | exact below_drew1 HB5
set_option maxHeartbeats 2000000 in
set_option maxRecDepth 100000 in
theorem read.no_left (s : ByteArray) (l : List UInt8) (h : s.data.toList = 40 :: l) (hs : s.size < 9223372036854775808) (w : World) (e1 : prs l = none) (IH1 : ∀ W, Calls Tryd.prog 53 #[.string ⟨l.toArray⟩] W (ReadOut W ⟨l.toArray⟩)) : Calls Tryd.prog 53 #[.string s] w (ReadOut w s) := by
  have hz : 0 < s.size := by have : s.size = (40 :: l).length := by rw [← h]; rfl
                             rw [this, List.length_cons]; omega
  have hx : s[0] = 40 := by
    have : s.data.toList[0]'(by rw [h]; exact Nat.zero_lt_succ _) = 40 := by simp only [h]; rfl
    exact this
  have hne : (s.toList == ([] : List UInt8)) = false := by
    rw [beq_eq_false_iff_ne, ByteArray.toList_eq, h]; exact List.cons_ne_nil _ _
  have hne2 : s.toList.isEmpty = false := by rw [ByteArray.toList_eq, h]; rfl
  have H1 := Aside0.mk (fun W => show Calls Tryd.prog 53 #[.string (s.extract 1 s.size)] W fun e w' => e = .returned (.tuple #[.pointer none, .string ⟨#[]⟩]) ∧ Below W.heap.size W w' from by
    rw [readCut h]
    refine (IH1 W).mono fun e w' hq => ?_
    unfold ReadOut at hq
    rw [show (⟨l.toArray⟩ : ByteArray).data.toList = l from rfl, e1] at hq
    exact hq)
  have HP := Aside0.mk (show prs s.data.toList = none by rw [h, prs_cons, if_neg (by decide), if_pos (by decide), e1])
  clear h e1 IH1; go_enter Tryd.func53, Tryd.ntmps53
  go_upto_region 8 with (fail)
  have BK0 := Aside0.mk (blk_new w (nodeO 0 (.pointer none) (.pointer none)))
  have HB0 := Aside0.mk (below_alloc (Below.refl w.heap.size w) (nodeO 0 (.pointer none) (.pointer none)))
  have hz0 : (w.alloc (nodeO 0 (.pointer none) (.pointer none))).heap.size = w.heap.size + 1 := by simp
  have HZ0 := Aside0.mk hz0
  clear hz0; generalize w.alloc (nodeO 0 (.pointer none) (.pointer none)) = W0 at BK0 HB0 HZ0 ⊢
  go_upto_region 9 with (go_at_call 53; go_loud (refine (H1.out _).mono ?_; rintro e w1 ⟨rfl, hb1⟩; have BK1 := Aside0.mk (blk_below BK0.out hb1); have HB1 := Aside0.mk (below_step HB0.out hb1); have hc1 : w1.cell? ⟨w.heap.size, 1, none⟩ = some (.pointer none) := (blk_cell BK1.out 1).trans rfl; have hf1 := blk_frozen BK1.out 1; have HZ1 := Aside0.mk hb1.size; clear hb1))
  have BK2 := Aside0.mk (blk_put BK1.out 1 (.pointer none) (cs' := #[.int .i64 0, .pointer none, .pointer none]) rfl)
  have HB2 := Aside0.mk (below_set HB1.out (g := w.heap.size) (j := 1) (v := .pointer none) (Nat.le_refl _))
  clear hc1 hf1; generalize w1.setCell ⟨w.heap.size, 1, none⟩ (.pointer none) = W2 at BK2 HB2 ⊢
  have hc2 : W2.cell? ⟨w.heap.size, 1, none⟩ = some (.pointer none) := (blk_cell BK2.out 1).trans rfl
  go_wp2; go_ret2
  unfold ReadOut
  rw [HP.out]
  exact ⟨rfl, by first | exact HB2.out | exact below_drew1 HB2.out⟩
set_option maxHeartbeats 2000000 in
set_option maxRecDepth 100000 in
theorem read.no_right (s : ByteArray) (l : List UInt8) (h : s.data.toList = 40 :: l) (hs : s.size < 9223372036854775808) (w : World) (tl : Tr) (r1 : List UInt8) (e1 : prs l = some (tl, r1)) (e2 : prs r1 = none) (IH1 : ∀ W, Calls Tryd.prog 53 #[.string ⟨l.toArray⟩] W (ReadOut W ⟨l.toArray⟩)) (IH2 : ∀ W, Calls Tryd.prog 53 #[.string ⟨r1.toArray⟩] W (ReadOut W ⟨r1.toArray⟩)) : Calls Tryd.prog 53 #[.string s] w (ReadOut w s) := by
  have hz : 0 < s.size := by have : s.size = (40 :: l).length := by rw [← h]; rfl
                             rw [this, List.length_cons]; omega
  have hx : s[0] = 40 := by
    have : s.data.toList[0]'(by rw [h]; exact Nat.zero_lt_succ _) = 40 := by simp only [h]; rfl
    exact this
  have hne : (s.toList == ([] : List UInt8)) = false := by
    rw [beq_eq_false_iff_ne, ByteArray.toList_eq, h]; exact List.cons_ne_nil _ _
  have hne2 : s.toList.isEmpty = false := by rw [ByteArray.toList_eq, h]; rfl
  have H1 := Aside0.mk (fun W => show Calls Tryd.prog 53 #[.string (s.extract 1 s.size)] W fun e w' => ∃ b, e = .returned (.tuple #[(.pointer (some ⟨b, 0, none⟩)), .string ⟨r1.toArray⟩]) ∧ TreeIn w' tl W.heap.size w'.heap.size b ∧ Below W.heap.size W w' from by
    rw [readCut h]
    refine (IH1 W).mono fun e w' hq => ?_
    unfold ReadOut at hq
    rw [show (⟨l.toArray⟩ : ByteArray).data.toList = l from rfl, e1] at hq
    obtain ⟨⟨b, q1, q2⟩, q3⟩ := hq
    exact ⟨b, q1, q2, q3⟩)
  have H2 := Aside0.mk (fun W => show Calls Tryd.prog 53 #[.string ⟨r1.toArray⟩] W fun e w' => e = .returned (.tuple #[.pointer none, .string ⟨#[]⟩]) ∧ Below W.heap.size W w' from by
    refine (IH2 W).mono fun e w' hq => ?_
    unfold ReadOut at hq
    rw [show (⟨r1.toArray⟩ : ByteArray).data.toList = r1 from rfl, e2] at hq
    exact hq)
  have HP := Aside0.mk (show prs s.data.toList = none by rw [h, prs_cons, if_neg (by decide), if_pos (by decide), e1]; simp only; rw [e2])
  clear h e1 e2 IH1 IH2; go_enter Tryd.func53, Tryd.ntmps53
  go_upto_region 8 with (fail)
  have BK0 := Aside0.mk (blk_new w (nodeO 0 (.pointer none) (.pointer none)))
  have HB0 := Aside0.mk (below_alloc (Below.refl w.heap.size w) (nodeO 0 (.pointer none) (.pointer none)))
  have hz0 : (w.alloc (nodeO 0 (.pointer none) (.pointer none))).heap.size = w.heap.size + 1 := by simp
  have HZ0 := Aside0.mk hz0
  clear hz0; generalize w.alloc (nodeO 0 (.pointer none) (.pointer none)) = W0 at BK0 HB0 HZ0 ⊢
  go_upto_region 9 with (go_at_call 53; go_loud (refine (H1.out _).mono ?_; rintro e w1 ⟨b1, rfl, ht1, hb1⟩; have BK1 := Aside0.mk (blk_below BK0.out hb1); have HT1 := Aside0.mk ht1; have HB1 := Aside0.mk (below_step HB0.out hb1); have hc1 : w1.cell? ⟨w.heap.size, 1, none⟩ = some (.pointer none) := (blk_cell BK1.out 1).trans rfl; have hf1 := blk_frozen BK1.out 1; have HZ1 := Aside0.mk hb1.size; clear ht1 hb1))
  have BK2 := Aside0.mk (blk_put BK1.out 1 (.pointer (some ⟨b1, 0, none⟩)) (cs' := #[.int .i64 0, (.pointer (some ⟨b1, 0, none⟩)), .pointer none]) rfl)
  have HT2 := Aside0.mk (HT1.out.set (p := ⟨w.heap.size, 1, none⟩) (.inl (by have := HZ0.out; show w.heap.size < _; omega)) (.pointer (some ⟨b1, 0, none⟩)))
  have HB2 := Aside0.mk (below_set HB1.out (g := w.heap.size) (j := 1) (v := (.pointer (some ⟨b1, 0, none⟩))) (Nat.le_refl _))
  have HZ2 := Aside0.mk (show (w1.setCell ⟨w.heap.size, 1, none⟩ (.pointer (some ⟨b1, 0, none⟩))).heap.size = w1.heap.size by simp)
  clear hc1 hf1; generalize w1.setCell ⟨w.heap.size, 1, none⟩ (.pointer (some ⟨b1, 0, none⟩)) = W2 at BK2 HT2 HB2 HZ2 ⊢
  have hc2 : W2.cell? ⟨w.heap.size, 1, none⟩ = some (.pointer (some ⟨b1, 0, none⟩)) := (blk_cell BK2.out 1).trans rfl
  go_upto_region 12 with (go_at_call 53; go_loud (refine (H2.out _).mono ?_; rintro e w3 ⟨rfl, hb3⟩; have BK3 := Aside0.mk (blk_below BK2.out hb3); have HB3 := Aside0.mk (below_step HB2.out hb3); have hc3 : w3.cell? ⟨w.heap.size, 2, none⟩ = some (.pointer none) := (blk_cell BK3.out 2).trans rfl; have hf3 := blk_frozen BK3.out 2; have HL3 := Aside0.mk (HT2.out.below hb3 (by rw [HZ2.out]; exact Nat.le_refl _)); have HZ3 := Aside0.mk hb3.size; clear hb3 hc2))
  have BK4 := Aside0.mk (blk_put BK3.out 2 (.pointer none) (cs' := #[.int .i64 0, (.pointer (some ⟨b1, 0, none⟩)), .pointer none]) rfl)
  have HB4 := Aside0.mk (below_set HB3.out (g := w.heap.size) (j := 2) (v := .pointer none) (Nat.le_refl _))
  clear hc3 hf3; generalize w3.setCell ⟨w.heap.size, 2, none⟩ (.pointer none) = W4 at BK4 HB4 ⊢
  have hc4 : W4.cell? ⟨w.heap.size, 2, none⟩ = some (.pointer none) := (blk_cell BK4.out 2).trans rfl
  go_wp2; go_ret2
  unfold ReadOut
  rw [HP.out]
  exact ⟨rfl, by first | exact HB4.out | exact below_drew1 HB4.out⟩
set_option maxHeartbeats 2000000 in
set_option maxRecDepth 100000 in
theorem read.no_close (s : ByteArray) (l : List UInt8) (h : s.data.toList = 40 :: l) (hs : s.size < 9223372036854775808) (w : World) (tl tr : Tr) (r1 r2 : List UInt8) (e1 : prs l = some (tl, r1)) (e2 : prs r1 = some (tr, r2)) (e3 : closeB r2 = false) (IH1 : ∀ W, Calls Tryd.prog 53 #[.string ⟨l.toArray⟩] W (ReadOut W ⟨l.toArray⟩)) (IH2 : ∀ W, Calls Tryd.prog 53 #[.string ⟨r1.toArray⟩] W (ReadOut W ⟨r1.toArray⟩)) : Calls Tryd.prog 53 #[.string s] w (ReadOut w s) := by
  have hz : 0 < s.size := by have : s.size = (40 :: l).length := by rw [← h]; rfl
                             rw [this, List.length_cons]; omega
  have hx : s[0] = 40 := by
    have : s.data.toList[0]'(by rw [h]; exact Nat.zero_lt_succ _) = 40 := by simp only [h]; rfl
    exact this
  have hne : (s.toList == ([] : List UInt8)) = false := by
    rw [beq_eq_false_iff_ne, ByteArray.toList_eq, h]; exact List.cons_ne_nil _ _
  have hne2 : s.toList.isEmpty = false := by rw [ByteArray.toList_eq, h]; rfl
  have H1 := Aside0.mk (fun W => show Calls Tryd.prog 53 #[.string (s.extract 1 s.size)] W fun e w' => ∃ b, e = .returned (.tuple #[(.pointer (some ⟨b, 0, none⟩)), .string ⟨r1.toArray⟩]) ∧ TreeIn w' tl W.heap.size w'.heap.size b ∧ Below W.heap.size W w' from by
    rw [readCut h]
    refine (IH1 W).mono fun e w' hq => ?_
    unfold ReadOut at hq
    rw [show (⟨l.toArray⟩ : ByteArray).data.toList = l from rfl, e1] at hq
    obtain ⟨⟨b, q1, q2⟩, q3⟩ := hq
    exact ⟨b, q1, q2, q3⟩)
  have H2 := Aside0.mk (fun W => show Calls Tryd.prog 53 #[.string ⟨r1.toArray⟩] W fun e w' => ∃ b, e = .returned (.tuple #[(.pointer (some ⟨b, 0, none⟩)), .string ⟨r2.toArray⟩]) ∧ TreeIn w' tr W.heap.size w'.heap.size b ∧ Below W.heap.size W w' from by
    refine (IH2 W).mono fun e w' hq => ?_
    unfold ReadOut at hq
    rw [show (⟨r1.toArray⟩ : ByteArray).data.toList = r1 from rfl, e2] at hq
    obtain ⟨⟨b, q1, q2⟩, q3⟩ := hq
    exact ⟨b, q1, q2, q3⟩)
  have H3 := Aside0.mk (fun W => strings_HasPrefix.calls ⟨r2.toArray⟩ ⟨#[41]⟩ false W (by rw [hasp, e3]))
  have HP := Aside0.mk (show prs s.data.toList = none by
    rw [h, prs_cons, if_neg (by decide), if_pos (by decide), e1]
    simp only
    rw [e2]
    cases r2 with
    | nil => rfl
    | cons d r => exact if_neg (of_decide_eq_false e3))
  obtain ⟨S3, hS3⟩ : ∃ S3 : ByteArray, S3 = ⟨r2.toArray⟩ := ⟨_, rfl⟩
  rw [← hS3] at H2 H3
  clear h e1 e2 e3 IH1 IH2 hS3; go_enter Tryd.func53, Tryd.ntmps53
  go_upto_region 8 with (fail)
  have BK0 := Aside0.mk (blk_new w (nodeO 0 (.pointer none) (.pointer none)))
  have HB0 := Aside0.mk (below_alloc (Below.refl w.heap.size w) (nodeO 0 (.pointer none) (.pointer none)))
  have hz0 : (w.alloc (nodeO 0 (.pointer none) (.pointer none))).heap.size = w.heap.size + 1 := by simp
  have HZ0 := Aside0.mk hz0
  clear hz0; generalize w.alloc (nodeO 0 (.pointer none) (.pointer none)) = W0 at BK0 HB0 HZ0 ⊢
  go_upto_region 9 with (go_at_call 53; go_loud (refine (H1.out _).mono ?_; rintro e w1 ⟨b1, rfl, ht1, hb1⟩; have BK1 := Aside0.mk (blk_below BK0.out hb1); have HT1 := Aside0.mk ht1; have HB1 := Aside0.mk (below_step HB0.out hb1); have hc1 : w1.cell? ⟨w.heap.size, 1, none⟩ = some (.pointer none) := (blk_cell BK1.out 1).trans rfl; have hf1 := blk_frozen BK1.out 1; have HZ1 := Aside0.mk hb1.size; clear ht1 hb1))
  have BK2 := Aside0.mk (blk_put BK1.out 1 (.pointer (some ⟨b1, 0, none⟩)) (cs' := #[.int .i64 0, (.pointer (some ⟨b1, 0, none⟩)), .pointer none]) rfl)
  have HT2 := Aside0.mk (HT1.out.set (p := ⟨w.heap.size, 1, none⟩) (.inl (by have := HZ0.out; show w.heap.size < _; omega)) (.pointer (some ⟨b1, 0, none⟩)))
  have HB2 := Aside0.mk (below_set HB1.out (g := w.heap.size) (j := 1) (v := (.pointer (some ⟨b1, 0, none⟩))) (Nat.le_refl _))
  have HZ2 := Aside0.mk (show (w1.setCell ⟨w.heap.size, 1, none⟩ (.pointer (some ⟨b1, 0, none⟩))).heap.size = w1.heap.size by simp)
  clear hc1 hf1; generalize w1.setCell ⟨w.heap.size, 1, none⟩ (.pointer (some ⟨b1, 0, none⟩)) = W2 at BK2 HT2 HB2 HZ2 ⊢
  have hc2 : W2.cell? ⟨w.heap.size, 1, none⟩ = some (.pointer (some ⟨b1, 0, none⟩)) := (blk_cell BK2.out 1).trans rfl
  go_upto_region 12 with (go_at_call 53; go_loud (refine (H2.out _).mono ?_; rintro e w3 ⟨b2, rfl, ht3, hb3⟩; have BK3 := Aside0.mk (blk_below BK2.out hb3); have HT3 := Aside0.mk ht3; have HB3 := Aside0.mk (below_step HB2.out hb3); have hc3 : w3.cell? ⟨w.heap.size, 2, none⟩ = some (.pointer none) := (blk_cell BK3.out 2).trans rfl; have hf3 := blk_frozen BK3.out 2; have HL3 := Aside0.mk (HT2.out.below hb3 (by rw [HZ2.out]; exact Nat.le_refl _)); have HZ3 := Aside0.mk hb3.size; clear ht3 hb3 hc2))
  have BK4 := Aside0.mk (blk_put BK3.out 2 (.pointer (some ⟨b2, 0, none⟩)) (cs' := #[.int .i64 0, (.pointer (some ⟨b1, 0, none⟩)), (.pointer (some ⟨b2, 0, none⟩))]) rfl)
  have HL4 := Aside0.mk (HL3.out.set (p := ⟨w.heap.size, 2, none⟩) (.inl (by have := HZ0.out; show w.heap.size < _; omega)) (.pointer (some ⟨b2, 0, none⟩)))
  have HT4 := Aside0.mk (HT3.out.set (p := ⟨w.heap.size, 2, none⟩) (.inl (by have := HZ0.out; have := HZ1.out; have := HZ2.out; show w.heap.size < _; omega)) (.pointer (some ⟨b2, 0, none⟩)))
  have HB4 := Aside0.mk (below_set HB3.out (g := w.heap.size) (j := 2) (v := (.pointer (some ⟨b2, 0, none⟩))) (Nat.le_refl _))
  have HZ4 := Aside0.mk (show (w3.setCell ⟨w.heap.size, 2, none⟩ (.pointer (some ⟨b2, 0, none⟩))).heap.size = w3.heap.size by simp)
  clear hc3 hf3; generalize w3.setCell ⟨w.heap.size, 2, none⟩ (.pointer (some ⟨b2, 0, none⟩)) = W4 at BK4 HL4 HT4 HB4 HZ4 ⊢
  have hc4 : W4.cell? ⟨w.heap.size, 2, none⟩ = some (.pointer (some ⟨b2, 0, none⟩)) := (blk_cell BK4.out 2).trans rfl
  go_upto_region 13 with (go_at_call 64; go_loud (refine (H3.out _).mono ?_; rintro e w5 ⟨rfl, hd⟩))
  have HB5 := below_step HB4.out hd.below
  go_wp2; go_ret2
  unfold ReadOut
  rw [HP.out]
  exact ⟨rfl, by first | exact HB5 | exact below_drew1 HB5⟩
set_option maxHeartbeats 1000000 in
set_option maxRecDepth 100000 in
theorem read.other (s : ByteArray) (c : UInt8) (l : List UInt8) (h : s.data.toList = c :: l) (h1 : ¬ (49 ≤ c.toNat ∧ c.toNat ≤ 56)) (h2 : c.toNat ≠ 40) (w : World) : Calls Tryd.prog 53 #[.string s] w (ReadOut w s) := by
  have hz : 0 < s.size := by have : s.size = (c :: l).length := by rw [← h]; rfl
                             rw [this, List.length_cons]; omega
  have hx : s[0] = c := by
    have : s.data.toList[0]'(by rw [h]; exact Nat.zero_lt_succ _) = c := by simp only [h]; rfl
    exact this
  have hne : (s.toList == ([] : List UInt8)) = false := by
    rw [beq_eq_false_iff_ne, ByteArray.toList_eq, h]; exact List.cons_ne_nil _ _
  have hne2 : s.toList.isEmpty = false := by rw [ByteArray.toList_eq, h]; rfl
  have c3 : (((c.toNat : Int)) != 40) = true := bne_iff_ne.mpr (by omega)
  have c4 : (((c.toNat : Int)) == 40) = false := beq_eq_false_iff_ne.mpr (by omega)
  have HP := Aside0.mk (show prs s.data.toList = none by rw [h, prs_cons, if_neg h1, if_neg h2])
  by_cases d : 49 ≤ c.toNat
  · have c1 : decide (49 ≤ (c.toNat : Int)) = true := decide_eq_true (by omega)
    have c2 : decide ((c.toNat : Int) ≤ 56) = false := decide_eq_false (by omega)
    clear h h1 h2 d; go_enter Tryd.func53, Tryd.ntmps53
    go_wp2; go_ret2
    unfold ReadOut
    rw [HP.out]
    exact ⟨rfl, by first | exact Below.refl _ _ | exact below_drew1 (Below.refl _ _)⟩
  · have c1 : decide (49 ≤ (c.toNat : Int)) = false := decide_eq_false (by omega)
    clear h h1 h2 d; go_enter Tryd.func53, Tryd.ntmps53
    go_wp2; go_ret2
    unfold ReadOut
    rw [HP.out]
    exact ⟨rfl, by first | exact Below.refl _ _ | exact below_drew1 (Below.refl _ _)⟩
theorem read.calls : ∀ (n : Nat) (s : ByteArray), s.size < n → s.size < 9223372036854775808 → ∀ w, Calls Tryd.prog 53 #[.string s] w (ReadOut w s)
  | 0, _, h, _, _ => absurd h (Nat.not_lt_zero _)
  | n + 1, s, h, hs, w => by
    cases hl : s.data.toList with
    | nil =>
      obtain rfl := nil_text hl
      refine (read.none0 w).mono fun e w' hq => ?_
      exact hq
    | cons c l =>
      have hz : s.size = l.length + 1 := by
        have : s.size = s.data.toList.length := rfl
        rw [this, hl, List.length_cons]
      by_cases h1 : 49 ≤ c.toNat ∧ c.toNat ≤ 56
      · exact read.leaf s c l hl h1 hs w
      by_cases h2 : c.toNat = 40
      case neg => exact read.other s c l hl h1 h2 w
      obtain rfl : c = 40 := UInt8.toNat_inj.mp h2
      have ih := read.calls n
      have IH1 := ih ⟨l.toArray⟩ (by show l.length < n; omega) (by show l.length < _; omega)
      cases e1 : prs l with
      | none => exact read.no_left s l hl hs w e1 IH1
      | some x =>
        obtain ⟨tl, r1⟩ := x; have hr := prs_len e1
        have IH2 := ih ⟨r1.toArray⟩ (by show r1.length < n; omega) (by show r1.length < _; omega)
        cases e2 : prs r1 with
        | none => exact read.no_right s l hl hs w tl r1 e1 e2 IH1 IH2
        | some y =>
          obtain ⟨tr, r2⟩ := y; cases e3 : closeB r2 with
          | false => exact read.no_close s l hl hs w tl tr r1 r2 e1 e2 e3 IH1 IH2
          | true =>
            cases r2 with
            | nil => cases e3
            | cons d r3 =>
              obtain rfl : d = 41 := UInt8.toNat_inj.mp (of_decide_eq_true e3)
              exact read.node s l hl hs w tl tr r1 r3 e1 e2 IH1 IH2

end Go.Proofs.YtiofobdmkkbmlaaDoor.F
