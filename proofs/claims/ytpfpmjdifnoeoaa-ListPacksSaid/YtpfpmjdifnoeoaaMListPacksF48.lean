import Derived.Test.YtpfpmjdifnoeoaaMListPacksF0
import Derived.Test.YtpfpmjdifnoeoaaMListPacksB3
import Derived.Test.YtpfpmjdifnoeoaaMListPacksB1
import Derived.Laws.NewBlocks
import Derived.RegionTactic
import Derived.BigRegion
import Derived.Deep.RegionLaw
import Derived.Deep.AppendLies
namespace Go.Proofs.Ytpfpmjdifnoeoaa.F
open Go.RowKit Go.Proofs.YtpfpmjdifnoeoaaW.PrintWords Go.Proofs.YtpfpmjdifnoeoaaW.PrintLast Go.Proofs.YtpfpmjdifnoeoaaW.PrintMore
attribute [local go_sem] max2_int min2_int max_two min_two max_three min_three max_four min_four
set_option linter.unusedVariables false
set_option linter.unusedSimpArgs false
open Go.Proofs.Ytpfpmjdifnoeoaa.Pure
def rowN : Nat → ByteArray → List ByteArray × Int
  | 0, t => if t = numF 0 then ([], 0) else ([], 2)
  | k + 1, t => if t = numF 0 then ([], 0) else if kindF t = 112 then (if (rowN k (rdOf ByteArray.empty (kidsF t) 1)).2 = 0 then (rdOf ByteArray.empty (kidsF t) 0 :: (rowN k (rdOf ByteArray.empty (kidsF t) 1)).1, 0) else ([], 2)) else ([], 2)
def list_Take.f (t : ByteArray) : Option (List ByteArray × Int) := if t.size < 9223372036854775808 then some (rowN 150 t) else none
theorem list_Take.pair {t : ByteArray} (h : kindF t = 112) : kidsP t = [rdOf ByteArray.empty (kidsF t) 0, rdOf ByteArray.empty (kidsF t) 1] ∧ (rdOf ByteArray.empty (kidsF t) 1).size < t.size := by
  unfold kindF at h
  split at h
  case isFalse => exact absurd h (by decide)
  rename_i hr
  obtain ⟨x, y, hk, _⟩ := kids_pair hr h
  have hy := kids_right hr y (by rw [hk]; simp)
  unfold kidsP
  rw [if_pos hr, hk]
  exact ⟨rfl, hy.2.1⟩
theorem list_Take.text {a b : ByteArray} (h : a.toList = b.toList) : a = b := by
  rw [ByteArray.toList_eq, ByteArray.toList_eq] at h
  exact ByteArray.ext (Array.ext' h)
def onN (k : Nat) (l : List ByteArray) (t : ByteArray) : List ByteArray × Int := if (rowN k t).2 = 0 then (l ++ (rowN k t).1, 0) else ([], 2)
theorem onN_end (k : Nat) (l : List ByteArray) {t : ByteArray} (h : t = numF 0) : onN k l t = (l, 0) := by
  unfold onN
  cases k <;> (rw [rowN, if_pos h]; simp)
theorem onN_bad (k : Nat) (l : List ByteArray) {t : ByteArray} (h : ¬ t = numF 0) (h2 : ¬ kindF t = 112) : onN k l t = ([], 2) := by
  unfold onN
  cases k
  · rw [rowN, if_neg h]; rfl
  · rw [rowN, if_neg h, if_neg h2]; rfl
theorem onN_full (l : List ByteArray) {t : ByteArray} (h : ¬ t = numF 0) : onN 0 l t = ([], 2) := by
  unfold onN
  rw [rowN, if_neg h]; rfl
theorem onN_step (k : Nat) (l : List ByteArray) {t : ByteArray} (h : ¬ t = numF 0) (h2 : kindF t = 112) : onN (k + 1) l t = onN k (l ++ [rdOf ByteArray.empty (kidsF t) 0]) (rdOf ByteArray.empty (kidsF t) 1) := by
  unfold onN
  rw [rowN, if_neg h, if_pos h2]
  split
  · rename_i q
    simp only [if_true]
    rw [List.append_assoc]; rfl
  · rfl
set_option maxHeartbeats 2000000 in
set_option maxRecDepth 100000 in
theorem list_Take.calls (a0 : ByteArray) (r1 : List ByteArray) (r2 : Int) (w : World) (h : list_Take.f a0 = some (r1, r2)) :
    Calls Try.prog 48 #[.string a0] w fun e w' => ∃ v0_ : Value, e = .returned (.tuple #[v0_, .int .i64 r2]) ∧ Kd.R Kd.string 23 w' w.heap.size (fun _ => True) v0_ r1 ∧ Below w.heap.size w w' := by
  unfold list_Take.f at h
  split at h
  case isFalse => cases h
  rename_i hsz
  replace h := Option.some.inj h
  have H0 : Aside0 (onN 150 [] a0 = (r1, r2)) := ⟨by
    rw [← h]
    unfold onN
    split
    · rename_i q; rw [List.nil_append]; exact Prod.ext rfl q.symm
    · rename_i q
      have : ∀ (k : Nat) (t : ByteArray), (rowN k t).2 = 0 ∨ rowN k t = ([], 2) := by
        intro k
        cases k with
        | zero => intro t; rw [rowN]; split; exact .inl rfl; exact .inr rfl
        | succ k => intro t; rw [rowN]; repeat' split
                    all_goals first | exact .inl rfl | exact .inr rfl
      rcases this 150 a0 with q2 | q2
      · exact absurd q2 q
      · exact q2.symm⟩
  have HB := Aside0.mk (Below.refl w.heap.size w)
  have HN := Aside0.mk (fun W => term_Number.calls 0 (numF 0) W rfl)
  obtain ⟨z, hz⟩ : ∃ z, z = numF 0 := ⟨_, rfl⟩
  have HZ := Aside0.mk hz
  rw [← hz] at HN
  have HSZ := Aside0.mk hsz
  clear h hz hsz
  go_enter Try.func48, Try.ntmps48
  go_wp2
  go_loopg [0, 4] 150 (fun kq v0 v4 w' => ∃ (t : ByteArray) (l : List ByteArray), v0 = .string t ∧ Aside0 (onN kq l t = (r1, r2)) ∧ Aside0 (l.length + kq = 150) ∧ Aside0 (t.size ≤ a0.size) ∧ Aside0 (Kd.R Kd.string 23 w' w.heap.size (fun _ => True) v4 l) ∧ Aside0 (Below w.heap.size w w'))
  case atStart => exact ⟨a0, [], rfl, H0, ⟨rfl⟩, ⟨Nat.le_refl _⟩, ⟨Kd.R_nil _ _ _ _ _⟩, HB⟩
  case round =>
    clear H0 HB
    obtain ⟨t, l, rfl, HA, HL, HS, HO, HB⟩ := hrel
    have ht : t.size < 9223372036854775808 := by have := HS.out; have := HSZ.out; omega
    have HK := Aside0.mk (fun W => parts_Kind.calls t (kindF t) W (by unfold parts_Kind.f; rw [if_pos ht]))
    have HF := Aside0.mk (fun W => parts_Of.calls t (kidsP t) W (by unfold parts_Of.f; rw [if_pos ht]))
    obtain ⟨ao, co, ev⟩ := Kd.R_slice HO.out
    subst ev
    by_cases c1 : t = z
    · have hr := onN_end gk l (c1.trans HZ.out)
      rw [HA.out] at hr
      obtain ⟨rfl, rfl⟩ := Prod.mk.inj hr
      have c1a : (t.toList == z.toList) = true := by rw [c1]; exact beq_self_eq_true _
      have c1b : (t.toList != z.toList) = false := by rw [bne, c1a]; rfl
      clear hr c1 ht HK HF
      go_wp2_with (go_at_call 84; go_loud (refine (HN.out _).mono ?_; rintro e w2 ⟨rfl, hb2⟩; have HB2 := Aside0.mk (below_then HB.out HB.out.size hb2); have HO2 := Aside0.mk (Kd.R_below HO.out hb2); clear hb2))
      go_ret2
      exact ⟨_, rfl, HO2.out, HB2.out⟩
    · have c1n : ¬ t = numF 0 := fun h => c1 (h.trans HZ.out.symm)
      have c1a : (t.toList == z.toList) = false := beq_eq_false_iff_ne.mpr (fun h => c1 (list_Take.text h))
      have c1b : (t.toList != z.toList) = true := by rw [bne, c1a]; rfl
      obtain ⟨c, hc⟩ : ∃ c, c = kindF t := ⟨_, rfl⟩
      rw [← hc] at HK
      by_cases c2 : c = 112
      · cases gk with
        | zero =>
          have hr := onN_full l c1n
          rw [HA.out] at hr
          obtain ⟨rfl, rfl⟩ := Prod.mk.inj hr
          have c3a : ((l.length : Int) == 150) = true := beq_iff_eq.mpr (by have := HL.out; omega)
          have c3b : (l.length == 150) = true := beq_iff_eq.mpr (by have := HL.out; omega)
          subst c2
          clear hr c1 c1n ht HF hc
          go_wp2_with (first | (go_at_call 84; go_loud (refine (HN.out _).mono ?_; rintro e w2 ⟨rfl, hb2⟩; have HB2 := Aside0.mk (below_then HB.out HB.out.size hb2); have HO2 := Aside0.mk (Kd.R_below HO.out hb2); clear hb2)) | (go_at_call 71; go_loud (refine (HK.out _).mono ?_; rintro e w3 ⟨rfl, hb3⟩; have HB3 := Aside0.mk (below_then HB2.out HB2.out.size hb3); clear hb3)))
          go_ret2
          exact ⟨_, rfl, Kd.R_nil _ _ _ _ _, HB3.out⟩
        | succ k1 =>
          have hr := onN_step k1 l c1n (hc.symm.trans c2)
          have hq := list_Take.pair (hc.symm.trans c2)
          obtain ⟨x, hx⟩ : ∃ x, x = rdOf ByteArray.empty (kidsF t) 0 := ⟨_, rfl⟩
          obtain ⟨y, hy⟩ : ∃ y, y = rdOf ByteArray.empty (kidsF t) 1 := ⟨_, rfl⟩
          rw [← hx, ← hy] at hr hq
          rw [HA.out] at hr
          obtain ⟨hq1, hq2⟩ := hq
          rw [hq1] at HF
          have HR := Aside0.mk hr
          have HQ := Aside0.mk hq2
          have hln : l.length < 150 := by have := HL.out; omega
          have c3a : ((l.length : Int) == 150) = false := beq_eq_false_iff_ne.mpr (by omega)
          have c3b : (l.length == 150) = false := beq_eq_false_iff_ne.mpr (by omega)
          have HLN := Aside0.mk hln
          subst c2
          clear hr c1 c1n ht hc hx hy hq1 hq2 hln HA
          go_wp2_with (first | (go_at_call 84; go_loud (refine (HN.out _).mono ?_; rintro e w2 ⟨rfl, hb2⟩; have HB2 := Aside0.mk (below_then HB.out HB.out.size hb2); have HO2 := Aside0.mk (Kd.R_below HO.out hb2); clear hb2)) | (go_at_call 71; go_loud (refine (HK.out _).mono ?_; rintro e w3 ⟨rfl, hb3⟩; have HB3 := Aside0.mk (below_then HB2.out HB2.out.size hb3); have HO3 := Aside0.mk (Kd.R_below HO2.out hb3); clear hb3)) | (go_at_call 74; go_loud (refine (HF.out _).mono ?_; rintro e w4 ⟨v, rfl, hv, hb4⟩; have HO4 := Aside0.mk (Kd.R_elder' HO3.out (Kd.R_base hv) hb4); have HV := Aside0.mk hv; have HB4 := Aside0.mk (below_then HB3.out HB3.out.size hb4); clear hb4 hv)))
          obtain ⟨g, cv, rfl, hgb, hgl⟩ := (Kd.own_of_R HV.out).form (by simp)
          obtain ⟨ad0, e0, hx0⟩ := Kd.at_string (Kd.R_reads' HV.out).2.2 0 (by omega) (by simp)
          obtain ⟨ad1, e1, hx1⟩ := Kd.at_string (Kd.R_reads' HV.out).2.2 1 (by omega) (by simp)
          cases e0
          cases e1
          replace hx0 : w4.cell? ⟨g, 0, none⟩ = some (.string x) := hx0
          replace hx1 : w4.cell? ⟨g, 1, none⟩ = some (.string y) := hx1
          have HX1 := Aside0.mk hx1
          have HG := Aside0.mk hgl
          have HNE : Aside0 ((Value.slice ao l.length co).ownBlock ≠ some g) := ⟨fun h => (HO4.out.1 g h).2 rfl⟩
          clear hgb hgl
          have hxa : ∀ o : Obj, (w4.alloc o).cell? ⟨g, 1, none⟩ = some (.string y) := fun o => (World.cell?_alloc_past o g 1 HG.out).trans HX1.out
          go_region_law ((first | rw [show (w4.alloc (.cells #[.string x] 23)).drew.drew.drew = w4.drew.drew.drew.alloc (.cells #[.string x] 23) from rfl] | rw [show (w4.alloc (.cells #[.string x] 23)).drew.drew = w4.drew.drew.alloc (.cells #[.string x] 23) from rfl] | rw [show (w4.alloc (.cells #[.string x] 23)).drew = w4.drew.alloc (.cells #[.string x] 23) from rfl]); refine Kd.R_append_step Kd.string (w0 := w) w.heap.size (by rfl) (.tmp 19) (.tmp 23) 37 23 (.string ⟨#[]⟩) 16 rfl Try.underlying37 info23 rfl (by decide) (by omega) (.slice ao l.length co) l x [.string x] (fun k_ => True ∧ some k_ ≠ (Value.slice (some ⟨g, 0, none⟩) [x, y].length cv).ownBlock) (fun _ => False) rfl rfl rfl (fun _ hk => hk.elim) (fun k_ hk => ⟨trivial, fun e_ => by have h1 := HG.out; injection e_ with e2; subst e2; exact absurd hk (by simp; omega)⟩) (by (with_reducible repeat (first | apply Kd.R_alloc | apply Kd.R_drewN | apply Kd.R_drew)); exact HO4.out) (by repeat (first | (with_reducible first | exact HB4.out | apply below_alloc | apply pw_below_drewN | apply below_drew1) | exact HB4.out)) (below_size (by repeat (first | (with_reducible first | exact HB4.out | apply below_alloc | apply pw_below_drewN | apply below_drew1) | exact HB4.out))) (by have := HLN.out; omega) ?_; intro v1 w1 ho1 hb1 hg1 _; have hx1b : w1.cell? ⟨g, 1, none⟩ = some (.string y) := (hg1.cell_far ⟨g, 1, none⟩ (Nat.lt_of_lt_of_le HG.out (by simp)) HNE.out.symm).trans HX1.out; have HO5 := Aside0.mk ho1; have HB5 := Aside0.mk hb1; clear ho1 hb1 hg1)
          all_goals
            go_wp2
            go_roundg k1
            case measure => omega
            case rel => exact ⟨y, l ++ [x], rfl, ⟨HR.out.symm⟩, ⟨by have := HL.out; simp; omega⟩, ⟨by have := HQ.out; have := HS.out; omega⟩, ⟨by (with_reducible repeat (first | apply Kd.R_alloc | apply Kd.R_drewN | apply Kd.R_drew)); exact Kd.R_mono HO5.out (fun _ hk => trivial)⟩, ⟨by repeat (first | (with_reducible first | exact HB5.out | apply below_alloc | apply pw_below_drewN | apply below_drew1) | exact HB5.out)⟩⟩
      · have hr := onN_bad gk l c1n (fun h => c2 (hc.trans h))
        rw [HA.out] at hr
        obtain ⟨rfl, rfl⟩ := Prod.mk.inj hr
        have c2a : (c == 112) = false := beq_eq_false_iff_ne.mpr c2
        have c2b : (c != 112) = true := bne_iff_ne.mpr c2
        clear hr c1 c1n ht HF hc c2
        go_wp2_with (first | (go_at_call 84; go_loud (refine (HN.out _).mono ?_; rintro e w2 ⟨rfl, hb2⟩; have HB2 := Aside0.mk (below_then HB.out HB.out.size hb2); have HO2 := Aside0.mk (Kd.R_below HO.out hb2); clear hb2)) | (go_at_call 71; go_loud (refine (HK.out _).mono ?_; rintro e w3 ⟨rfl, hb3⟩; have HB3 := Aside0.mk (below_then HB2.out HB2.out.size hb3); clear hb3)))
        go_ret2
        exact ⟨_, rfl, Kd.R_nil _ _ _ _ _, HB3.out⟩
end Go.Proofs.Ytpfpmjdifnoeoaa.F
