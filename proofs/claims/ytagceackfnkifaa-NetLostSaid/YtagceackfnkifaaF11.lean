-- Laid by mk.py (a program of this session) over the seat's translation.
import Derived.Test.YtagceackfnkifaaF0
import Derived.Test.YtagceackfnkifaaF23
import Derived.Test.YtagceackfnkifaaF24
import Derived.Test.YtagceackfnkifaaB1
import Derived.Test.YtagceackfnkifaaF30
import Derived.Test.YtagceackfnkifaaF54
import Derived.Test.YtagceackfnkifaaF58
import Derived.Test.YtagceackfnkifaaF7
import Derived.RegionTactic
import Derived.BigRegion
import Derived.StillTailTactics
import Derived.StillTactics
import Derived.Deep.RegionWith
import Derived.Deep.LoopGhost
import Derived.Test.YtagceackfnkifaaLNetLaw
namespace Go.Proofs.Ytagceackfnkifaa.F
open Go.RowKit Go.Proofs.YtagceackfnkifaaW.PrintWords Go.Proofs.YtagceackfnkifaaW.PrintLast Go.Proofs.YtagceackfnkifaaW.PrintMore
attribute [local go_sem] max2_int min2_int max_two min_two max_three min_three max_four min_four
set_option linter.unusedVariables false
set_option linter.unusedSimpArgs false

/-! ### gemotlaw8_NetLost: function 11 -/
open Go.Maps Go.Proofs.Ytagceackfnkifaa.Pure
def dT (t : ByteArray) : S50 := ⟨1, 2, t⟩
def HeardS (i : Nat) (hs : List ByteArray) : Prop := hs.length = i ∧ ∀ x ∈ hs, ∃ j : Nat, j < i ∧ x = numF (IntKind.u64.wrap (j : Int))
theorem HeardS.more {i : Nat} {hs : List ByteArray} (h : HeardS i hs) (hi : i < 500) : HeardS (i + 1) (insF hs (numF (IntKind.u64.wrap (i : Int)))) := by
  refine ⟨?_, fun x hx => ?_⟩
  · rw [insF_new, h.1]
    intro hm; obtain ⟨j, hj, e⟩ := h.2 _ hm
    have := room_inj hi (by omega) e
    omega
  · rcases (insF_mem _ _ _).mp hx with e | e
    · exact ⟨i, Nat.lt_succ_self i, e⟩
    · obtain ⟨j, hj, q⟩ := h.2 x e
      exact ⟨j, Nat.lt_succ_of_lt hj, q⟩
/-- What lies in the net is what is left. -/
def LostS (ts : List ByteArray) (m : Nat) (s : NS) : Prop := ts.length ≤ 40 ∧ s.lie = ts.map dT ∧ s.heard.length = m ∧ s.many ≤ 40
theorem dT_rd (ts : List ByteArray) (p : Nat) (h : p < ts.length) : rd_T50 (ts.map dT) (p : Int) = dT (rdOf ByteArray.empty ts (p : Int)) := by
  unfold rd_T50 rdOf
  simp [List.getD_eq_getElem?_getD, List.getElem?_eq_getElem h]
theorem LostS.erase {ts : List ByteArray} {m p : Nat} {s : NS} (h : LostS ts m s) (hp : p < ts.length) : LostS (ts.take p ++ ts.drop (p + 1)) m { s with lie := s.lie.eraseIdx p } := by
  refine ⟨by rw [List.length_append, List.length_take, List.length_drop]; have := h.1; omega, ?_, h.2.2.1, h.2.2.2⟩
  show s.lie.eraseIdx p = _
  rw [h.2.1, List.eraseIdx_eq_take_drop_succ, List.map_append, List.map_take, List.map_drop]
set_option maxHeartbeats 4000000 in
set_option maxRecDepth 100000 in
theorem gemotlaw8_NetLost.long (a0 : Int) (A1 : Option Addr) (c1 : Nat) (l1 : List Int) (w : World) (hl : 60 < l1.length) : Calls Try.prog 11 #[.int .i64 a0, .slice A1 l1.length c1] w fun e w' => e = .returned (.bool true) ∧ Below w.heap.size w w' := by
  have HNw := Aside0.mk (fun W => newL W)
  have HSh := Aside0.mk (fun W => gemotlaw8_shown.any W)
  have q : decide ((60 : Int) < (l1.length : Int)) = true := decide_eq_true (by omega)
  clear hl; go_enter Try.func11, Try.ntmps11
  go_wp2_with (first
    | (go_at_call 23; go_loud (refine (HSh.out _).mono ?_; rintro e w1 ⟨rfl, hb⟩; have HB1 := Aside0.mk hb; clear hb))
    | (go_at_call 24; go_loud (refine (HNw.out _).mono ?_; rintro e w2 ⟨g, F, rfl, hn, hb⟩; have HB2 := Aside0.mk (below_step HB1.out hb); clear hn hb)))
  go_ret
  exact ⟨rfl, HB2.out⟩
set_option maxHeartbeats 8000000 in
set_option maxRecDepth 100000 in
theorem gemotlaw8_NetLost.good (a0 : Int) (A1 : Option Addr) (c1 : Nat) (l1 : List Int) (w : World) (hr1 : Kd.C (Kd.int .i64) w A1 l1.length l1) (hl : l1.length ≤ 60) (h0 : In64 a0) (hw : ∀ x ∈ l1, In64 x) : Calls Try.prog 11 #[.int .i64 a0, .slice A1 l1.length c1] w fun e w' => e = .returned (.bool true) ∧ Below w.heap.size w w' := by
  have HNw := Aside0.mk (fun W => newL W)
  have HSh := Aside0.mk (fun W => gemotlaw8_shown.any W)
  have q : decide ((60 : Int) < (l1.length : Int)) = false := decide_eq_false (by omega)
  obtain ⟨k, hk, hk5⟩ : ∃ k : Nat, pk a0 40 = (k : Int) ∧ k < 40 := by
    have e1 := pk_nn a0 (n := 40) (by decide)
    have e2 := pk_lt a0 (n := 40) (by decide)
    exact ⟨(pk a0 40).toNat, by omega, by omega⟩
  have hp0 := fun W => pick_calls a0 40 h0 (by decide) (by decide) W
  rw [hk] at hp0
  have HP0 := Aside0.mk hp0
  have HK5 := Aside0.mk hk5
  have HR1 := Aside0.mk hr1
  have HL := Aside0.mk hl
  have HW := Aside0.mk (show ∀ i : Nat, i < l1.length → In64 (rd l1 (i : Int)) from fun i h => by
    have e : rd l1 (i : Int) = l1[i] := by unfold rd; simp [List.getD_eq_getElem?_getD, List.getElem?_eq_getElem h]
    rw [e]; exact hw _ (List.getElem_mem h))
  have HNb := Aside0.mk (fun (n : Int) (W : World) => numb_calls n W)
  clear hk hk5 hr1 hl h0 hw hp0; go_enter Try.func11, Try.ntmps11
  go_wp2_with (first
    | (go_at_call 23; go_loud (refine (HSh.out _).mono ?_; rintro e w1 ⟨rfl, hb⟩; have HB1 := Aside0.mk hb; clear hb))
    | (go_at_call 24; go_loud (refine (HNw.out _).mono ?_; rintro e w2 ⟨g, F, rfl, hn, hb⟩; have HN2 := Aside0.mk (hn.lower HB1.out.size); have HB2 := Aside0.mk (below_step HB1.out hb); clear hn hb))
    | (go_at_call 27; (with_reducible refine (HP0.out _).mono ?_); rintro e w' ⟨rfl, ⟨nd, rfl⟩⟩; have HN3 := Aside0.mk (HN2.out.below (pw_below_drewN (Below.refl _ _) nd)); have HB3 := Aside0.mk (pw_below_drewN HB2.out nd)))
  go_loopg [8, 9] k (fun kq v8 v9 w' => ∃ (i : Nat) (F : Nat → Prop) (s : NS) (ts : List ByteArray), v9 = .int .i64 (i : Int) ∧ Aside0 (i + kq = k) ∧ Aside0 (ts.length = i ∧ s.lie = ts.map dT ∧ HeardS i s.heard ∧ s.many ≤ i) ∧ Aside0 (NetL w.heap.size w' g s F) ∧ Aside0 (Loc Kd.string 45 w.heap.size F w' v8 ts) ∧ Aside0 (Below w.heap.size w w'))
  case atStart => exact ⟨0, F, ⟨[], [], 0⟩, [], rfl, ⟨Nat.zero_add _⟩, ⟨rfl, rfl, ⟨rfl, fun x hx => absurd hx List.not_mem_nil⟩, Nat.le_refl _⟩, HN3, ⟨loc_of (Kd.R_nil _ _ _ _ _)⟩, HB3⟩
  case round =>
    clear HNw HSh HN2 HB2 HB1 HN3 HB3 HP0; obtain ⟨i, F', s, ts, rfl, HK, HRo, HN, HO, HB⟩ := hrel; obtain ⟨A8, c8, rfl⟩ := HO.out.slice; by_cases ci : i < k
    · have cb : decide ((i : Int) < (k : Int)) = true := decide_eq_true (by omega)
      have cb2 : decide (i < k) = true := decide_eq_true ci
      have hw1 : IntKind.i64.wrap ((i : Int) + 1) = ((i + 1 : Nat) : Int) := by rw [i64_w]; unfold wrap64; have := HK5.out; omega
      have HCI := Aside0.mk ci
      obtain ⟨T, hT⟩ : ∃ T, T = numF (IntKind.u64.wrap (i : Int)) := ⟨_, rfl⟩
      have hS := fun (W : World) (F : Nat → Prop) (h : NetL w.heap.size W g s F) => sendNumL h 1 2 (IntKind.u64.wrap (i : Int)) (by decide) (by decide) (by rw [HRo.out.2.1, List.length_map, HRo.out.1]; have := HK5.out; omega) (by have := HRo.out.2.2.2; have := HK5.out; omega)
      have hnb := fun (W : World) => numb_calls (IntKind.u64.wrap (i : Int)) W
      have hH := HRo.out.2.2.1.more (by have := HK5.out; omega)
      rw [← hT] at hS hnb hH
      have HS := Aside0.mk hS
      have HNi := Aside0.mk hnb
      have HHi := Aside0.mk hH
      have HTl := Aside0.mk (show ts.length < 1000 by rw [HRo.out.1]; have := HK5.out; omega)
      clear hS hnb hH hT ci
      go_upto_region 11 with (first
        | (go_at_call 26; (with_reducible refine (HNi.out _).mono ?_); rintro e w3 ⟨rfl, hb⟩; have HN3 := Aside0.mk (HN.out.below hb); have HO3 := Aside0.mk (HO.out.below hb); have HB3 := Aside0.mk (below_step HB.out hb); clear hb)
        | (go_at_call 25; go_loud (refine (HS.out _ _ HN3.out).mono ?_; rintro e w4 ⟨rfl, F4, hn, hF, hr⟩; have HN4 := Aside0.mk hn; have HO4 := Aside0.mk (HO3.out.near hr hF); have HB4 := Aside0.mk (HB3.out.trans (hr.toBelow (fun k hk => (HN3.out.2.1 k hk).1) HN3.out.2.2)); clear hn hF hr)))
      go_wp2_with (first
        | (go_at_call 26; (with_reducible refine (HNi.out _).mono ?_); rintro e w5 ⟨rfl, hb⟩; have HN5 := Aside0.mk (HN4.out.below hb); have HO5 := Aside0.mk (HO4.out.below hb); have HB5 := Aside0.mk (below_step HB4.out hb); clear hb)
        | ((with_reducible refine gate_builtin (b := .append) (xs := #[.tmp 47, .tmp 51]) rfl ?_); at_builtin; refine Kd.R_append Kd.string (w0 := w) w.heap.size rfl (.tmp 47) (.tmp 51) 58 45 (.string ⟨#[]⟩) 16 rfl Try.underlying58 info45 rfl (by decide) (by omega) (.slice A8 ts.length c8) ts T [.string T] (fun k => ¬ F4 k) (fun _ => False) rfl rfl ?aP (fun _ hk => hk.elim) ?aF ?aO ?aB ?aS ?aL ?_; (case aP => exact rfl); (case aB => exact HB5.out); (case aF => exact fun k_ hk => HN5.out.fresh hk); (case aO => exact loc_R HO5.out); (case aS => exact HB5.out.size); (case aL => have := HTl.out; omega); intro v2 w7 ho hb hg hat; have HO7 := Aside0.mk (loc_of ho); have HN7 := Aside0.mk (NetL.grown HN5.out hg (fun k e => (loc_R HO5.out).1 k e)); have HB7 := Aside0.mk hb; clear ho hb hg hat))
      cases gk with
      | zero => have := HK.out; have := HCI.out; omega
      | succ k1 =>
        go_roundg k1
        case measure => omega
        case rel =>
          refine ⟨i + 1, F4, _, ts ++ [T], rfl, ⟨by have := HK.out; omega⟩, ⟨by rw [List.length_append, List.length_singleton, HRo.out.1], ?_, HHi.out, Nat.succ_le_succ HRo.out.2.2.2⟩, HN7, HO7, HB7⟩
          show s.lie ++ [dT T] = _
          rw [HRo.out.2.1, List.map_append]
          rfl
    · have cb : decide ((i : Int) < (k : Int)) = false := decide_eq_false (by omega)
      have cb2 : decide (i < k) = false := decide_eq_false ci
      have hi : i = k := by have := HK.out; omega
      subst hi; have HLo := Aside0.mk (show LostS ts i s from ⟨by rw [HRo.out.1]; have := HK5.out; omega, HRo.out.2.1, HRo.out.2.2.1.1, by have := HRo.out.2.2.2; have := HK5.out; omega⟩)
      clear ci HK HRo; go_wp2; go_loopg [8, 10] l1.length (fun kq v8 v10 w' => ∃ (j : Nat) (F : Nat → Prop) (s : NS) (ts : List ByteArray), v10 = .int .i64 (j : Int) ∧ Aside0 (j + kq = l1.length) ∧ Aside0 (LostS ts i s) ∧ Aside0 (NetL w.heap.size w' g s F) ∧ Aside0 (Loc Kd.string 45 w.heap.size F w' v8 ts) ∧ Aside0 (Below w.heap.size w w'))
      case atStart => exact ⟨0, F', s, ts, rfl, ⟨Nat.zero_add _⟩, HLo, HN, HO, HB⟩
      case round =>
        clear HLo HN HO HB; obtain ⟨j, F2, s2, ts2, rfl, HK, HLo, HN, HO, HB⟩ := hrel; obtain ⟨A2, c2, rfl⟩ := HO.out.slice; have hl2 : s2.lie.length = ts2.length := by rw [HLo.out.2.1, List.length_map]
        have hh2 : s2.heard.length = i := HLo.out.2.2.1
        have hlc : ts2.length ≤ c2 := HO.out.reads.2.1
        by_cases cj : j < l1.length ∧ 0 < ts2.length
        · obtain ⟨cj, ct⟩ := cj; obtain ⟨k1, rfl⟩ : ∃ k1, gk = k1 + 1 := ⟨gk - 1, by have := HK.out; omega⟩
          have cb : decide ((j : Int) < (l1.length : Int)) = true := decide_eq_true (by omega)
          have cb2 : decide (j < l1.length) = true := decide_eq_true cj
          have ctb : decide ((0 : Int) < (ts2.length : Int)) = true := decide_eq_true (by omega)
          have ctb2 : decide (0 < ts2.length) = true := decide_eq_true ct
          have hw1 : IntKind.i64.wrap ((j : Int) + 1) = ((j + 1 : Nat) : Int) := by rw [i64_w]; unfold wrap64; have := HL.out; omega
          have hp1 := fun (W : World) => pick_calls (rd l1 (j : Int)) (ts2.length : Int) (HW.out j cj) (by omega) (by have := HLo.out.1; omega) W
          obtain ⟨p, hp, hpl⟩ : ∃ p : Nat, pk (rd l1 (j : Int)) (ts2.length : Int) = (p : Int) ∧ p < ts2.length := by
            have e1 := pk_nn (rd l1 (j : Int)) (n := (ts2.length : Int)) (by omega)
            have e2 := pk_lt (rd l1 (j : Int)) (n := (ts2.length : Int)) (by omega)
            exact ⟨(pk (rd l1 (j : Int)) (ts2.length : Int)).toNat, by omega, by omega⟩
          rw [hp] at hp1
          have HP1 := Aside0.mk hp1
          have hw2 : IntKind.i64.wrap ((p : Int) + 1) = ((p + 1 : Nat) : Int) := by rw [i64_w]; unfold wrap64; have := HLo.out.1; omega
          obtain ⟨T, hT⟩ : ∃ T, T = rdOf ByteArray.empty ts2 (p : Int) := ⟨_, rfl⟩
          have htk := fun (W : World) (F : Nat → Prop) (h : NetL w.heap.size W g s2 F) => take_atL h p (by rw [hl2]; exact hpl) (by rw [hl2]; have := HLo.out.1; omega)
          rw [HLo.out.2.1, dT_rd ts2 p hpl, ← hT, show dT T = ⟨1, 2, T⟩ from rfl, ← HLo.out.2.1] at htk
          dsimp only at htk
          have HTk := Aside0.mk htk
          have HLo2 := Aside0.mk (HLo.out.erase hpl)
          obtain ⟨ad1, rfl, hx⟩ := Kd.at_int (Kd.C_below HR1.out HB.out) (j : Int) (by omega) (by omega)
          simp only [Int.toNat_natCast] at hx; have HCJ := Aside0.mk cj
          have HCT := Aside0.mk ct
          have HPL := Aside0.mk hpl
          have HT := Aside0.mk hT
          have cT : (T.toList != T.toList) = false := by simp
          clear hp hp1 htk hT hl2 hh2
          go_upto_region 17 with (first
            | (go_at_call 27; (with_reducible refine (HP1.out _).mono ?_); rintro e w' ⟨rfl, ⟨nd, rfl⟩⟩; have HN7 := Aside0.mk (HN.out.below (pw_below_drewN (Below.refl _ _) nd)); have HO7 := Aside0.mk (HO.out.below (pw_below_drewN (Below.refl _ _) nd)); have HB7 := Aside0.mk (pw_below_drewN HB.out nd))
            | (go_at_call 29; go_loud (refine (HTk.out _ _ HN7.out).mono ?_; rintro e w8 ⟨rfl, F8, hn, hF, hr⟩; have HN8 := Aside0.mk hn; have HO8 := Aside0.mk (HO7.out.near hr hF); have HB8 := Aside0.mk (HB7.out.trans (hr.toBelow (fun k hk => (HN7.out.2.1 k hk).1) HN7.out.2.2)); clear hn hF hr))
            | ((with_reducible refine gate_dst (N := 12) rfl ?_); refine box_event ?hg (N := 12) ?hd (cs := #[.int .i64 0, .int .i64 0, .string ⟨#[]⟩]) (t := 50) ?hr ?_; (case hd => rfl); (case hg => rfl); (case hr => first | (go_simp; done) | (go_simp; rfl)); intro gd hgd wb hbox hb; have HBb := Aside0.mk (below_step HB8.out hb); have HNb2 := Aside0.mk (HN8.out.below hb); have HXb := Aside0.mk (LocB.new (F := F8) hbox hgd (fun k hk => (HN8.out.2.1 k hk).2) HB8.out.size); have HOb := Aside0.mk (HO8.out.box3 hb hgd (.int .i64 1) (.int .i64 2) (.string T)); have y0_ : wb.cell? ⟨gd, 0, none⟩ = some (.int .i64 0) := (blk_cell hbox 0).trans rfl; have y1_ : wb.cell? ⟨gd, 1, none⟩ = some (.int .i64 0) := (blk_cell hbox 1).trans rfl; have y2_ : wb.cell? ⟨gd, 2, none⟩ = some (.string ⟨#[]⟩) := (blk_cell hbox 2).trans rfl; have x0_ := blk_frozen hbox 0; have x1_ := blk_frozen hbox 1; have x2_ := blk_frozen hbox 2; clear hbox hb hgd))
          obtain ⟨V, hV⟩ : ∃ V, (((wb.setCell ⟨gd, 0, none⟩ (.int .i64 1)).setCell ⟨gd, 1, none⟩ (.int .i64 2)).setCell ⟨gd, 2, none⟩ (.string T)) = V := ⟨_, rfl⟩
          have HXv := Aside0.mk (HXb.out.put3 (x := .int .i64 1) (y := .int .i64 2) (z := .string T))
          have HNv := Aside0.mk (HNb2.out.set3 HXb.out.2.1 (.int .i64 1) (.int .i64 2) (.string T))
          have HBv := Aside0.mk (Below.set3 HBb.out HXb.out.2.2 (.int .i64 1) (.int .i64 2) (.string T))
          have HOv := HOb; rw [hV] at HXv HNv HBv HOv ⊢
          clear hV x0_ x1_ x2_ y0_ y1_ y2_ HTk HN7 HO7 HB7 HN8 HO8 HB8 HBb HNb2 HXb HOb HN HO HB; obtain ⟨ad2, e2, hy⟩ := Kd.at_string HOv.out.reads.2.2 (p : Int) (by omega) (by have := HPL.out; omega)
          cases e2
          simp only [Int.toNat_natCast] at hy; rw [← HT.out] at hy
          have d2 : V.cell? ⟨gd, 2, none⟩ = some (.string T) := (blk_cell HXv.out.1 2).trans rfl
          go_still (by kernel_rfl)
          rw [show ({ heap := V.heap, tape := V.tape, drawn := V.drawn + 1, os := V.os, output := V.output } : World) = V.drew from rfl]
          go_upto_region 19 with (fail)
          have HN := Aside0.mk (HNv.out.drew.drew)
          have HO := Aside0.mk (HOv.out.drew.drew)
          have HB := Aside0.mk (below_drew1 (below_drew1 HBv.out))
          have hpc : p ≤ c2 := by have := HPL.out; omega
          have hpn : p + 1 ≤ ts2.length := HPL.out
          have hpi : (p : Int) ≤ (c2 : Int) := by omega
          have hpm : ((p + 1 : Nat) : Int) ≤ (ts2.length : Int) := by omega
          have hlci : (ts2.length : Int) ≤ (c2 : Int) := by omega
          have hq1 : (0 : Int) ≤ (p : Int) + 1 := by omega
          have hq2 : (p : Int) + 1 ≤ (ts2.length : Int) := by omega
          refine start_ (n := 11) (S := fun _ => True) (ds := []) #[false, false, false, false, false, false, false, false, false, false, false] (by kernel_rfl) rfl rfl trivial (fun hHeld => ?_)
          generalize V.drew.drew = V2 at HN HO HB ⊢
          have HOL := Aside0.mk (World.ownsRow_lit (base := V2.heap.size) (e := 45) (size := 1) V2 #[] 0 (Nat.le_refl _) (by simp [maxLen]) rfl)
          refine pure_ (i := 1) (N := some 89) (v := ?_) (a' := ?_) #[false, true, false, false, false, false, false, false, false, false, false] rfl rfl (by kernel_rfl) (fun _ _ _ h => h) (Or.inl ⟨by rfl, ?_⟩) ?_ ?_
          rotate_left
          · intro w'; go_simp; with_reducible rfl
          rotate_left; · (simp only [Act.put, List.setIfInBounds_toArray, List.set_cons_zero, List.set_cons_succ, i64_w, i32_w]; rfl)
          refine pure_ (i := 2) (N := some 90) (v := ?_) (a' := ?_) #[false, true, true, false, false, false, false, false, false, false, false] rfl rfl (by kernel_rfl) (fun _ _ _ h => h) (Or.inl ⟨by rfl, ?_⟩) ?_ ?_
          rotate_left
          · intro w'; go_simp; with_reducible rfl
          rotate_left; · (simp only [Act.put, List.setIfInBounds_toArray, List.set_cons_zero, List.set_cons_succ, i64_w, i32_w]; rfl)
          refine pure_ (i := 3) (N := some 91) (v := ?_) (a' := ?_) #[false, true, true, true, false, false, false, false, false, false, false] rfl rfl (by kernel_rfl) (fun _ _ _ h => h) (Or.inl ⟨by rfl, ?_⟩) ?_ ?_
          rotate_left
          · intro w'; go_simp; with_reducible rfl
          rotate_left; · (simp only [Act.put, List.setIfInBounds_toArray, List.set_cons_zero, List.set_cons_succ, i64_w, i32_w]; rfl)
          refine pure_ (i := 5) (N := some 93) (v := ?_) (a' := ?_) #[false, true, true, true, false, true, false, false, false, false, false] rfl rfl (by kernel_rfl) (fun _ _ _ h => h) (Or.inl ⟨by rfl, ?_⟩) ?_ ?_
          rotate_left
          · intro w'; go_simp; with_reducible rfl
          rotate_left; · (simp only [Act.put, List.setIfInBounds_toArray, List.set_cons_zero, List.set_cons_succ, i64_w, i32_w]; rfl)
          refine pure_ (i := 6) (N := some 94) (v := ?_) (a' := ?_) #[false, true, true, true, false, true, true, false, false, false, false] rfl rfl (by kernel_rfl) (fun _ _ _ h => h) (Or.inl ⟨by rfl, ?_⟩) ?_ ?_
          rotate_left
          · intro w'; go_simp; with_reducible rfl
          rotate_left; · (simp only [Act.put, List.setIfInBounds_toArray, List.set_cons_zero, List.set_cons_succ, i64_w, i32_w]; rfl)
          refine pure_ (i := 7) (N := some 95) (v := ?_) (a' := ?_) #[false, true, true, true, false, true, true, true, false, false, false] rfl rfl (by kernel_rfl) (fun _ _ _ h => h) (Or.inl ⟨by rfl, ?_⟩) ?_ ?_
          rotate_left
          · intro w'; go_simp; with_reducible rfl
          rotate_left; · (simp only [Act.put, List.setIfInBounds_toArray, List.set_cons_zero, List.set_cons_succ, i64_w, i32_w]; rfl)
          refine pure_ (i := 8) (N := some 96) (v := ?_) (a' := ?_) #[false, true, true, true, false, true, true, true, true, false, false] rfl rfl (by kernel_rfl) (fun _ _ _ h => h) (Or.inl ⟨by rfl, ?_⟩) ?_ ?_
          rotate_left
          · intro w'; go_simp; with_reducible rfl
          rotate_left; · (simp only [Act.put, List.setIfInBounds_toArray, List.set_cons_zero, List.set_cons_succ, i64_w, i32_w]; rfl)
          refine one_ (i := 0) (N := some 88) #[true, true, true, true, false, true, true, true, true, false, false] rfl rfl (by kernel_rfl) (by decide) (fun K hK => ?_)
          refine value_ (v := .slice (some ⟨V2.heap.size, 0, none⟩) 0 0) (w1 := V2.alloc (.cells #[] 45)) (by rfl) rfl (by go_simp; done) ?_
          refine hK.out _ _ trivial (fun _ => ?_)
          clear hK K; refine norm_ (a' := ?_) ?_ ?_
          rotate_left
          · show Act.put _ (some 88) _ = _
            (simp only [Act.put, List.setIfInBounds_toArray, List.set_cons_zero, List.set_cons_succ, i64_w, i32_w]; rfl)
          refine one_ (i := 4) (N := some 92) #[true, true, true, true, true, true, true, true, true, false, false] rfl rfl (by kernel_rfl) (by decide) (fun K hK => ?_)
          refine Kd.R_append_rows_step Kd.string (w0 := V2) V2.heap.size (by rfl) (.tmp 88) (.tmp 91) 58 45 (.string ⟨#[]⟩) 16 rfl Try.underlying58 info45 rfl (by decide) (by decide) (.slice (some ⟨V2.heap.size, 0, none⟩) 0 0) [] (ts2.take p) (some ad2) p c2 (fun _ => True) (fun _ => False) rfl rfl ?aO ?aR (fun _ _ h => h) (fun _ h => h.elim) (fun _ _ => trivial) ?aB ?aS ?aL ?_
          case aO => exact Kd.R_of_own HOL.out (fun _ _ => trivial)
          case aR => exact Kd.C_alloc (by have h := Kd.C_take (m := p) HO.out.reads.2.2 (by omega); rw [show (ts2.take p).length = p by rw [List.length_take]; omega] at h; exact h) _
          case aB => exact below_alloc (Below.refl _ _) _
          case aS => simp
          case aL => have := HLo.out.1; simp; omega
          intro v3 w3 ho3 hb3 hg3 hat3; clear hg3 hat3; have HO3 := Aside0.mk ho3
          have HB3 := Aside0.mk hb3
          clear ho3 hb3; refine hK.out _ _ trivial (fun _ => ?_)
          clear hK K; refine norm_ (a' := ?_) ?_ ?_
          rotate_left
          · show Act.put _ (some 92) _ = _
            (simp only [Act.put, List.setIfInBounds_toArray, List.set_cons_zero, List.set_cons_succ, i64_w, i32_w]; rfl)
          refine one_ (i := 9) (N := some 97) #[true, true, true, true, true, true, true, true, true, true, false] rfl rfl (by kernel_rfl) (by decide) (fun K hK => ?_)
          refine Kd.R_append_rows_step Kd.string (w0 := V2) V2.heap.size (by rfl) (.tmp 92) (.tmp 96) 58 45 (.string ⟨#[]⟩) 16 rfl Try.underlying58 info45 rfl (by decide) (by decide) v3 ([] ++ ts2.take p) (ts2.drop (p + 1)) _ (ts2.length - (p + 1)) _ (fun _ => True) (fun _ => False) rfl rfl ?aO ?aR (fun _ _ h => h) (fun _ h => h.elim) (fun _ _ => trivial) ?aB ?aS ?aL ?_
          case aO => exact HO3.out
          case aR => exact Kd.C_below (by have h := Kd.C_drop (m := p + 1) HO.out.reads.2.2 (by omega) hlc; rw [List.length_drop, Option.map_some, show (p + 1) * Kd.string.sz = p + 1 from Nat.mul_one _] at h; exact h) HB3.out
          case aB => exact HB3.out
          case aS => exact HB3.out.size
          case aL => have := HLo.out.1; rw [List.length_append, List.length_take]; simp; omega
          intro v4 w4 ho4 hb4 hg4 hat4; clear hg4 hat4; rw [List.nil_append] at ho4
          have HO4 := Aside0.mk (Loc.new (B := w.heap.size) (F := F8) ho4 (fun k hk => (HN.out.2.1 k hk).2) HB.out.size)
          have HN4 := Aside0.mk (HN.out.below hb4)
          have HB4 := Aside0.mk (below_step HB.out hb4)
          clear ho4 hb4 HO3 HB3 HOL HO HN HB HNv HOv HBv HXv d2 hy; refine hK.out _ _ trivial (fun _ => ?_)
          clear hK K; refine norm_ (a' := ?_) ?_ ?_
          rotate_left
          · show Act.put _ (some 97) _ = _
            (simp only [Act.put, List.setIfInBounds_toArray, List.set_cons_zero, List.set_cons_succ, i64_w, i32_w]; rfl)
          refine pure_ (i := 10) (N := some 8) (v := ?_) (a' := ?_) #[true, true, true, true, true, true, true, true, true, true, true] rfl rfl (by kernel_rfl) (fun _ _ _ h => h) (Or.inl ⟨by rfl, ?_⟩) ?_ ?_
          rotate_left
          · intro w'; go_simp; with_reducible rfl
          rotate_left; · (simp only [Act.put, List.setIfInBounds_toArray, List.set_cons_zero, List.set_cons_succ, i64_w, i32_w]; rfl)
          refine done_ (by kernel_rfl) ?_
          generalize (if c2 = p + 1 then some ad2 else some { block := ad2.block, off := ad2.off + (p + 1) } : Option Addr) = Ax_
          obtain ⟨ts3, h3⟩ : ∃ ts3, ts3 = ts2.take p ++ ts2.drop (p + 1) := ⟨_, rfl⟩
          rw [← h3] at HO4
          have HLo3 := HLo2; rw [← h3] at HLo3
          obtain ⟨A3, c3, rfl⟩ := HO4.out.slice; clear h3 HLo2 hpc hpn hpi hpm hlci hlc hq1 hq2 cb cb2 ctb ctb2; have hl3 : ({ s2 with lie := s2.lie.eraseIdx p } : NS).lie.length = ts3.length := by rw [HLo3.out.2.1, List.length_map]
          have HLi := Aside0.mk (fun (W : World) (F : Nat → Prop) (h : NetIn W g F { s2 with lie := s2.lie.eraseIdx p }) => net_Net_Lie.calls W g F _ h (by rw [hl3]; have := HLo3.out.1; omega))
          rw [HLo3.out.2.1] at HLi
          go_upto_region 23 with (go_at_call 58; go_loud (refine (HLi.out _ _ HN4.out.1).mono ?_; rintro e w7 ⟨vl, rfl, hl, hb⟩; obtain ⟨A7, c7, rfl⟩ := Kd.R_slice hl; have HN7 := Aside0.mk (HN4.out.below hb); have HB7 := Aside0.mk (below_step HB4.out hb); have HL7 := Aside0.mk (Loc.new (B := w.heap.size) (F := F8) hl (fun k hk => (HN4.out.2.1 k hk).2) HB4.out.size); have HO7 := Aside0.mk (HO4.out.below hb); have e7 : (ts3.map dT).length = ts3.length := List.length_map _; clear hb hl))
          rw [e7] at HL7
          clear e7 HLi; go_wp2; go_loopg [15] ts3.length (fun kq v15 w' => ∃ (q : Nat), v15 = .int .i64 (q : Int) ∧ Aside0 (q + kq = ts3.length) ∧ Aside0 (NetL w.heap.size w' g { s2 with lie := s2.lie.eraseIdx p } F8) ∧ Aside0 (Loc Kd.string 45 w.heap.size F8 w' (.slice A3 ts3.length c3) ts3) ∧ Aside0 (Loc k50 50 w.heap.size F8 w' (.slice A7 ts3.length c7) (ts3.map dT)) ∧ Aside0 (Below w.heap.size w w'))
          case atStart => exact ⟨0, rfl, ⟨Nat.zero_add _⟩, HN7, HO7, HL7, HB7⟩
          case round =>
            clear HN7 HO7 HL7 HB7 HO4 HN4 HB4; obtain ⟨q_, rfl, HK3, HN, HO, HL3, HB⟩ := hrel; by_cases cq : q_ < ts3.length
            · have cb : decide ((q_ : Int) < (ts3.length : Int)) = true := decide_eq_true (by omega)
              have cb2 : decide (q_ < ts3.length) = true := decide_eq_true cq
              have hw3 : IntKind.i64.wrap ((q_ : Int) + 1) = ((q_ + 1 : Nat) : Int) := by rw [i64_w]; unfold wrap64; have := HLo3.out.1; omega
              obtain ⟨ad3, e3, hz⟩ := Kd.at_string HO.out.reads.2.2 (q_ : Int) (by omega) (by omega)
              cases e3
              obtain ⟨ad7, e4, hu0, hu1, hu2⟩ := at_T50 HL3.out.reads.2.2 (q_ : Int) (by omega) (by rw [List.length_map]; omega)
              cases e4
              rw [dT_rd ts3 q_ cq, show (dT (rdOf ByteArray.empty ts3 (q_ : Int))).f2 = rdOf ByteArray.empty ts3 (q_ : Int) from rfl] at hu2
              obtain ⟨T3, hT3⟩ : ∃ T3, T3 = rdOf ByteArray.empty ts3 (q_ : Int) := ⟨_, rfl⟩
              rw [← hT3] at hz hu2
              simp only [Int.toNat_natCast] at hz hu2
              have cT3 : (T3.toList != T3.toList) = false := by simp
              have HCQ := Aside0.mk cq
              clear hT3 hu0 hu1; go_upto_region 26 with (fail)
              go_still (by kernel_rfl)
              rw [show ({ heap := wr.heap, tape := wr.tape, drawn := wr.drawn + 1, os := wr.os, output := wr.output } : World) = wr.drew from rfl]
              go_wp2; cases gk with
              | zero => have := HK3.out; have := HCQ.out; omega
              | succ k2 =>
                go_roundg k2
                case measure => omega
                case rel => exact ⟨q_ + 1, rfl, ⟨by have := HK3.out; omega⟩, ⟨HN.out.drew⟩, ⟨HO.out.drew⟩, ⟨HL3.out.drew⟩, ⟨below_drew1 HB.out⟩⟩
            · have cb : decide ((q_ : Int) < (ts3.length : Int)) = false := decide_eq_false (by omega)
              have cb2 : decide (q_ < ts3.length) = false := decide_eq_false cq
              clear cq; go_wp2; go_roundg k1
              case measure => omega
              case rel => exact ⟨j + 1, F8, _, ts3, rfl, ⟨by have := HK.out; omega⟩, HLo3, HN, HO, HB⟩
        · have HM := Aside0.mk (fun (W : World) (F : Nat → Prop) (h : NetIn W g F s2) => net_Net_Many.calls W g F _ h)
          have HHe := Aside0.mk (fun (W : World) (F : Nat → Prop) (h : NetIn W g F s2) => net_Net_Heard.calls W g F _ h (by have := HLo.out.2.2.2; omega))
          by_cases cj2 : j < l1.length
          case' pos =>
            have ct : ts2.length = 0 := by
              by_cases c : ts2.length = 0
              · exact c
              · exact absurd ⟨cj2, by omega⟩ cj
            have cb : decide ((j : Int) < (l1.length : Int)) = true := decide_eq_true (by omega)
            have cb2 : decide (j < l1.length) = true := decide_eq_true cj2
            have ctb : decide ((0 : Int) < (ts2.length : Int)) = false := decide_eq_false (by omega)
            have ctb2 : decide (0 < ts2.length) = false := decide_eq_false (by omega)
            clear ct
          case' neg =>
            have cb : decide ((j : Int) < (l1.length : Int)) = false := decide_eq_false (by omega)
            have cb2 : decide (j < l1.length) = false := decide_eq_false cj2
          all_goals
            clear cj cj2
            go_wp2_with (first
              | (go_at_call 30; go_loud (refine (HM.out _ _ HN.out.1).mono ?_; rintro e w' ⟨rfl, rfl⟩))
              | (go_at_call 54; go_loud (refine (HHe.out _ _ HN.out.1).mono ?_; rintro e w5 ⟨vh, rfl, hlh, hb⟩; obtain ⟨A5, c5, rfl⟩ := Kd.R_slice hlh; have HB5 := Aside0.mk (below_step HB.out hb); clear hb hlh)))
            go_ret
            exact ⟨rfl, HB5.out⟩
def gemotlaw8_NetLost.f (a0 : Int) (l1 : List Int) : Option (Bool) := if In64 a0 ∧ ∀ x ∈ l1, In64 x then some true else none
theorem gemotlaw8_NetLost.calls (a0 : Int) (A1 : Option Addr) (c1 : Nat) (l1 : List Int) (r : Bool) (w : World) (hr1 : Kd.C (Kd.int .i64) w A1 l1.length l1) (hc1 : l1.length ≤ c1) (h : gemotlaw8_NetLost.f a0 l1 = some r) :
    Calls Try.prog 11 #[.int .i64 a0, .slice A1 l1.length c1] w fun e w' => e = .returned (.bool r) ∧ Below w.heap.size w w' := by
  unfold gemotlaw8_NetLost.f at h
  split at h
  case isFalse => cases h
  rename_i hs
  cases h
  by_cases hl : l1.length ≤ 60
  · exact gemotlaw8_NetLost.good a0 A1 c1 l1 w hr1 hl hs.1 hs.2
  · exact gemotlaw8_NetLost.long a0 A1 c1 l1 w (by omega)

end Go.Proofs.Ytagceackfnkifaa.F
