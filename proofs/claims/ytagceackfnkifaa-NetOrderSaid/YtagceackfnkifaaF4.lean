-- Laid by mk.py (a program of this session) over the seat's translation.
import Derived.Test.YtagceackfnkifaaF0
import Derived.Test.YtagceackfnkifaaF23
import Derived.Test.YtagceackfnkifaaF24
import Derived.Test.YtagceackfnkifaaB1
import Derived.Test.YtagceackfnkifaaF30
import Derived.Test.YtagceackfnkifaaF69
import Derived.RegionTactic
import Derived.BigRegion
import Derived.StillTailTactics
import Derived.Deep.RegionWith
import Derived.Deep.LoopGhost
import Derived.Test.YtagceackfnkifaaLNetLaw
namespace Go.Proofs.Ytagceackfnkifaa.F
open Go.RowKit Go.Proofs.YtagceackfnkifaaW.PrintWords Go.Proofs.YtagceackfnkifaaW.PrintLast Go.Proofs.YtagceackfnkifaaW.PrintMore
attribute [local go_sem] max2_int min2_int max_two min_two max_three min_three max_four min_four
set_option linter.unusedVariables false
set_option linter.unusedSimpArgs false

/-! ### gemotlaw8_NetOrder: function 4 -/
open Go.Maps Go.Proofs.Ytagceackfnkifaa.Pure
set_option maxHeartbeats 4000000 in
set_option maxRecDepth 100000 in
theorem gemotlaw8_NetOrder.long (A0 : Option Addr) (c0 : Nat) (l0 : List Int) (a1 : Int) (w : World) (hl : 50 < l0.length) : Calls Try.prog 4 #[.slice A0 l0.length c0, .int .i64 a1] w fun e w' => e = .returned (.bool true) ∧ Below w.heap.size w w' := by
  have HNw := Aside0.mk (fun W => newL W)
  have HSh := Aside0.mk (fun W => gemotlaw8_shown.any W)
  have q : decide ((50 : Int) < (l0.length : Int)) = true := decide_eq_true (by omega)
  clear hl; go_enter Try.func4, Try.ntmps4
  go_wp2_with (first
    | (go_at_call 23; go_loud (refine (HSh.out _).mono ?_; rintro e w1 ⟨rfl, hb⟩; have HB1 := Aside0.mk hb; clear hb))
    | (go_at_call 24; go_loud (refine (HNw.out _).mono ?_; rintro e w2 ⟨g, F, rfl, hn, hb⟩; have HB2 := Aside0.mk (below_step HB1.out hb); clear hn hb)))
  go_ret
  exact ⟨rfl, HB2.out⟩
def fr (x : Int) : S50 := ⟨1, 2, numF (IntKind.u64.wrap (pk x 100))⟩
set_option maxHeartbeats 8000000 in
set_option maxRecDepth 100000 in
theorem gemotlaw8_NetOrder.good (A0 : Option Addr) (c0 : Nat) (l0 : List Int) (a1 : Int) (w : World) (hr0 : Kd.C (Kd.int .i64) w A0 l0.length l0) (hl : l0.length ≤ 50) (hw : ∀ x ∈ l0, In64 x) (h1 : In64 a1) : Calls Try.prog 4 #[.slice A0 l0.length c0, .int .i64 a1] w fun e w' => e = .returned (.bool true) ∧ Below w.heap.size w w' := by
  have HNw := Aside0.mk (fun W => newL W)
  have HSh := Aside0.mk (fun W => gemotlaw8_shown.any W)
  have q : decide ((50 : Int) < (l0.length : Int)) = false := decide_eq_false (by omega)
  have HR0 := Aside0.mk hr0
  have HL := Aside0.mk hl
  have HW := Aside0.mk (show ∀ i : Nat, i < l0.length → In64 (rd l0 (i : Int)) from fun i h => by
    have e : rd l0 (i : Int) = l0[i] := by unfold rd; simp [List.getD_eq_getElem?_getD, List.getElem?_eq_getElem h]
    rw [e]; exact hw _ (List.getElem_mem h))
  have H1 := Aside0.mk h1
  have HP := Aside0.mk (fun (x : Int) (hx : In64 x) (W : World) => pick_calls x 100 hx (by decide) (by decide) W)
  have HNb := Aside0.mk (fun (n : Int) (W : World) => numb_calls n W)
  have HS := Aside0.mk (fun (W : World) (g : Nat) (F : Nat → Prop) (s : NS) (n : Int) (h : NetL w.heap.size W g s F) (h1 : s.lie.length < 400) (h2 : s.many < 1000000000) => sendNumL h 1 2 n (by decide) (by decide) h1 h2)
  clear hr0 hl hw h1; go_enter Try.func4, Try.ntmps4
  go_wp2_with (first
    | (go_at_call 23; go_loud (refine (HSh.out _).mono ?_; rintro e w1 ⟨rfl, hb⟩; have HB1 := Aside0.mk hb; clear hb))
    | (go_at_call 24; go_loud (refine (HNw.out _).mono ?_; rintro e w2 ⟨g, F, rfl, hn, hb⟩; have HN2 := Aside0.mk (hn.lower HB1.out.size); have HB2 := Aside0.mk (below_step HB1.out hb); clear hn hb)))
  go_loopg [7] l0.length (fun kq v7 w' => ∃ (i : Nat) (F : Nat → Prop) (s : NS), v7 = .int .i64 (i : Int) ∧ Aside0 (i + kq = l0.length) ∧ Aside0 (s.lie = (l0.take i).map fr ∧ s.many ≤ i) ∧ Aside0 (NetL w.heap.size w' g s F) ∧ Aside0 (Below w.heap.size w w'))
  case atStart => exact ⟨0, F, ⟨[], [], 0⟩, rfl, ⟨Nat.zero_add _⟩, ⟨rfl, Nat.le_refl _⟩, HN2, HB2⟩
  case round =>
    clear HNw HSh HN2 HB2 HB1; obtain ⟨i, F', s, rfl, HK, HLi, HN, HB⟩ := hrel; by_cases ci : i < l0.length
    · have cb : decide ((i : Int) < (l0.length : Int)) = true := decide_eq_true (by omega)
      have cb2 : decide (i < l0.length) = true := decide_eq_true ci
      obtain ⟨ad, rfl, hx⟩ := Kd.at_int (Kd.C_below HR0.out HB.out) (i : Int) (by omega) (by omega)
      simp only [Int.toNat_natCast] at hx; have hw1 : IntKind.i64.wrap ((i : Int) + 1) = ((i + 1 : Nat) : Int) := by rw [i64_w]; unfold wrap64; have := HL.out; omega
      have hin := HW.out i ci
      have HIN := Aside0.mk hin
      have hll : s.lie.length < 400 := by rw [HLi.out.1, List.length_map, List.length_take]; have := HL.out; omega
      have hmm : s.many < 1000000000 := by have := HLi.out.2; have := HL.out; omega
      have HLL := Aside0.mk hll
      have HMM := Aside0.mk hmm
      have HCI := Aside0.mk ci
      clear hin hll hmm
      go_wp2_with (first
        | (go_at_call 27; (with_reducible refine (HP.out _ HIN.out _).mono ?_); rintro e w' ⟨rfl, ⟨nd, rfl⟩⟩)
        | (go_at_call 26; (with_reducible refine (HNb.out _ _).mono ?_); rintro e w3 ⟨rfl, hb⟩; have HN3 := Aside0.mk ((HN.out.below (pw_below_drewN (Below.refl _ _) nd)).below hb); have HB3 := Aside0.mk (below_step (pw_below_drewN HB.out nd) hb); clear hb)
        | (go_at_call 25; go_loud (refine (HS.out _ _ _ _ _ HN3.out HLL.out HMM.out).mono ?_; rintro e w4 ⟨rfl, F4, hn, hF, hr⟩; have HN4 := Aside0.mk hn; have HB4 := Aside0.mk (HB3.out.trans (hr.toBelow (fun k hk => (HN3.out.2.1 k hk).1) HN3.out.2.2)); clear hn hF hr)))
      cases gk with
      | zero => have := HK.out; have := HCI.out; omega
      | succ k1 =>
        go_roundg k1
        case measure => omega
        case rel =>
          refine ⟨i + 1, F4, _, rfl, ⟨by have := HK.out; omega⟩, ⟨?_, ?_⟩, HN4, HB4⟩
          · show s.lie ++ [fr (rd l0 (i : Int))] = _
            rw [HLi.out.1, take_rd l0 i HCI.out, List.map_append]
            rfl
          · exact Nat.succ_le_succ HLi.out.2
    · have cb : decide ((i : Int) < (l0.length : Int)) = false := decide_eq_false (by omega)
      have cb2 : decide (i < l0.length) = false := decide_eq_false ci
      have hi : i = l0.length := by have := HK.out; omega
      have h3 := HLi.out.1; rw [hi, List.take_length] at h3
      have HLs := Aside0.mk h3
      have HMs := Aside0.mk (show s.many ≤ 50 by have := HLi.out.2; have := HL.out; omega)
      have HOL := Aside0.mk (World.ownsRow_lit (base := wr.heap.size) (e := 3) (size := 1) wr #[] 0 (Nat.le_refl _) (by simp [maxLen]) rfl)
      clear h3 hi HK HLi; go_upto_region 10 with ((with_reducible refine gate_builtin (b := .append) (xs := #[.tmp 49, .tmp 50]) rfl ?_); at_builtin; refine Kd.R_append_row (Value.int .i64) (0 : Int) (h1 := fun _ => rfl) (w0 := wr) wr.heap.size rfl (.tmp 49) (.tmp 50) 22 3 (.int .i64 0) 8 rfl Try.underlying22 slices_Clone_int_int.info rfl (by decide) _ [] l0 A0 l0.length c0 (fun _ => True) rfl rfl (fun _ _ => trivial) ?aO ?aR ?aB ?aS ?aL ?_; (case aO => exact Kd.R_of_own HOL.out (fun _ _ => trivial)); (case aR => exact Kd.C_alloc (Kd.C_below HR0.out HB.out) _); (case aB => exact below_alloc (Below.refl _ _) _); (case aS => simp); (case aL => have := HL.out; simp; omega); intro v1 w5 ho hb hg hat; rw [List.nil_append] at ho; have HO5 := Aside0.mk (Loc.new (B := w.heap.size) (F := F') ho (fun k hk => (HN.out.2.1 k hk).2) HB.out.size); have HN5 := Aside0.mk (HN.out.below hb); have HB5 := Aside0.mk (below_step HB.out hb); clear ho hb hg hat)
      have HR5 := Aside0.mk (Kd.C_below HR0.out HB5.out)
      clear HOL HB HN ci cb cb2; by_cases cz : l0.length = 0
      case' pos =>
        have cp : decide ((0 : Int) < (l0.length : Int)) = false := decide_eq_false (by omega)
        have cp2 : decide (0 < l0.length) = false := decide_eq_false (by omega)
        clear cz; obtain ⟨ws, hws⟩ : ∃ ws, ws = l0 := ⟨_, rfl⟩
        have HLO := Aside0.mk (show Loc (Kd.int .i64) 3 w.heap.size F' w5 v1 ws by rw [hws]; exact HO5.out)
        have HSL := Aside0.mk (show s.lie = ws.map fr by rw [hws]; exact HLs.out)
        have HLW := Aside0.mk (show ws.length ≤ 51 by rw [hws]; have := HL.out; omega)
        have HWW := Aside0.mk (show ∀ j : Nat, j < ws.length → In64 (rd ws (j : Int)) by rw [hws]; exact HW.out)
        have HMM := Aside0.mk (show s.many ≤ 50 from HMs.out)
        have HNN := Aside0.mk (show NetL w.heap.size w5 g ⟨ws.map fr, s.heard, s.many⟩ F' by rw [← HSL.out]; exact HN5.out)
        have HBB := HB5; clear HO5 HLs HN5 HB5 HMs hws HW HL HS; go_upto_region 15 with (fail)
      case' neg =>
        have cp : decide ((0 : Int) < (l0.length : Int)) = true := decide_eq_true (by omega)
        have cp2 : decide (0 < l0.length) = true := decide_eq_true (by omega)
        have hp2 := fun W => pick_calls a1 l0.length H1.out (by omega) (by have := HL.out; omega) W
        obtain ⟨k, hk, hkl⟩ : ∃ k : Nat, pk a1 (l0.length : Int) = (k : Int) ∧ k < l0.length := by
          have e1 := pk_nn a1 (n := (l0.length : Int)) (by omega)
          have e2 := pk_lt a1 (n := (l0.length : Int)) (by omega)
          exact ⟨(pk a1 (l0.length : Int)).toNat, by omega, by omega⟩
        rw [hk] at hp2
        have HP2 := Aside0.mk hp2
        have HKL := Aside0.mk hkl
        have hlen : s.lie.length = l0.length := by rw [HLs.out, List.length_map]
        have hD := fun (W : World) (h : NetL w.heap.size W g s F') => doubleAtL h (k : Int) (by omega) (by rw [hlen]; omega) (by rw [hlen]; have := HL.out; omega)
        have hrd : rd_T50 s.lie (k : Int) = fr (rd l0 (k : Int)) := by
          rw [HLs.out]
          exact rd_mapI fr _ l0 k hkl
        rw [hrd] at hD
        have HD := Aside0.mk hD
        obtain ⟨ad, rfl, hx⟩ := Kd.at_int HR5.out (k : Int) (by omega) (by omega)
        simp only [Int.toNat_natCast] at hx; have HX := Aside0.mk hx
        obtain ⟨A1, c1, rfl⟩ := HO5.out.slice; have HL2 := Aside0.mk (show l0.length < 17592186044416 by have := HL.out; omega)
        clear hk hp2 hlen hD hrd hx
        go_upto_region 15 with (first
          | (go_at_call 27; (with_reducible refine (HP2.out _).mono ?_); rintro e w' ⟨rfl, ⟨nd, rfl⟩⟩)
          | (go_at_call 28; go_loud (refine (HD.out _ (HN5.out.below (pw_below_drewN (Below.refl _ _) nd))).mono ?_; rintro e w6 ⟨rfl, F6, hn, hF, hr⟩; have HB6 := Aside0.mk ((pw_below_drewN HB5.out nd).trans (hr.toBelow (fun k hk => (HN5.out.2.1 k hk).1) HN5.out.2.2)); have HO6 := Aside0.mk ((HO5.out.below (pw_below_drewN (Below.refl _ _) nd)).near hr hF); have HN6 := Aside0.mk hn; obtain ⟨ad2, e2, hx2⟩ := Kd.at_int (Kd.C_below HR0.out HB6.out) (k : Int) (by omega) (by have := HKL.out; omega); cases e2; simp only [Int.toNat_natCast] at hx2; clear hn hF hr))
          | ((with_reducible refine gate_builtin (b := .append) (xs := #[.tmp 63, .tmp 68]) rfl ?_); at_builtin; refine Kd.R_append (Kd.int .i64) (w0 := w) w.heap.size rfl (.tmp 63) (.tmp 68) 22 3 (.int .i64 0) 8 rfl Try.underlying22 slices_Clone_int_int.info rfl (by decide) (by omega) (.slice A1 l0.length c1) l0 (rd l0 (k : Int)) [.int .i64 (rd l0 (k : Int))] (fun k => ¬ F6 k) (fun _ => False) rfl rfl ?aP (fun _ hk => hk.elim) ?aF ?aO ?aB ?aS ?aL ?_; (case aP => exact rfl); (case aB => exact HB6.out); (case aF => exact fun k_ hk => HN6.out.fresh hk); (case aO => exact loc_R HO6.out); (case aS => exact HB6.out.size); (case aL => have := HL2.out; omega); intro v2 w7 ho hb hg hat; have HO7 := Aside0.mk (loc_of ho); have HN7 := Aside0.mk (NetL.grown HN6.out hg (fun k e => (loc_R HO6.out).1 k e)); have HB7 := Aside0.mk hb; clear ho hb hg hat))
        obtain ⟨ws, hws⟩ : ∃ ws, ws = l0 ++ [rd l0 (k : Int)] := ⟨_, rfl⟩
        have hwl : ws.length = l0.length + 1 := by rw [hws, List.length_append, List.length_singleton]
        have HLO := Aside0.mk (show Loc (Kd.int .i64) 3 w.heap.size F6 w7 v2 ws by rw [hws]; exact HO7.out)
        have HSL := Aside0.mk (show s.lie ++ [fr (rd l0 (k : Int))] = ws.map fr by rw [hws, HLs.out, List.map_append]; rfl)
        have HLW := Aside0.mk (show ws.length ≤ 51 by rw [hwl]; have := HL.out; omega)
        have HWW := Aside0.mk (show ∀ j : Nat, j < ws.length → In64 (rd ws (j : Int)) by
          intro j hj; by_cases c : j < l0.length
          · have := HW.out j c
            have e : rd ws (j : Int) = rd l0 (j : Int) := by rw [hws]; unfold rd; simp [List.getD_eq_getElem?_getD, List.getElem?_append_left c]
            rw [e]; exact this
          · have e : rd ws (j : Int) = rd l0 (k : Int) := by
              have : j = l0.length := by omega
              rw [hws, this]; unfold rd; simp [List.getD_eq_getElem?_getD]
            rw [e]; exact HW.out k HKL.out)
        have HMM := Aside0.mk (show s.many ≤ 50 from HMs.out)
        have HNN := Aside0.mk (show NetL w.heap.size w7 g ⟨ws.map fr, s.heard, s.many⟩ F6 by rw [← HSL.out]; exact HN7.out)
        have HBB := HB7; clear HO5 HLs HN5 HB5 HMs hws hwl HW HL HS HP2 HKL HD HX HL2 HB6 HO6 HN6 HO7 HN7 HB7
      all_goals
        obtain ⟨A2, c2, rfl⟩ := HLO.out.slice; clear HSL HMM; go_wp2; go_loopg [10] ws.length (fun kq v10 w' => ∃ (j : Nat) (F : Nat → Prop) (hs : List ByteArray) (m : Nat), v10 = .int .i64 (j : Int) ∧ Aside0 (j + kq = ws.length) ∧ Aside0 (NetL w.heap.size w' g ⟨(ws.drop j).map fr, hs, m⟩ F) ∧ Aside0 (Loc (Kd.int .i64) 3 w.heap.size F w' (.slice A2 ws.length c2) ws) ∧ Aside0 (Below w.heap.size w w'))
        case atStart => exact ⟨0, _, s.heard, s.many, rfl, ⟨Nat.zero_add _⟩, HNN, HLO, HBB⟩
        case round =>
          clear HNN HLO HBB; obtain ⟨j, F8, hs, m, rfl, HK, HN, HLO, HB⟩ := hrel; by_cases cj : j < ws.length
          · have cb : decide ((j : Int) < (ws.length : Int)) = true := decide_eq_true (by omega)
            have cb2 : decide (j < ws.length) = true := decide_eq_true cj
            have hw1 : IntKind.i64.wrap ((j : Int) + 1) = ((j + 1 : Nat) : Int) := by rw [i64_w]; unfold wrap64; have := HLW.out; omega
            obtain ⟨T, hT⟩ : ∃ T, T = numF (IntKind.u64.wrap (pk (rd ws (j : Int)) 100)) := ⟨_, rfl⟩
            have hN := HN.out; rw [drop_rd ws j cj, List.map_cons, show fr (rd ws (j : Int)) = ⟨1, 2, T⟩ by rw [hT]; rfl] at hN
            have hTk := takeFirstL hN (by rw [List.length_map, List.length_drop]; have := HLW.out; omega)
            dsimp only at hTk
            have hnb := fun (W : World) => numb_calls (IntKind.u64.wrap (pk (rd ws (j : Int)) 100)) W
            rw [← hT] at hnb
            have HTk := Aside0.mk hTk
            have HNb1 := Aside0.mk hnb
            have HP1 := Aside0.mk (fun (W : World) => pick_calls (rd ws (j : Int)) 100 (HWW.out j cj) (by decide) (by decide) W)
            have cT : (T.toList != T.toList) = false := by simp
            clear hN hTk hnb hT
            go_upto_region 19 with (first
              | (go_at_call 29; go_loud (refine (HTk.out).mono ?_; rintro e wa ⟨rfl, F9, hn, hF, hr⟩; have HNa := Aside0.mk hn; have HLa := Aside0.mk (HLO.out.near hr hF); have HBa := Aside0.mk (HB.out.trans (hr.toBelow (fun k hk => (HN.out.2.1 k hk).1) HN.out.2.2)); clear hn hF hr))
              | ((with_reducible refine gate_dst (N := 11) rfl ?_); refine box_event ?hg (N := 11) ?hd (cs := #[.int .i64 0, .int .i64 0, .string ⟨#[]⟩]) (t := 50) ?hr ?_; (case hd => rfl); (case hg => rfl); (case hr => first | (go_simp; done) | (go_simp; rfl)); intro gd hgd wb hbox hb; have HBb := Aside0.mk (below_step HBa.out hb); have HNb := Aside0.mk (HNa.out.below hb); have HXb := Aside0.mk (LocB.new (F := F9) hbox hgd (fun k hk => (HNa.out.2.1 k hk).2) HBa.out.size); have HLb := Aside0.mk (HLa.out.box3 hb hgd (.int .i64 1) (.int .i64 2) (.string T)); have y0 : wb.cell? ⟨gd, 0, none⟩ = some (.int .i64 0) := (blk_cell hbox 0).trans rfl; have y1 : wb.cell? ⟨gd, 1, none⟩ = some (.int .i64 0) := (blk_cell hbox 1).trans rfl; have y2 : wb.cell? ⟨gd, 2, none⟩ = some (.string ⟨#[]⟩) := (blk_cell hbox 2).trans rfl; have x0 := blk_frozen hbox 0; have x1 := blk_frozen hbox 1; have x2 := blk_frozen hbox 2; clear hbox hb hgd))
            obtain ⟨V, hV⟩ : ∃ V, (((wb.setCell ⟨gd, 0, none⟩ (.int .i64 1)).setCell ⟨gd, 1, none⟩ (.int .i64 2)).setCell ⟨gd, 2, none⟩ (.string T)) = V := ⟨_, rfl⟩
            have HXv := Aside0.mk (HXb.out.put3 (x := .int .i64 1) (y := .int .i64 2) (z := .string T))
            have HNv := Aside0.mk (HNb.out.set3 HXb.out.2.1 (.int .i64 1) (.int .i64 2) (.string T))
            have HBv := Aside0.mk (Below.set3 HBb.out HXb.out.2.2 (.int .i64 1) (.int .i64 2) (.string T))
            have HLv := HLb; rw [hV] at HXv HNv HBv HLv ⊢
            clear hV x0 x1 x2 y0 y1 y2 HTk HNa HLa HBa HBb HNb HXb HLb HN HLO HB; obtain ⟨ad3, e3, hy⟩ := Kd.at_int HLv.out.reads.2.2 (j : Int) (by omega) (by omega)
            cases e3
            simp only [Int.toNat_natCast] at hy; have d0 : V.cell? ⟨gd, 0, none⟩ = some (.int .i64 1) := (blk_cell HXv.out.1 0).trans rfl
            have d1 : V.cell? ⟨gd, 1, none⟩ = some (.int .i64 2) := (blk_cell HXv.out.1 1).trans rfl
            have d2 : V.cell? ⟨gd, 2, none⟩ = some (.string T) := (blk_cell HXv.out.1 2).trans rfl
            have D0 := Aside0.mk d0
            have D1 := Aside0.mk d1
            have D2 := Aside0.mk d2
            have HY := Aside0.mk hy
            clear d0 d1 d2 hy; refine start_ (n := 24) (S := fun w' => Below V.heap.size V w') (ds := []) #[false, false, false, false, false, false, false, false, false, false, false, false, false, false, false, false, false, false, false, false, false, false, false, false] (by kernel_rfl) rfl rfl (below_drew1 (Below.refl _ _)) (fun hHeld => ?_)
            generalize hWd : V.drew = Wd at hHeld ⊢
            clear hWd; refine pure_ (i := 0) (N := some 81) (v := ?_) (a' := ?_) #[true, false, false, false, false, false, false, false, false, false, false, false, false, false, false, false, false, false, false, false, false, false, false, false] rfl rfl (by kernel_rfl) (fun _ _ _ h => h) (Or.inl ⟨by rfl, ?_⟩) ?_ ?_
            rotate_left
            · intro w'; go_simp; with_reducible rfl
            rotate_left; · (simp only [Act.put, List.setIfInBounds_toArray, List.set_cons_zero, List.set_cons_succ, i64_w, i32_w]; rfl)
            refine pure_ (i := 1) (N := some 82) (v := ?_) (a' := ?_) #[true, true, false, false, false, false, false, false, false, false, false, false, false, false, false, false, false, false, false, false, false, false, false, false] rfl rfl (by kernel_rfl) (fun _ _ _ h => h) (Or.inl ⟨by rfl, ?_⟩) ?_ ?_
            rotate_left
            · intro w'; go_simp; with_reducible rfl
            rotate_left; · (simp only [Act.put, List.setIfInBounds_toArray, List.set_cons_zero, List.set_cons_succ, i64_w, i32_w]; rfl)
            refine pure_ (i := 2) (N := some 83) (v := ?_) (a' := ?_) #[true, true, true, false, false, false, false, false, false, false, false, false, false, false, false, false, false, false, false, false, false, false, false, false] rfl rfl (by kernel_rfl) (fun _ _ _ h => h) (Or.inl ⟨by rfl, ?_⟩) ?_ ?_
            rotate_left
            · intro w'; go_simp; with_reducible rfl
            rotate_left; · (simp only [Act.put, List.setIfInBounds_toArray, List.set_cons_zero, List.set_cons_succ, i64_w, i32_w]; rfl)
            refine pure_ (i := 3) (N := some 84) (v := ?_) (a' := ?_) #[true, true, true, true, false, false, false, false, false, false, false, false, false, false, false, false, false, false, false, false, false, false, false, false] rfl rfl (by kernel_rfl) (fun _ _ _ h => h) (Or.inl ⟨by rfl, ?_⟩) ?_ ?_
            rotate_left
            · intro w'; go_simp; with_reducible rfl
            rotate_left; · (simp only [Act.put, List.setIfInBounds_toArray, List.set_cons_zero, List.set_cons_succ, i64_w, i32_w]; rfl)
            refine take_ (i := 4) (N := some 85) (v := ?_) (a' := ?_) #[true, true, true, true, true, false, false, false, false, false, false, false, false, false, false, false, false, false, false, false, false, false, false, false] rfl rfl (by kernel_rfl) (fun _ _ _ h => h) (Or.inl ⟨by rfl, ?_⟩) hHeld ?_ ?_
            rotate_left
            · intro w' hs_; have s0_ := pw_cell_below hs_ D2.out; clear hs_; go_simp; with_reducible rfl
            rotate_left; · (simp only [Act.put, List.setIfInBounds_toArray, List.set_cons_zero, List.set_cons_succ, i64_w, i32_w]; rfl)
            refine pure_ (i := 5) (N := some 86) (v := ?_) (a' := ?_) #[true, true, true, true, true, true, false, false, false, false, false, false, false, false, false, false, false, false, false, false, false, false, false, false] rfl rfl (by kernel_rfl) (fun _ _ _ h => h) (Or.inl ⟨by rfl, ?_⟩) ?_ ?_
            rotate_left
            · intro w'; go_simp; with_reducible rfl
            rotate_left; · (simp only [Act.put, List.setIfInBounds_toArray, List.set_cons_zero, List.set_cons_succ, i64_w, i32_w]; rfl)
            refine pure_ (i := 6) (N := some 87) (v := ?_) (a' := ?_) #[true, true, true, true, true, true, true, false, false, false, false, false, false, false, false, false, false, false, false, false, false, false, false, false] rfl rfl (by kernel_rfl) (fun _ _ _ h => h) (Or.inl ⟨by rfl, ?_⟩) ?_ ?_
            rotate_left
            · intro w'; go_simp; with_reducible rfl
            rotate_left; · (simp only [Act.put, List.setIfInBounds_toArray, List.set_cons_zero, List.set_cons_succ, i64_w, i32_w]; rfl)
            refine pure_ (i := 7) (N := some 88) (v := ?_) (a' := ?_) #[true, true, true, true, true, true, true, true, false, false, false, false, false, false, false, false, false, false, false, false, false, false, false, false] rfl rfl (by kernel_rfl) (fun _ _ _ h => h) (Or.inl ⟨by rfl, ?_⟩) ?_ ?_
            rotate_left
            · intro w'; go_simp; with_reducible rfl
            rotate_left; · (simp only [Act.put, List.setIfInBounds_toArray, List.set_cons_zero, List.set_cons_succ, i64_w, i32_w]; rfl)
            refine take_ (i := 8) (N := some 89) (v := ?_) (a' := ?_) #[true, true, true, true, true, true, true, true, true, false, false, false, false, false, false, false, false, false, false, false, false, false, false, false] rfl rfl (by kernel_rfl) (fun _ _ _ h => h) (Or.inl ⟨by rfl, ?_⟩) hHeld ?_ ?_
            rotate_left
            · intro w' hs_; have s0_ := pw_cell_below hs_ HY.out; clear hs_; go_simp; with_reducible rfl
            rotate_left; · (simp only [Act.put, List.setIfInBounds_toArray, List.set_cons_zero, List.set_cons_succ, i64_w, i32_w]; rfl)
            refine one_ (i := 9) (N := some 90) #[true, true, true, true, true, true, true, true, true, true, false, false, false, false, false, false, false, false, false, false, false, false, false, false] rfl rfl (by kernel_rfl) (by decide) (fun K hK => ?_)
            refine goes_ Try.func27 (by kernel_rfl) rfl #[.int .i64 (rd ws (j : Int)), .int .i64 100] (by rfl) rfl rfl (by (try simp only [List.map_toArray, List.map_cons, List.map_nil]); first | done | rfl) ?_
            with_reducible refine (HP1.out _).mono ?_
            rintro e w' ⟨rfl, ⟨nd_, rfl⟩⟩; refine ⟨_, rfl, ?_⟩
            refine hK.out _ _ (pw_below_drewN hHeld nd_) (fun hHeld => ?_)
            clear hK K; refine norm_ (a' := ?_) ?_ ?_
            rotate_left
            · show Act.put _ (some 90) _ = _
              (simp only [Act.put, List.setIfInBounds_toArray, List.set_cons_zero, List.set_cons_succ, i64_w, i32_w]; rfl)
            refine pure_ (i := 10) (N := some 91) (v := ?_) (a' := ?_) #[true, true, true, true, true, true, true, true, true, true, true, false, false, false, false, false, false, false, false, false, false, false, false, false] rfl rfl (by kernel_rfl) (fun _ _ _ h => h) (Or.inl ⟨by rfl, ?_⟩) ?_ ?_
            rotate_left
            · intro w'; go_simp; with_reducible rfl
            rotate_left; · (simp only [Act.put, List.setIfInBounds_toArray, List.set_cons_zero, List.set_cons_succ, i64_w, i32_w]; rfl)
            refine one_ (i := 11) (N := some 92) #[true, true, true, true, true, true, true, true, true, true, true, true, false, false, false, false, false, false, false, false, false, false, false, false] rfl rfl (by kernel_rfl) (by decide) (fun K hK => ?_)
            refine goes_ Try.func26 (by kernel_rfl) rfl #[.int .u64 (IntKind.u64.wrap (pk (rd ws (j : Int)) 100))] (by rfl) rfl rfl (by (try simp only [List.map_toArray, List.map_cons, List.map_nil]); first | done | rfl) ?_
            with_reducible refine (HNb1.out _).mono ?_
            rintro e wq_11 ⟨rfl, hb⟩; refine ⟨_, rfl, ?_⟩
            refine hK.out _ _ (below_step hHeld hb) (fun hHeld => ?_)
            clear hK K; refine norm_ (a' := ?_) ?_ ?_
            rotate_left
            · show Act.put _ (some 92) _ = _
              (simp only [Act.put, List.setIfInBounds_toArray, List.set_cons_zero, List.set_cons_succ, i64_w, i32_w]; rfl)
            refine pure_ (i := 12) (N := some 93) (v := ?_) (a' := ?_) #[true, true, true, true, true, true, true, true, true, true, true, true, true, false, false, false, false, false, false, false, false, false, false, false] rfl rfl (by kernel_rfl) (fun _ _ _ h => h) (Or.inl ⟨by rfl, ?_⟩) ?_ ?_
            rotate_left
            · intro w'; go_simp; with_reducible rfl
            rotate_left; · (simp only [Act.put, List.setIfInBounds_toArray, List.set_cons_zero, List.set_cons_succ, i64_w, i32_w]; rfl)
            refine pure_ (i := 13) (N := some 94) (v := ?_) (a' := ?_) #[true, true, true, true, true, true, true, true, true, true, true, true, true, true, false, false, false, false, false, false, false, false, false, false] rfl rfl (by kernel_rfl) (fun _ _ _ h => h) (Or.inl ⟨by rfl, ?_⟩) ?_ ?_
            rotate_left
            · intro w'; go_simp; with_reducible rfl
            rotate_left; · (simp only [Act.put, List.setIfInBounds_toArray, List.set_cons_zero, List.set_cons_succ, i64_w, i32_w]; rfl)
            refine pure_ (i := 14) (N := some 95) (v := ?_) (a' := ?_) #[true, true, true, true, true, true, true, true, true, true, true, true, true, true, true, false, false, false, false, false, false, false, false, false] rfl rfl (by kernel_rfl) (fun _ _ _ h => h) (Or.inl ⟨by rfl, ?_⟩) ?_ ?_
            rotate_left
            · intro w'; go_simp; with_reducible rfl
            rotate_left; · (simp only [Act.put, List.setIfInBounds_toArray, List.set_cons_zero, List.set_cons_succ, i64_w, i32_w]; rfl)
            refine pure_ (i := 15) (N := some 96) (v := ?_) (a' := ?_) #[true, true, true, true, true, true, true, true, true, true, true, true, true, true, true, true, false, false, false, false, false, false, false, false] rfl rfl (by kernel_rfl) (fun _ _ _ h => h) (Or.inl ⟨by rfl, ?_⟩) ?_ ?_
            rotate_left
            · intro w'; go_simp; with_reducible rfl
            rotate_left; · (simp only [Act.put, List.setIfInBounds_toArray, List.set_cons_zero, List.set_cons_succ, i64_w, i32_w]; rfl)
            refine take_ (i := 16) (N := some 97) (v := ?_) (a' := ?_) #[true, true, true, true, true, true, true, true, true, true, true, true, true, true, true, true, true, false, false, false, false, false, false, false] rfl rfl (by kernel_rfl) (fun _ _ _ h => h) (Or.inl ⟨by rfl, ?_⟩) hHeld ?_ ?_
            rotate_left
            · intro w' hs_; have s0_ := pw_cell_below hs_ D0.out; clear hs_; go_simp; with_reducible rfl
            rotate_left; · (simp only [Act.put, List.setIfInBounds_toArray, List.set_cons_zero, List.set_cons_succ, i64_w, i32_w]; rfl)
            refine pure_ (i := 17) (N := some 98) (v := ?_) (a' := ?_) #[true, true, true, true, true, true, true, true, true, true, true, true, true, true, true, true, true, true, false, false, false, false, false, false] rfl rfl (by kernel_rfl) (fun _ _ _ h => h) (Or.inl ⟨by rfl, ?_⟩) ?_ ?_
            rotate_left
            · intro w'; go_simp; with_reducible rfl
            rotate_left; · (simp only [Act.put, List.setIfInBounds_toArray, List.set_cons_zero, List.set_cons_succ, i64_w, i32_w]; rfl)
            refine pure_ (i := 18) (N := some 99) (v := ?_) (a' := ?_) #[true, true, true, true, true, true, true, true, true, true, true, true, true, true, true, true, true, true, true, false, false, false, false, false] rfl rfl (by kernel_rfl) (fun _ _ _ h => h) (Or.inl ⟨by rfl, ?_⟩) ?_ ?_
            rotate_left
            · intro w'; go_simp; with_reducible rfl
            rotate_left; · (simp only [Act.put, List.setIfInBounds_toArray, List.set_cons_zero, List.set_cons_succ, i64_w, i32_w]; rfl)
            refine pure_ (i := 19) (N := some 100) (v := ?_) (a' := ?_) #[true, true, true, true, true, true, true, true, true, true, true, true, true, true, true, true, true, true, true, true, false, false, false, false] rfl rfl (by kernel_rfl) (fun _ _ _ h => h) (Or.inl ⟨by rfl, ?_⟩) ?_ ?_
            rotate_left
            · intro w'; go_simp; with_reducible rfl
            rotate_left; · (simp only [Act.put, List.setIfInBounds_toArray, List.set_cons_zero, List.set_cons_succ, i64_w, i32_w]; rfl)
            refine pure_ (i := 20) (N := some 101) (v := ?_) (a' := ?_) #[true, true, true, true, true, true, true, true, true, true, true, true, true, true, true, true, true, true, true, true, true, false, false, false] rfl rfl (by kernel_rfl) (fun _ _ _ h => h) (Or.inl ⟨by rfl, ?_⟩) ?_ ?_
            rotate_left
            · intro w'; go_simp; with_reducible rfl
            rotate_left; · (simp only [Act.put, List.setIfInBounds_toArray, List.set_cons_zero, List.set_cons_succ, i64_w, i32_w]; rfl)
            refine take_ (i := 21) (N := some 102) (v := ?_) (a' := ?_) #[true, true, true, true, true, true, true, true, true, true, true, true, true, true, true, true, true, true, true, true, true, true, false, false] rfl rfl (by kernel_rfl) (fun _ _ _ h => h) (Or.inl ⟨by rfl, ?_⟩) hHeld ?_ ?_
            rotate_left
            · intro w' hs_; have s0_ := pw_cell_below hs_ D1.out; clear hs_; go_simp; with_reducible rfl
            rotate_left; · (simp only [Act.put, List.setIfInBounds_toArray, List.set_cons_zero, List.set_cons_succ, i64_w, i32_w]; rfl)
            refine pure_ (i := 22) (N := some 103) (v := ?_) (a' := ?_) #[true, true, true, true, true, true, true, true, true, true, true, true, true, true, true, true, true, true, true, true, true, true, true, false] rfl rfl (by kernel_rfl) (fun _ _ _ h => h) (Or.inl ⟨by rfl, ?_⟩) ?_ ?_
            rotate_left
            · intro w'; go_simp; with_reducible rfl
            rotate_left; · (simp only [Act.put, List.setIfInBounds_toArray, List.set_cons_zero, List.set_cons_succ, i64_w, i32_w]; rfl)
            refine pure_ (i := 23) (N := some 104) (v := ?_) (a' := ?_) #[true, true, true, true, true, true, true, true, true, true, true, true, true, true, true, true, true, true, true, true, true, true, true, true] rfl rfl (by kernel_rfl) (fun _ _ _ h => h) (Or.inl ⟨by rfl, ?_⟩) ?_ ?_
            rotate_left
            · intro w'; go_simp; with_reducible rfl
            rotate_left; · (simp only [Act.put, List.setIfInBounds_toArray, List.set_cons_zero, List.set_cons_succ, i64_w, i32_w]; rfl)
            refine done_ (by kernel_rfl) ?_
            go_wp2; cases gk with
            | zero => have := HK.out; omega
            | succ k1 =>
              go_roundg k1
              case measure => omega
              case rel => exact ⟨j + 1, F9, hs, m, rfl, ⟨by have := HK.out; omega⟩, ⟨HNv.out.below hHeld⟩, ⟨HLv.out.below hHeld⟩, ⟨below_step HBv.out hHeld⟩⟩
          · have cb : decide ((j : Int) < (ws.length : Int)) = false := decide_eq_false (by omega)
            have cb2 : decide (j < ws.length) = false := decide_eq_false cj
            have hN := HN.out; rw [show ws.drop j = [] from List.drop_eq_nil_of_le (by omega)] at hN
            have HTn := Aside0.mk (takeNoneL hN)
            have HN0 := Aside0.mk hN
            have HM := Aside0.mk (fun (W : World) (F : Nat → Prop) (h : NetIn W g F ⟨[], hs, m⟩) => net_Net_Many.calls W g F _ h)
            clear hN HN HLO HK
            go_wp2_with (first
              | (go_at_call 29; go_loud (refine (HTn.out).mono ?_; rintro e wa ⟨rfl, F9, hn, hF, hr⟩; have HNa := Aside0.mk hn; have HBa := Aside0.mk (HB.out.trans (hr.toBelow (fun k hk => (HN0.out.2.1 k hk).1) HN0.out.2.2)); clear hn hF hr))
              | ((with_reducible refine gate_dst (N := 13) rfl ?_); refine box_event ?hg (N := 13) ?hd (cs := #[.int .i64 0, .int .i64 0, .string ⟨#[]⟩]) (t := 50) ?hr ?_; (case hd => rfl); (case hg => rfl); (case hr => first | (go_simp; done) | (go_simp; rfl)); intro gd hgd wb hbox hb; have HBb := Aside0.mk (below_step HBa.out hb); have HNb := Aside0.mk (HNa.out.below hb); have HXb := Aside0.mk (LocB.new (F := F9) hbox hgd (fun k hk => (HNa.out.2.1 k hk).2) HBa.out.size); have y0 : wb.cell? ⟨gd, 0, none⟩ = some (.int .i64 0) := (blk_cell hbox 0).trans rfl; have y1 : wb.cell? ⟨gd, 1, none⟩ = some (.int .i64 0) := (blk_cell hbox 1).trans rfl; have y2 : wb.cell? ⟨gd, 2, none⟩ = some (.string ⟨#[]⟩) := (blk_cell hbox 2).trans rfl; have x0 := blk_frozen hbox 0; have x1 := blk_frozen hbox 1; have x2 := blk_frozen hbox 2; clear hbox hb hgd)
              | (go_at_call 30; go_loud (refine (HM.out _ _ (HNb.out.set3 HXb.out.2.1 (.int .i64 0) (.int .i64 0) (.string ⟨#[]⟩)).1).mono ?_; rintro e w' ⟨rfl, rfl⟩)))
            go_ret
            exact ⟨rfl, Below.set3 HBb.out HXb.out.2.2 _ _ _⟩
def gemotlaw8_NetOrder.f (l0 : List Int) (a1 : Int) : Option (Bool) := if (∀ x ∈ l0, In64 x) ∧ In64 a1 then some true else none
theorem gemotlaw8_NetOrder.calls (A0 : Option Addr) (c0 : Nat) (l0 : List Int) (a1 : Int) (r : Bool) (w : World) (hr0 : Kd.C (Kd.int .i64) w A0 l0.length l0) (hc0 : l0.length ≤ c0) (h : gemotlaw8_NetOrder.f l0 a1 = some r) :
    Calls Try.prog 4 #[.slice A0 l0.length c0, .int .i64 a1] w fun e w' => e = .returned (.bool r) ∧ Below w.heap.size w w' := by
  unfold gemotlaw8_NetOrder.f at h
  split at h
  case isFalse => cases h
  rename_i hs
  cases h
  by_cases hl : l0.length ≤ 50
  · exact gemotlaw8_NetOrder.good A0 c0 l0 a1 w hr0 hl hs.1 hs.2
  · exact gemotlaw8_NetOrder.long A0 c0 l0 a1 w (by omega)

end Go.Proofs.Ytagceackfnkifaa.F
