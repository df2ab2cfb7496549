-- Laid by mk.py (a program of this session) over the seat's translation.
import Derived.Test.YtppimpadfgldjaaF0
import Derived.Test.YtppimpadfgldjaaF115
import Derived.Test.YtppimpadfgldjaaF56
import Derived.Test.YtppimpadfgldjaaF57
import Derived.Test.YtppimpadfgldjaaF59
import Derived.Test.YtppimpadfgldjaaF61
import Derived.Test.YtppimpadfgldjaaF65
import Derived.Test.YtppimpadfgldjaaF66
import Derived.Test.YtppimpadfgldjaaB1
import Derived.Test.YtppimpadfgldjaaF69
import Derived.Laws.Cover1
import Derived.RegionTactic
import Derived.BigRegion
import Derived.StillTailTactics
import Derived.StillTactics
import Derived.Deep.RegionWith
import Derived.Deep.LoopGhost
import Derived.Test.YtppimpadfgldjaaLNetLaw
namespace Go.Proofs.Ytppimpadfgldjaa.F
open Go.RowKit Go.Proofs.YtppimpadfgldjaaW.PrintWords Go.Proofs.YtppimpadfgldjaaW.PrintLast Go.Proofs.YtppimpadfgldjaaW.PrintMore
attribute [local go_sem] max2_int min2_int max_two min_two max_three min_three max_four min_four
set_option linter.unusedVariables false
set_option linter.unusedSimpArgs false

/-! ### gemotlaw8_NetHeard: function 13 -/
open Go.Maps Go.Proofs.Ytppimpadfgldjaa.Pure
/-- Whatever lies in a net was heard. -/
def HearS (i : Nat) (s : NS) : Prop := s.lie.length ≤ i ∧ s.many ≤ i ∧ (∀ d ∈ s.lie, d.f2 ∈ s.heard) ∧ s.heard.length ≤ i
theorem HearS.heard {i : Nat} {s : NS} (h : HearS i s) : s.heard.length ≤ i := h.2.2.2
theorem HearS.take {i : Nat} {s : NS} (h : HearS i s) (n : Int) : HearS (i + 1) (takeN s n).1 ∧ (takeN s n).1.heard = s.heard := by
  unfold takeN
  split
  · refine ⟨⟨?_, Nat.le_succ_of_le h.2.1, fun d hd => h.2.2.1 d (List.mem_of_mem_eraseIdx hd), Nat.le_succ_of_le h.heard⟩, rfl⟩
    show (s.lie.eraseIdx n.toNat).length ≤ _
    have h1 := List.length_eraseIdx_le s.lie n.toNat
    have h2 := h.1; omega
  · exact ⟨⟨Nat.le_succ_of_le h.1, Nat.le_succ_of_le h.2.1, h.2.2.1, Nat.le_succ_of_le h.heard⟩, rfl⟩
theorem HearS.double {i : Nat} {s : NS} (h : HearS i s) (n : Int) : HearS (i + 1) (doubleN s n).1 ∧ (doubleN s n).1.heard = s.heard := by
  have same : HearS (i + 1) s := ⟨Nat.le_succ_of_le h.1, Nat.le_succ_of_le h.2.1, h.2.2.1, Nat.le_succ_of_le h.heard⟩
  unfold doubleN
  split
  · rename_i hn
    have hn := of_decide_eq_true (show decide (0 ≤ n ∧ n < (s.lie.length : Int)) = true from hn)
    unfold addN
    split
    · exact ⟨same, rfl⟩
    · refine ⟨⟨?_, Nat.le_succ_of_le h.2.1, fun d hd => ?_, Nat.le_succ_of_le h.heard⟩, rfl⟩
      · show (s.lie ++ _).length ≤ _
        rw [List.length_append, List.length_singleton]
        exact Nat.succ_le_succ h.1
      · rcases List.mem_append.mp hd with q | q
        · exact h.2.2.1 d q
        · rw [List.mem_singleton.mp q]
          unfold rd_T114
          have hlt : n.toNat < s.lie.length := by omega
          rw [List.getD_eq_getElem?_getD, List.getElem?_eq_getElem hlt]
          exact h.2.2.1 _ (List.getElem_mem hlt)
  · exact ⟨same, rfl⟩
theorem HearS.send {i : Nat} {s : NS} (h : HearS i s) (a b : Int) (t : ByteArray) : HearS (i + 1) ⟨s.lie ++ [⟨a, b, t⟩], insF s.heard t, s.many + 1⟩ ∧ ∀ x ∈ s.heard, x ∈ insF s.heard t := by
  refine ⟨⟨?_, Nat.succ_le_succ h.2.1, fun d hd => (insF_mem _ _ _).mpr ?_, Nat.le_trans (insF_len _ _) (Nat.succ_le_succ h.heard)⟩, fun x hx => (insF_mem _ _ _).mpr (.inr hx)⟩
  · show (s.lie ++ _).length ≤ _
    rw [List.length_append, List.length_singleton]
    exact Nat.succ_le_succ h.1
  · rcases List.mem_append.mp hd with q | q
    · exact .inr (h.2.2.1 d q)
    · rw [List.mem_singleton.mp q]; exact .inl rfl
theorem NetL.srt {B : Nat} {w : World} {g : Nat} {s : NS} {F : Nat → Prop} (h : NetL B w g s F) : Srt s.heard := by
  obtain ⟨v, b, n, D, _, _, _, _, _, h6⟩ := h.1; exact h6.1
theorem Loc.near2 {α : Type} {d : Kd α} {e B : Nat} {F F' : Nat → Prop} {w W w' : World} {v : Value} {xs : List α} (h : Loc d e B F w v xs) (hb : Below w.heap.size w W) (hr : Near F W w') (hF : ∀ k, F' k → F k ∨ W.heap.size ≤ k) : Loc d e B F' w' v xs := (h.below hb).near hr hF
theorem srt_step {B : Nat} {w : World} {g : Nat} {s : NS} {F : Nat → Prop} (h : NetL B w g s F) (k : Nat) (h0 : 0 < k) (hk : k < s.heard.length) : bl (rdOf ByteArray.empty s.heard ((k - 1 : Nat) : Int)) < bl (rdOf ByteArray.empty s.heard (k : Int)) := by
  have hs := h.srt; have e : ∀ j : Nat, (hj : j < s.heard.length) → rdOf ByteArray.empty s.heard (j : Int) = s.heard[j] := fun j hj => by unfold rdOf; simp [List.getD_eq_getElem?_getD, List.getElem?_eq_getElem hj]
  rw [e _ (by omega), e _ hk]
  exact List.pairwise_iff_getElem.mp hs _ _ _ _ (by omega)
theorem has_mem {l : List ByteArray} {a : ByteArray} (h : a ∈ l) : gemotlaw8_has.f l a = some true := by
  unfold gemotlaw8_has.f
  rw [List.any_eq_true.mpr ⟨a, h, decide_eq_true rfl⟩]
theorem rd_mem {l : List ByteArray} {k : Nat} (h : k < l.length) : rdOf ByteArray.empty l (k : Int) ∈ l := by
  unfold rdOf
  simp [List.getD_eq_getElem?_getD, List.getElem?_eq_getElem h]
theorem rdT_mem {l : List S114} {k : Nat} (h : k < l.length) : rd_T114 l (k : Int) ∈ l := by
  unfold rd_T114
  simp [List.getD_eq_getElem?_getD, List.getElem?_eq_getElem h]
set_option maxHeartbeats 4000000 in
set_option maxRecDepth 100000 in
theorem gemotlaw8_NetHeard.long (A0 : Option Addr) (c0 : Nat) (l0 : List S112) (w : World) (hl : 60 < l0.length) : Calls Try.prog 13 #[.slice A0 l0.length c0] w fun e w' => e = .returned (.bool true) ∧ Below w.heap.size w w' := by
  have HNw := Aside0.mk (fun W => newL W)
  have HSh := Aside0.mk (fun W => gemotlaw8_shown.any W)
  have q : decide ((60 : Int) < (l0.length : Int)) = true := decide_eq_true (by omega)
  clear hl; go_enter Try.func13, Try.ntmps13
  go_wp2_with (first
    | (go_at_call 56; go_loud (refine (HSh.out _).mono ?_; rintro e w1 ⟨rfl, hb⟩; have HB1 := Aside0.mk hb; clear hb))
    | (go_at_call 57; go_loud (refine (HNw.out _).mono ?_; rintro e w2 ⟨g, F, rfl, hn, hb⟩; have HB2 := Aside0.mk (below_step HB1.out hb); clear hn hb)))
  go_ret
  exact ⟨rfl, HB2.out⟩
set_option maxHeartbeats 8000000 in
set_option maxRecDepth 100000 in
theorem gemotlaw8_NetHeard.good (A0 : Option Addr) (c0 : Nat) (l0 : List S112) (w : World) (hr0 : Kd.C k112 w A0 l0.length l0) (hl : l0.length ≤ 60) (hw : ∀ x ∈ l0, In64 x.f0 ∧ In64 x.f1 ∧ In64 x.f2 ∧ In64 x.f3) : Calls Try.prog 13 #[.slice A0 l0.length c0] w fun e w' => e = .returned (.bool true) ∧ Below w.heap.size w w' := by
  have HNw := Aside0.mk (fun W => newL W)
  have HSh := Aside0.mk (fun W => gemotlaw8_shown.any W)
  have q : decide ((60 : Int) < (l0.length : Int)) = false := decide_eq_false (by omega)
  have HR0 := Aside0.mk hr0
  have HL := Aside0.mk hl
  have HW := Aside0.mk (show ∀ i : Nat, i < l0.length → In64 (rd_T112 l0 (i : Int)).f0 ∧ In64 (rd_T112 l0 (i : Int)).f1 ∧ In64 (rd_T112 l0 (i : Int)).f2 ∧ In64 (rd_T112 l0 (i : Int)).f3 from fun i h => by
    have e : rd_T112 l0 (i : Int) = l0[i] := by unfold rd_T112; simp [List.getD_eq_getElem?_getD, List.getElem?_eq_getElem h]
    rw [e]; exact hw _ (List.getElem_mem h))
  have HNb := Aside0.mk (fun (n : Int) (W : World) => numb_calls n W)
  have HHe := Aside0.mk (fun (W : World) (g : Nat) (F : Nat → Prop) (s : NS) (h : NetL w.heap.size W g s F) (hm : s.many ≤ 100) => net_Net_Heard.calls W g F s h.1 (by omega))
  clear hr0 hl hw; go_enter Try.func13, Try.ntmps13
  go_wp2_with (first
    | (go_at_call 56; go_loud (refine (HSh.out _).mono ?_; rintro e w1 ⟨rfl, hb⟩; have HB1 := Aside0.mk hb; clear hb))
    | (go_at_call 57; go_loud (refine (HNw.out _).mono ?_; rintro e w2 ⟨g, F, rfl, hn, hb⟩; have HN2 := Aside0.mk (hn.lower HB1.out.size); have HB2 := Aside0.mk (below_step HB1.out hb); clear hn hb))
    | (go_at_call 66; go_loud (refine (HHe.out _ _ _ _ HN2.out (Nat.zero_le _)).mono ?_; rintro e w3 ⟨v3, rfl, hl, hb⟩; have HN3 := Aside0.mk (HN2.out.below hb); have HB3 := Aside0.mk (below_step HB2.out hb); have HO3 := Aside0.mk (Loc.new (B := w.heap.size) (F := F) hl (fun k hk => (HN2.out.2.1 k hk).2) HB2.out.size); clear hl hb)))
  go_loopg [5, 6] l0.length (fun kq v5 v6 w' => ∃ (i : Nat) (F : Nat → Prop) (s : NS), v6 = .int .i64 (i : Int) ∧ Aside0 (i + kq = l0.length) ∧ Aside0 (HearS i s) ∧ Aside0 (NetL w.heap.size w' g s F) ∧ Aside0 (Loc Kd.string 48 w.heap.size F w' v5 s.heard) ∧ Aside0 (Below w.heap.size w w'))
  case atStart => exact ⟨0, F, ⟨[], [], 0⟩, rfl, ⟨Nat.zero_add _⟩, ⟨Nat.le_refl _, Nat.le_refl _, fun d hd => absurd hd List.not_mem_nil, Nat.le_refl _⟩, HN3, HO3, HB3⟩
  case round =>
    clear HNw HSh HN2 HB2 HB1 HN3 HO3 HB3; obtain ⟨i, F', s, rfl, HK, HSi, HN0, HO0, HB0⟩ := hrel; obtain ⟨A5, c5, rfl⟩ := HO0.out.slice; by_cases ci : i < l0.length
    · obtain ⟨k1, rfl⟩ : ∃ k1, gk = k1 + 1 := ⟨gk - 1, by have := HK.out; omega⟩
      have cb : decide ((i : Int) < (l0.length : Int)) = true := decide_eq_true (by omega)
      have cb2 : decide (i < l0.length) = true := decide_eq_true ci
      have hw1 : IntKind.i64.wrap ((i : Int) + 1) = ((i + 1 : Nat) : Int) := by rw [i64_w]; unfold wrap64; have := HL.out; omega
      obtain ⟨i0, i1, i2, i3⟩ := HW.out i ci
      obtain ⟨ad, rfl, e0, e1, e2, e3, e4⟩ := at_T112 (Kd.C_below HR0.out HB0.out) (i : Int) (by omega) (by omega)
      simp only [Int.toNat_natCast] at e0 e1 e2 e3
      generalize (rd_T112 l0 (i : Int)).f0 = x0 at i0 e0
      generalize (rd_T112 l0 (i : Int)).f1 = x1 at i1 e1
      generalize (rd_T112 l0 (i : Int)).f2 = x2 at i2 e2
      generalize (rd_T112 l0 (i : Int)).f3 = x3 at i3 e3
      clear e4; have E1 := Aside0.mk e1
      have E2 := Aside0.mk e2
      have E3 := Aside0.mk e3
      have hpo := fun (W : World) => pick_calls x0 5 i0 (by decide) (by decide) W
      have hp1 := fun (W : World) => pick_calls x1 8 i1 (by decide) (by decide) W
      have hp2 := fun (W : World) => pick_calls x2 8 i2 (by decide) (by decide) W
      have hp3 := fun (W : World) => pick_calls x3 20 i3 (by decide) (by decide) W
      obtain ⟨p1, q1, b1⟩ : ∃ p : Nat, pk x1 8 = (p : Int) ∧ p < 8 := ⟨(pk x1 8).toNat, by have := pk_nn x1 (n := 8) (by decide); omega, by have := pk_nn x1 (n := 8) (by decide); have := pk_lt x1 (n := 8) (by decide); omega⟩
      obtain ⟨p2, q2, b2⟩ : ∃ p : Nat, pk x2 8 = (p : Int) ∧ p < 8 := ⟨(pk x2 8).toNat, by have := pk_nn x2 (n := 8) (by decide); omega, by have := pk_nn x2 (n := 8) (by decide); have := pk_lt x2 (n := 8) (by decide); omega⟩
      obtain ⟨p3, q3, b3⟩ : ∃ p : Nat, pk x3 20 = (p : Int) ∧ p < 20 := ⟨(pk x3 20).toNat, by have := pk_nn x3 (n := 20) (by decide); omega, by have := pk_nn x3 (n := 20) (by decide); have := pk_lt x3 (n := 20) (by decide); omega⟩
      rw [q1] at hp1
      rw [q2] at hp2
      rw [q3] at hp3
      obtain ⟨o, hqo⟩ : ∃ o, pk x0 5 = o := ⟨_, rfl⟩
      rw [hqo] at hpo
      have HPo := Aside0.mk hpo
      have HP1 := Aside0.mk hp1
      have HP2 := Aside0.mk hp2
      have HP3 := Aside0.mk hp3
      have hw2 : IntKind.i64.wrap (1 + (p1 : Int)) = 1 + (p1 : Int) := by rw [i64_w]; unfold wrap64; omega
      have hw3 : IntKind.i64.wrap (1 + (p2 : Int)) = 1 + (p2 : Int) := by rw [i64_w]; unfold wrap64; omega
      have HQ := Aside0.mk (And.intro b1 b2)
      have HCI := Aside0.mk ci
      have HS4 := Aside0.mk (show s.lie.length < 400 ∧ s.many < 1000 by have := HSi.out.1; have := HSi.out.2.1; have := HL.out; omega)
      clear hpo hp1 hp2 hp3 q1 q2 q3 hqo i0 i1 i2 i3 b1 b2 b3; go_upto_region 11 with (go_at_call 58; (with_reducible refine (HPo.out _).mono ?_); rintro e w' ⟨rfl, ⟨nd, rfl⟩⟩)
      have HN := Aside0.mk (HN0.out.below (pw_below_drewN (Below.refl _ _) nd))
      have HO := Aside0.mk (HO0.out.below (pw_below_drewN (Below.refl _ _) nd))
      have HB := Aside0.mk (pw_below_drewN HB0.out nd)
      have f3 := pw_cell_below (pw_below_drewN (Below.refl _ _) nd) E3.out
      replace E1 := Aside0.mk (pw_cell_below (pw_below_drewN (Below.refl _ _) nd) E1.out)
      replace E2 := Aside0.mk (pw_cell_below (pw_below_drewN (Below.refl _ _) nd) E2.out)
      replace E3 := Aside0.mk f3
      generalize wr.drewN nd = V at HN HO HB E1 E2 E3 f3 ⊢
      clear e0 e1 e2 e3 HN0 HO0 HB0; rcases (show o = 3 ∨ o = 4 ∨ (¬ o = 3 ∧ ¬ o = 4) by omega) with ho | ho | ho
      case' inl =>
        subst ho; have HA := Aside0.mk (fun (W : World) (h : NetL w.heap.size W g s F') => takeL h (p3 : Int) (by have := HS4.out.1; omega))
        obtain ⟨s5, h5⟩ : ∃ s5, s5 = (takeN s (p3 : Int)).1 := ⟨_, rfl⟩
        have HSs := Aside0.mk (HSi.out.take (p3 : Int)).1
        have HSub := Aside0.mk (show ∀ x ∈ s.heard, x ∈ (takeN s (p3 : Int)).1.heard by rw [(HSi.out.take (p3 : Int)).2]; exact fun x hx => hx)
        rw [← h5] at HA HSs HSub
        clear h5
        go_upto_region 15 with (first
          | (go_at_call 58; (with_reducible refine (HP3.out _).mono ?_); rintro e w' ⟨rfl, ⟨nd2, rfl⟩⟩; have HN1 := Aside0.mk (HN.out.below (pw_below_drewN (Below.refl _ _) nd2)); have HO1 := Aside0.mk (HO.out.below (pw_below_drewN (Below.refl _ _) nd2)); have HB1 := Aside0.mk (pw_below_drewN HB.out nd2))
          | (go_at_call 59; go_loud (refine (HA.out _ HN1.out).mono ?_; rintro e w5 ⟨rfl, F5, hn, hF, hr⟩; have HN5 := Aside0.mk hn; have HO5 := Aside0.mk (HO1.out.near hr hF); have HB5 := Aside0.mk (HB1.out.trans (hr.toBelow (fun k hk => (HN1.out.2.1 k hk).1) HN1.out.2.2)); clear hn hF hr)))
        clear HN1 HO1 HB1 HA
      case' inr.inl =>
        subst ho; have HA := Aside0.mk (fun (W : World) (h : NetL w.heap.size W g s F') => doubleL h (p3 : Int) (by have := HS4.out.1; omega))
        obtain ⟨s5, h5⟩ : ∃ s5, s5 = (doubleN s (p3 : Int)).1 := ⟨_, rfl⟩
        have HSs := Aside0.mk (HSi.out.double (p3 : Int)).1
        have HSub := Aside0.mk (show ∀ x ∈ s.heard, x ∈ (doubleN s (p3 : Int)).1.heard by rw [(HSi.out.double (p3 : Int)).2]; exact fun x hx => hx)
        rw [← h5] at HA HSs HSub
        clear h5
        go_upto_region 15 with (first
          | (go_at_call 58; (with_reducible refine (HP3.out _).mono ?_); rintro e w' ⟨rfl, ⟨nd2, rfl⟩⟩; have HN1 := Aside0.mk (HN.out.below (pw_below_drewN (Below.refl _ _) nd2)); have HO1 := Aside0.mk (HO.out.below (pw_below_drewN (Below.refl _ _) nd2)); have HB1 := Aside0.mk (pw_below_drewN HB.out nd2))
          | (go_at_call 61; go_loud (refine (HA.out _ HN1.out).mono ?_; rintro e w5 ⟨rfl, F5, hn, hF, hr⟩; have HN5 := Aside0.mk hn; have HO5 := Aside0.mk (HO1.out.near hr hF); have HB5 := Aside0.mk (HB1.out.trans (hr.toBelow (fun k hk => (HN1.out.2.1 k hk).1) HN1.out.2.2)); clear hn hF hr)))
        clear HN1 HO1 HB1 HA
      case' inr.inr =>
        have z3 : (o == 3) = false := beq_eq_false_iff_ne.mpr ho.1
        have z4 : (o == 4) = false := beq_eq_false_iff_ne.mpr ho.2
        have z3b : ¬ o = 3 := ho.1
        have z4b : ¬ o = 4 := ho.2
        obtain ⟨T, hT⟩ : ∃ T, T = numF (IntKind.u64.wrap (p3 : Int)) := ⟨_, rfl⟩
        have hS := fun (W : World) (h : NetL w.heap.size W g s F') => sendNumL h (1 + (p1 : Int)) (1 + (p2 : Int)) (IntKind.u64.wrap (p3 : Int)) (by have := HQ.out.1; omega) (by have := HQ.out.2; omega) HS4.out.1 (by have := HS4.out.2; omega)
        have hni := fun (W : World) => numb_calls (IntKind.u64.wrap (p3 : Int)) W
        rw [← hT] at hS hni
        have HS := Aside0.mk hS
        have HNi := Aside0.mk hni
        obtain ⟨s5, h5⟩ : ∃ s5 : NS, s5 = ⟨s.lie ++ [⟨1 + (p1 : Int), 1 + (p2 : Int), T⟩], insF s.heard T, s.many + 1⟩ := ⟨_, rfl⟩
        have HSs := Aside0.mk (HSi.out.send (1 + (p1 : Int)) (1 + (p2 : Int)) T).1
        have HSub := Aside0.mk (HSi.out.send (1 + (p1 : Int)) (1 + (p2 : Int)) T).2
        have HSub := Aside0.mk (show ∀ x ∈ s.heard, x ∈ s5.heard by rw [h5]; exact HSub.out)
        rw [← h5] at HS HSs
        clear hS hni hT h5 ho f3; go_upto_region 10 with (fail)
        refine start_ (n := 25) (S := fun w' => Below V.heap.size V w') (ds := [24]) #[false, false, false, false, false, false, false, false, false, false, false, false, false, false, false, false, false, false, false, false, false, false, false, false, false] (by kernel_rfl) rfl rfl (below_drew1 (Below.refl _ _)) (fun hHeld => ?_)
        generalize hWd : V.drew = Wd at hHeld ⊢
        clear hWd; refine pure_ (i := 0) (N := some 44) (v := ?_) (a' := ?_) #[true, false, false, false, false, false, false, false, false, false, false, false, false, false, false, false, false, false, false, false, false, false, false, false, false] rfl rfl (by kernel_rfl) (fun _ _ _ h => h) (Or.inl ⟨by rfl, ?_⟩) ?_ ?_
        rotate_left
        · intro w'; go_simp; with_reducible rfl
        rotate_left; · (simp only [Act.put, List.setIfInBounds_toArray, List.set_cons_zero, List.set_cons_succ, i64_w, i32_w]; rfl)
        refine pure_ (i := 1) (N := some 45) (v := ?_) (a' := ?_) #[true, true, false, false, false, false, false, false, false, false, false, false, false, false, false, false, false, false, false, false, false, false, false, false, false] rfl rfl (by kernel_rfl) (fun _ _ _ h => h) (Or.inl ⟨by rfl, ?_⟩) ?_ ?_
        rotate_left
        · intro w'; go_simp; with_reducible rfl
        rotate_left; · (simp only [Act.put, List.setIfInBounds_toArray, List.set_cons_zero, List.set_cons_succ, i64_w, i32_w]; rfl)
        refine pure_ (i := 2) (N := some 46) (v := ?_) (a' := ?_) #[true, true, true, false, false, false, false, false, false, false, false, false, false, false, false, false, false, false, false, false, false, false, false, false, false] rfl rfl (by kernel_rfl) (fun _ _ _ h => h) (Or.inl ⟨by rfl, ?_⟩) ?_ ?_
        rotate_left
        · intro w'; go_simp; with_reducible rfl
        rotate_left; · (simp only [Act.put, List.setIfInBounds_toArray, List.set_cons_zero, List.set_cons_succ, i64_w, i32_w]; rfl)
        refine pure_ (i := 3) (N := some 47) (v := ?_) (a' := ?_) #[true, true, true, true, false, false, false, false, false, false, false, false, false, false, false, false, false, false, false, false, false, false, false, false, false] rfl rfl (by kernel_rfl) (fun _ _ _ h => h) (Or.inl ⟨by rfl, ?_⟩) ?_ ?_
        rotate_left
        · intro w'; go_simp; with_reducible rfl
        rotate_left; · (simp only [Act.put, List.setIfInBounds_toArray, List.set_cons_zero, List.set_cons_succ, i64_w, i32_w]; rfl)
        refine pure_ (i := 4) (N := some 48) (v := ?_) (a' := ?_) #[true, true, true, true, true, false, false, false, false, false, false, false, false, false, false, false, false, false, false, false, false, false, false, false, false] rfl rfl (by kernel_rfl) (fun _ _ _ h => h) (Or.inl ⟨by rfl, ?_⟩) ?_ ?_
        rotate_left
        · intro w'; go_simp; with_reducible rfl
        rotate_left; · (simp only [Act.put, List.setIfInBounds_toArray, List.set_cons_zero, List.set_cons_succ, i64_w, i32_w]; rfl)
        refine pure_ (i := 8) (N := some 52) (v := ?_) (a' := ?_) #[true, true, true, true, true, false, false, false, true, false, false, false, false, false, false, false, false, false, false, false, false, false, false, false, false] rfl rfl (by kernel_rfl) (fun _ _ _ h => h) (Or.inl ⟨by rfl, ?_⟩) ?_ ?_
        rotate_left
        · intro w'; go_simp; with_reducible rfl
        rotate_left; · (simp only [Act.put, List.setIfInBounds_toArray, List.set_cons_zero, List.set_cons_succ, i64_w, i32_w]; rfl)
        refine pure_ (i := 9) (N := some 53) (v := ?_) (a' := ?_) #[true, true, true, true, true, false, false, false, true, true, false, false, false, false, false, false, false, false, false, false, false, false, false, false, false] rfl rfl (by kernel_rfl) (fun _ _ _ h => h) (Or.inl ⟨by rfl, ?_⟩) ?_ ?_
        rotate_left
        · intro w'; go_simp; with_reducible rfl
        rotate_left; · (simp only [Act.put, List.setIfInBounds_toArray, List.set_cons_zero, List.set_cons_succ, i64_w, i32_w]; rfl)
        refine pure_ (i := 10) (N := some 54) (v := ?_) (a' := ?_) #[true, true, true, true, true, false, false, false, true, true, true, false, false, false, false, false, false, false, false, false, false, false, false, false, false] rfl rfl (by kernel_rfl) (fun _ _ _ h => h) (Or.inl ⟨by rfl, ?_⟩) ?_ ?_
        rotate_left
        · intro w'; go_simp; with_reducible rfl
        rotate_left; · (simp only [Act.put, List.setIfInBounds_toArray, List.set_cons_zero, List.set_cons_succ, i64_w, i32_w]; rfl)
        refine pure_ (i := 11) (N := some 55) (v := ?_) (a' := ?_) #[true, true, true, true, true, false, false, false, true, true, true, true, false, false, false, false, false, false, false, false, false, false, false, false, false] rfl rfl (by kernel_rfl) (fun _ _ _ h => h) (Or.inl ⟨by rfl, ?_⟩) ?_ ?_
        rotate_left
        · intro w'; go_simp; with_reducible rfl
        rotate_left; · (simp only [Act.put, List.setIfInBounds_toArray, List.set_cons_zero, List.set_cons_succ, i64_w, i32_w]; rfl)
        refine pure_ (i := 15) (N := some 59) (v := ?_) (a' := ?_) #[true, true, true, true, true, false, false, false, true, true, true, true, false, false, false, true, false, false, false, false, false, false, false, false, false] rfl rfl (by kernel_rfl) (fun _ _ _ h => h) (Or.inl ⟨by rfl, ?_⟩) ?_ ?_
        rotate_left
        · intro w'; go_simp; with_reducible rfl
        rotate_left; · (simp only [Act.put, List.setIfInBounds_toArray, List.set_cons_zero, List.set_cons_succ, i64_w, i32_w]; rfl)
        refine pure_ (i := 16) (N := some 60) (v := ?_) (a' := ?_) #[true, true, true, true, true, false, false, false, true, true, true, true, false, false, false, true, true, false, false, false, false, false, false, false, false] rfl rfl (by kernel_rfl) (fun _ _ _ h => h) (Or.inl ⟨by rfl, ?_⟩) ?_ ?_
        rotate_left
        · intro w'; go_simp; with_reducible rfl
        rotate_left; · (simp only [Act.put, List.setIfInBounds_toArray, List.set_cons_zero, List.set_cons_succ, i64_w, i32_w]; rfl)
        refine pure_ (i := 17) (N := some 61) (v := ?_) (a' := ?_) #[true, true, true, true, true, false, false, false, true, true, true, true, false, false, false, true, true, true, false, false, false, false, false, false, false] rfl rfl (by kernel_rfl) (fun _ _ _ h => h) (Or.inl ⟨by rfl, ?_⟩) ?_ ?_
        rotate_left
        · intro w'; go_simp; with_reducible rfl
        rotate_left; · (simp only [Act.put, List.setIfInBounds_toArray, List.set_cons_zero, List.set_cons_succ, i64_w, i32_w]; rfl)
        refine pure_ (i := 18) (N := some 62) (v := ?_) (a' := ?_) #[true, true, true, true, true, false, false, false, true, true, true, true, false, false, false, true, true, true, true, false, false, false, false, false, false] rfl rfl (by kernel_rfl) (fun _ _ _ h => h) (Or.inl ⟨by rfl, ?_⟩) ?_ ?_
        rotate_left
        · intro w'; go_simp; with_reducible rfl
        rotate_left; · (simp only [Act.put, List.setIfInBounds_toArray, List.set_cons_zero, List.set_cons_succ, i64_w, i32_w]; rfl)
        refine take_ (i := 5) (N := some 49) (v := ?_) (a' := ?_) #[true, true, true, true, true, true, false, false, true, true, true, true, false, false, false, true, true, true, true, false, false, false, false, false, false] rfl rfl (by kernel_rfl) (fun _ _ _ h => h) (Or.inl ⟨by rfl, ?_⟩) hHeld ?_ ?_
        rotate_left
        · intro w' hs_; have s0_ := pw_cell_below hs_ E1.out; clear hs_; go_simp; with_reducible rfl
        rotate_left; · (simp only [Act.put, List.setIfInBounds_toArray, List.set_cons_zero, List.set_cons_succ, i64_w, i32_w]; rfl)
        refine take_ (i := 12) (N := some 56) (v := ?_) (a' := ?_) #[true, true, true, true, true, true, false, false, true, true, true, true, true, false, false, true, true, true, true, false, false, false, false, false, false] rfl rfl (by kernel_rfl) (fun _ _ _ h => h) (Or.inl ⟨by rfl, ?_⟩) hHeld ?_ ?_
        rotate_left
        · intro w' hs_; have s0_ := pw_cell_below hs_ E2.out; clear hs_; go_simp; with_reducible rfl
        rotate_left; · (simp only [Act.put, List.setIfInBounds_toArray, List.set_cons_zero, List.set_cons_succ, i64_w, i32_w]; rfl)
        refine take_ (i := 19) (N := some 63) (v := ?_) (a' := ?_) #[true, true, true, true, true, true, false, false, true, true, true, true, true, false, false, true, true, true, true, true, false, false, false, false, false] rfl rfl (by kernel_rfl) (fun _ _ _ h => h) (Or.inl ⟨by rfl, ?_⟩) hHeld ?_ ?_
        rotate_left
        · intro w' hs_; have s0_ := pw_cell_below hs_ E3.out; clear hs_; go_simp; with_reducible rfl
        rotate_left; · (simp only [Act.put, List.setIfInBounds_toArray, List.set_cons_zero, List.set_cons_succ, i64_w, i32_w]; rfl)
        refine one_ (i := 6) (N := some 50) #[true, true, true, true, true, true, true, false, true, true, true, true, true, false, false, true, true, true, true, true, false, false, false, false, false] rfl rfl (by kernel_rfl) (by decide) (fun K hK => ?_)
        refine goes_ Try.func58 (by kernel_rfl) rfl #[.int .i64 x1, .int .i64 8] (by rfl) rfl rfl (by (try simp only [List.map_toArray, List.map_cons, List.map_nil]); first | done | rfl) ?_
        with_reducible refine (HP1.out _).mono ?_
        rintro e w' ⟨rfl, ⟨nd_, rfl⟩⟩; refine ⟨_, rfl, ?_⟩
        refine hK.out _ _ (pw_below_drewN hHeld nd_) (fun hHeld => ?_)
        clear hK K; refine norm_ (a' := ?_) ?_ ?_
        rotate_left
        · show Act.put _ (some 50) _ = _
          (simp only [Act.put, List.setIfInBounds_toArray, List.set_cons_zero, List.set_cons_succ, i64_w, i32_w]; rfl)
        refine pure_ (i := 7) (N := some 51) (v := ?_) (a' := ?_) #[true, true, true, true, true, true, true, true, true, true, true, true, true, false, false, true, true, true, true, true, false, false, false, false, false] rfl rfl (by kernel_rfl) (fun _ _ _ h => h) (Or.inl ⟨by rfl, ?_⟩) ?_ ?_
        rotate_left
        · intro w'; go_simp; with_reducible rfl
        rotate_left; · (simp only [Act.put, List.setIfInBounds_toArray, List.set_cons_zero, List.set_cons_succ, i64_w, i32_w]; rfl)
        refine one_ (i := 13) (N := some 57) #[true, true, true, true, true, true, true, true, true, true, true, true, true, true, false, true, true, true, true, true, false, false, false, false, false] rfl rfl (by kernel_rfl) (by decide) (fun K hK => ?_)
        refine goes_ Try.func58 (by kernel_rfl) rfl #[.int .i64 x2, .int .i64 8] (by rfl) rfl rfl (by (try simp only [List.map_toArray, List.map_cons, List.map_nil]); first | done | rfl) ?_
        with_reducible refine (HP2.out _).mono ?_
        rintro e w' ⟨rfl, ⟨nd_, rfl⟩⟩; refine ⟨_, rfl, ?_⟩
        refine hK.out _ _ (pw_below_drewN hHeld nd_) (fun hHeld => ?_)
        clear hK K; refine norm_ (a' := ?_) ?_ ?_
        rotate_left
        · show Act.put _ (some 57) _ = _
          (simp only [Act.put, List.setIfInBounds_toArray, List.set_cons_zero, List.set_cons_succ, i64_w, i32_w]; rfl)
        refine pure_ (i := 14) (N := some 58) (v := ?_) (a' := ?_) #[true, true, true, true, true, true, true, true, true, true, true, true, true, true, true, true, true, true, true, true, false, false, false, false, false] rfl rfl (by kernel_rfl) (fun _ _ _ h => h) (Or.inl ⟨by rfl, ?_⟩) ?_ ?_
        rotate_left
        · intro w'; go_simp; with_reducible rfl
        rotate_left; · (simp only [Act.put, List.setIfInBounds_toArray, List.set_cons_zero, List.set_cons_succ, i64_w, i32_w]; rfl)
        refine one_ (i := 20) (N := some 64) #[true, true, true, true, true, true, true, true, true, true, true, true, true, true, true, true, true, true, true, true, true, false, false, false, false] rfl rfl (by kernel_rfl) (by decide) (fun K hK => ?_)
        refine goes_ Try.func58 (by kernel_rfl) rfl #[.int .i64 x3, .int .i64 20] (by rfl) rfl rfl (by (try simp only [List.map_toArray, List.map_cons, List.map_nil]); first | done | rfl) ?_
        with_reducible refine (HP3.out _).mono ?_
        rintro e w' ⟨rfl, ⟨nd_, rfl⟩⟩; refine ⟨_, rfl, ?_⟩
        refine hK.out _ _ (pw_below_drewN hHeld nd_) (fun hHeld => ?_)
        clear hK K; refine norm_ (a' := ?_) ?_ ?_
        rotate_left
        · show Act.put _ (some 64) _ = _
          (simp only [Act.put, List.setIfInBounds_toArray, List.set_cons_zero, List.set_cons_succ, i64_w, i32_w]; rfl)
        refine pure_ (i := 21) (N := some 65) (v := ?_) (a' := ?_) #[true, true, true, true, true, true, true, true, true, true, true, true, true, true, true, true, true, true, true, true, true, true, false, false, false] rfl rfl (by kernel_rfl) (fun _ _ _ h => h) (Or.inl ⟨by rfl, ?_⟩) ?_ ?_
        rotate_left
        · intro w'; go_simp; with_reducible rfl
        rotate_left; · (simp only [Act.put, List.setIfInBounds_toArray, List.set_cons_zero, List.set_cons_succ, i64_w, i32_w]; rfl)
        refine one_ (i := 22) (N := some 66) #[true, true, true, true, true, true, true, true, true, true, true, true, true, true, true, true, true, true, true, true, true, true, true, false, false] rfl rfl (by kernel_rfl) (by decide) (fun K hK => ?_)
        refine goes_ Try.func68 (by kernel_rfl) rfl #[.int .u64 (IntKind.u64.wrap (p3 : Int))] (by rfl) rfl rfl (by (try simp only [List.map_toArray, List.map_cons, List.map_nil]); first | done | rfl) ?_
        with_reducible refine (HNi.out _).mono ?_
        rintro e wq_22 ⟨rfl, hb⟩; refine ⟨_, rfl, ?_⟩
        refine hK.out _ _ (below_step hHeld hb) (fun hHeld => ?_)
        clear hK K; refine norm_ (a' := ?_) ?_ ?_
        rotate_left
        · show Act.put _ (some 66) _ = _
          (simp only [Act.put, List.setIfInBounds_toArray, List.set_cons_zero, List.set_cons_succ, i64_w, i32_w]; rfl)
        refine pure_ (i := 23) (N := some 67) (v := ?_) (a' := ?_) #[true, true, true, true, true, true, true, true, true, true, true, true, true, true, true, true, true, true, true, true, true, true, true, true, false] rfl rfl (by kernel_rfl) (fun _ _ _ h => h) (Or.inl ⟨by rfl, ?_⟩) ?_ ?_
        rotate_left
        · intro w'; go_simp; with_reducible rfl
        rotate_left; · (simp only [Act.put, List.setIfInBounds_toArray, List.set_cons_zero, List.set_cons_succ, i64_w, i32_w]; rfl)
        refine last_ (i := 24) (N := some 68) #[true, true, true, true, true, true, true, true, true, true, true, true, true, true, true, true, true, true, true, true, true, true, true, true, true] rfl rfl (by kernel_rfl) (by decide) (fun K hK => ?_)
        refine goes_ Try.func63 (by kernel_rfl) rfl #[.pointer (some ⟨g, 0, none⟩), .agg #[.int .i64 (1 + (p1 : Int)), .int .i64 (1 + (p2 : Int)), .string T]] (by rfl) rfl rfl (by (try simp only [List.map_toArray, List.map_cons, List.map_nil]); first | done | rfl) ?_
        refine (HS.out _ (HN.out.below hHeld)).mono ?_
        rintro e w5 ⟨rfl, F5, hn, hF, hr⟩; have HB5 := Aside0.mk ((below_step HB.out hHeld).trans (hr.toBelow (fun k hk => (HN.out.2.1 k hk).1) (Nat.le_trans HN.out.2.2 hHeld.size))); have HO5 := Aside0.mk (HO.out.near2 hHeld hr hF); have HN5 := Aside0.mk hn; clear hn hF hr
        refine ⟨_, rfl, ?_⟩
        refine hK.out _ _ ?_
        clear hK K; refine norm_ (a' := ?_) ?_ ?_
        rotate_left
        · show Act.put _ (some 68) _ = _
          (simp only [Act.put, List.setIfInBounds_toArray, List.set_cons_zero, List.set_cons_succ, i64_w, i32_w]; rfl)
        refine done_ (by kernel_rfl) ?_
        go_upto_region 15 with (fail)
        clear HS HNi z3 z4 z3b z4b hHeld
      all_goals
        clear HN HO HB HP1 HP2 HP3 HPo E1 E2 E3 HQ; have HM5 := Aside0.mk (show s5.many ≤ 100 ∧ s5.lie.length ≤ 100 by have := HSs.out.1; have := HSs.out.2.1; have := HL.out; have := HCI.out; omega)
        go_upto_region 16 with (go_at_call 66; go_loud (refine (HHe.out _ _ _ _ HN5.out HM5.out.1).mono ?_; rintro e w6 ⟨v6, rfl, hlh, hb⟩; obtain ⟨A7, c7, rfl⟩ := Kd.R_slice hlh; have HN6 := Aside0.mk (HN5.out.below hb); have HO6 := Aside0.mk (HO5.out.below hb); have HB6 := Aside0.mk (below_step HB5.out hb); have HH6 := Aside0.mk (Loc.new (B := w.heap.size) (F := F5) hlh (fun k hk => (HN5.out.2.1 k hk).2) HB5.out.size); clear hlh hb))
        clear HN5 HO5 HB5; have HHL := Aside0.mk (show s5.heard.length < 1000000000000 ∧ s.heard.length < 1000000000000 by have := HSs.out.heard; have := HSi.out.heard; have := HL.out; have := HCI.out; omega)
        go_wp2; go_loopg [8] s5.heard.length (fun kq v8 w' => ∃ (k : Nat), v8 = .int .i64 (k : Int) ∧ Aside0 (k + kq = s5.heard.length) ∧ Aside0 (NetL w.heap.size w' g s5 F5) ∧ Aside0 (Loc Kd.string 48 w.heap.size F5 w' (.slice A5 s.heard.length c5) s.heard) ∧ Aside0 (Loc Kd.string 48 w.heap.size F5 w' (.slice A7 s5.heard.length c7) s5.heard) ∧ Aside0 (Below w.heap.size w w'))
        case atStart => exact ⟨0, rfl, ⟨Nat.zero_add _⟩, HN6, HO6, HH6, HB6⟩
        case round =>
          clear HN6 HO6 HH6 HB6; obtain ⟨k, rfl, HKA, HN, HO, HH, HB⟩ := hrel; by_cases ck : k < s5.heard.length
          · obtain ⟨k2, rfl⟩ : ∃ k2, gk = k2 + 1 := ⟨gk - 1, by have := HKA.out; omega⟩
            have cb : decide ((k : Int) < (s5.heard.length : Int)) = true := decide_eq_true (by omega)
            have cb2 : decide (k < s5.heard.length) = true := decide_eq_true ck
            have hw4 : IntKind.i64.wrap ((k : Int) + 1) = ((k + 1 : Nat) : Int) := by rw [i64_w]; unfold wrap64; have := HHL.out.1; omega
            by_cases c0k : k = 0
            case' pos =>
              have z0 : decide ((0 : Int) < (k : Int)) = false := decide_eq_false (by omega)
              have z1 : decide (0 < k) = false := decide_eq_false (by omega)
              clear c0k; go_upto_region 19 with (fail)
              have HNw := Aside0.mk HN.out
              clear cb cb2; refine start_ (n := 14) (S := fun w' => Below wr.heap.size wr w') (ds := []) #[false, false, false, false, false, false, false, false, false, false, false, false, false, false] (by kernel_rfl) rfl rfl (below_drew1 (Below.refl _ _)) (fun hHeld => ?_)
              generalize hWd : wr.drew = Wd at hHeld ⊢
              clear hWd; refine pure_ (i := 0) (N := some 97) (v := ?_) (a' := ?_) #[true, false, false, false, false, false, false, false, false, false, false, false, false, false] rfl rfl (by kernel_rfl) (fun _ _ _ h => h) (Or.inl ⟨by rfl, ?_⟩) ?_ ?_
              rotate_left
              · intro w'; go_simp; with_reducible rfl
              rotate_left; · (simp only [Act.put, List.setIfInBounds_toArray, List.set_cons_zero, List.set_cons_succ, i64_w, i32_w]; rfl)
              refine pure_ (i := 1) (N := some 98) (v := ?_) (a' := ?_) #[true, true, false, false, false, false, false, false, false, false, false, false, false, false] rfl rfl (by kernel_rfl) (fun _ _ _ h => h) (Or.inl ⟨by rfl, ?_⟩) ?_ ?_
              rotate_left
              · intro w'; go_simp; with_reducible rfl
              rotate_left; · (simp only [Act.put, List.setIfInBounds_toArray, List.set_cons_zero, List.set_cons_succ, i64_w, i32_w]; rfl)
              refine pure_ (i := 2) (N := some 99) (v := ?_) (a' := ?_) #[true, true, true, false, false, false, false, false, false, false, false, false, false, false] rfl rfl (by kernel_rfl) (fun _ _ _ h => h) (Or.inl ⟨by rfl, ?_⟩) ?_ ?_
              rotate_left
              · intro w'; go_simp; with_reducible rfl
              rotate_left; · (simp only [Act.put, List.setIfInBounds_toArray, List.set_cons_zero, List.set_cons_succ, i64_w, i32_w]; rfl)
              refine pure_ (i := 3) (N := some 100) (v := undef) (a' := ?_) #[true, true, true, true, false, false, false, false, false, false, false, false, false, false] rfl rfl (by kernel_rfl) (fun _ _ _ h => h) (Or.inr ⟨by rfl, rfl⟩) ?_ ?_
              rotate_left; · (simp only [Act.put, List.setIfInBounds_toArray, List.set_cons_zero, List.set_cons_succ, i64_w, i32_w]; rfl)
              refine pure_ (i := 4) (N := some 101) (v := undef) (a' := ?_) #[true, true, true, true, true, false, false, false, false, false, false, false, false, false] rfl rfl (by kernel_rfl) (fun _ _ _ h => h) (Or.inr ⟨by rfl, rfl⟩) ?_ ?_
              rotate_left; · (simp only [Act.put, List.setIfInBounds_toArray, List.set_cons_zero, List.set_cons_succ, i64_w, i32_w]; rfl)
              refine pure_ (i := 5) (N := some 102) (v := undef) (a' := ?_) #[true, true, true, true, true, true, false, false, false, false, false, false, false, false] rfl rfl (by kernel_rfl) (fun _ _ _ h => h) (Or.inr ⟨by rfl, rfl⟩) ?_ ?_
              rotate_left; · (simp only [Act.put, List.setIfInBounds_toArray, List.set_cons_zero, List.set_cons_succ, i64_w, i32_w]; rfl)
              refine pure_ (i := 6) (N := some 103) (v := undef) (a' := ?_) #[true, true, true, true, true, true, true, false, false, false, false, false, false, false] rfl rfl (by kernel_rfl) (fun _ _ _ h => h) (Or.inr ⟨by rfl, rfl⟩) ?_ ?_
              rotate_left; · (simp only [Act.put, List.setIfInBounds_toArray, List.set_cons_zero, List.set_cons_succ, i64_w, i32_w]; rfl)
              refine pure_ (i := 7) (N := some 104) (v := undef) (a' := ?_) #[true, true, true, true, true, true, true, true, false, false, false, false, false, false] rfl rfl (by kernel_rfl) (fun _ _ _ h => h) (Or.inr ⟨by rfl, rfl⟩) ?_ ?_
              rotate_left; · (simp only [Act.put, List.setIfInBounds_toArray, List.set_cons_zero, List.set_cons_succ, i64_w, i32_w]; rfl)
              refine pure_ (i := 8) (N := some 105) (v := undef) (a' := ?_) #[true, true, true, true, true, true, true, true, true, false, false, false, false, false] rfl rfl (by kernel_rfl) (fun _ _ _ h => h) (Or.inr ⟨by rfl, rfl⟩) ?_ ?_
              rotate_left; · (simp only [Act.put, List.setIfInBounds_toArray, List.set_cons_zero, List.set_cons_succ, i64_w, i32_w]; rfl)
              refine pure_ (i := 9) (N := some 106) (v := undef) (a' := ?_) #[true, true, true, true, true, true, true, true, true, true, false, false, false, false] rfl rfl (by kernel_rfl) (fun _ _ _ h => h) (Or.inr ⟨by rfl, rfl⟩) ?_ ?_
              rotate_left; · (simp only [Act.put, List.setIfInBounds_toArray, List.set_cons_zero, List.set_cons_succ, i64_w, i32_w]; rfl)
              refine pure_ (i := 10) (N := some 107) (v := undef) (a' := ?_) #[true, true, true, true, true, true, true, true, true, true, true, false, false, false] rfl rfl (by kernel_rfl) (fun _ _ _ h => h) (Or.inr ⟨by rfl, rfl⟩) ?_ ?_
              rotate_left; · (simp only [Act.put, List.setIfInBounds_toArray, List.set_cons_zero, List.set_cons_succ, i64_w, i32_w]; rfl)
              refine pure_ (i := 11) (N := some 108) (v := undef) (a' := ?_) #[true, true, true, true, true, true, true, true, true, true, true, true, false, false] rfl rfl (by kernel_rfl) (fun _ _ _ h => h) (Or.inr ⟨by rfl, rfl⟩) ?_ ?_
              rotate_left; · (simp only [Act.put, List.setIfInBounds_toArray, List.set_cons_zero, List.set_cons_succ, i64_w, i32_w]; rfl)
              refine pure_ (i := 12) (N := some 109) (v := undef) (a' := ?_) #[true, true, true, true, true, true, true, true, true, true, true, true, true, false] rfl rfl (by kernel_rfl) (fun _ _ _ h => h) (Or.inr ⟨by rfl, rfl⟩) ?_ ?_
              rotate_left; · (simp only [Act.put, List.setIfInBounds_toArray, List.set_cons_zero, List.set_cons_succ, i64_w, i32_w]; rfl)
              refine pure_ (i := 13) (N := some 110) (v := ?_) (a' := ?_) #[true, true, true, true, true, true, true, true, true, true, true, true, true, true] rfl rfl (by kernel_rfl) (fun _ _ _ h => h) (Or.inl ⟨by rfl, ?_⟩) ?_ ?_
              rotate_left
              · intro w'; go_simp; with_reducible rfl
              rotate_left; · (simp only [Act.put, List.setIfInBounds_toArray, List.set_cons_zero, List.set_cons_succ, i64_w, i32_w]; rfl)
              refine done_ (by kernel_rfl) ?_
            case' neg =>
              have z0 : decide ((0 : Int) < (k : Int)) = true := decide_eq_true (by omega)
              have z1 : decide (0 < k) = true := decide_eq_true (by omega)
              obtain ⟨ad7, e7, hy⟩ := Kd.at_string HH.out.reads.2.2 (k : Int) (by omega) (by omega)
              cases e7
              obtain ⟨ad8, e8, hz⟩ := Kd.at_string HH.out.reads.2.2 ((k - 1 : Nat) : Int) (by omega) (by omega)
              cases e8
              simp only [Int.toNat_natCast] at hy hz
              have hk1 : k - 1 < s5.heard.length := by omega
              have hw5 : IntKind.i64.wrap ((k : Int) - 1) = ((k - 1 : Nat) : Int) := by rw [i64_w]; unfold wrap64; have := HHL.out.1; omega
              have hlt := srt_step HN.out k (by omega) ck
              generalize rdOf ByteArray.empty s5.heard (k : Int) = X at hy hlt
              generalize rdOf ByteArray.empty s5.heard ((k - 1 : Nat) : Int) = Y at hz hlt
              have hlf : Op.bytesLess X.toList Y.toList = false := (less_not _ _).mpr (fun h => List.lt_irrefl _ (List.lt_trans hlt h))
              have hle : (X.toList == Y.toList) = false := beq_eq_false_iff_ne.mpr (fun h => by rw [toList_ne.mp h] at hlt; exact List.lt_irrefl _ hlt)
              have HY := Aside0.mk hy
              have HZ := Aside0.mk hz
              clear hlt c0k hy hz; go_upto_region 19 with (fail)
              have HNw := Aside0.mk HN.out
              clear cb cb2; refine start_ (n := 14) (S := fun w' => Below wr.heap.size wr w') (ds := []) #[false, false, false, false, false, false, false, false, false, false, false, false, false, false] (by kernel_rfl) rfl rfl (below_drew1 (Below.refl _ _)) (fun hHeld => ?_)
              generalize hWd : wr.drew = Wd at hHeld ⊢
              clear hWd; refine pure_ (i := 0) (N := some 97) (v := ?_) (a' := ?_) #[true, false, false, false, false, false, false, false, false, false, false, false, false, false] rfl rfl (by kernel_rfl) (fun _ _ _ h => h) (Or.inl ⟨by rfl, ?_⟩) ?_ ?_
              rotate_left
              · intro w'; go_simp; with_reducible rfl
              rotate_left; · (simp only [Act.put, List.setIfInBounds_toArray, List.set_cons_zero, List.set_cons_succ, i64_w, i32_w]; rfl)
              refine pure_ (i := 1) (N := some 98) (v := ?_) (a' := ?_) #[true, true, false, false, false, false, false, false, false, false, false, false, false, false] rfl rfl (by kernel_rfl) (fun _ _ _ h => h) (Or.inl ⟨by rfl, ?_⟩) ?_ ?_
              rotate_left
              · intro w'; go_simp; with_reducible rfl
              rotate_left; · (simp only [Act.put, List.setIfInBounds_toArray, List.set_cons_zero, List.set_cons_succ, i64_w, i32_w]; rfl)
              refine pure_ (i := 2) (N := some 99) (v := ?_) (a' := ?_) #[true, true, true, false, false, false, false, false, false, false, false, false, false, false] rfl rfl (by kernel_rfl) (fun _ _ _ h => h) (Or.inl ⟨by rfl, ?_⟩) ?_ ?_
              rotate_left
              · intro w'; go_simp; with_reducible rfl
              rotate_left; · (simp only [Act.put, List.setIfInBounds_toArray, List.set_cons_zero, List.set_cons_succ, i64_w, i32_w]; rfl)
              refine pure_ (i := 3) (N := some 100) (v := ?_) (a' := ?_) #[true, true, true, true, false, false, false, false, false, false, false, false, false, false] rfl rfl (by kernel_rfl) (fun _ _ _ h => h) (Or.inl ⟨by rfl, ?_⟩) ?_ ?_
              rotate_left
              · intro w'; go_simp; with_reducible rfl
              rotate_left; · (simp only [Act.put, List.setIfInBounds_toArray, List.set_cons_zero, List.set_cons_succ, i64_w, i32_w]; rfl)
              refine pure_ (i := 4) (N := some 101) (v := ?_) (a' := ?_) #[true, true, true, true, true, false, false, false, false, false, false, false, false, false] rfl rfl (by kernel_rfl) (fun _ _ _ h => h) (Or.inl ⟨by rfl, ?_⟩) ?_ ?_
              rotate_left
              · intro w'; go_simp; with_reducible rfl
              rotate_left; · (simp only [Act.put, List.setIfInBounds_toArray, List.set_cons_zero, List.set_cons_succ, i64_w, i32_w]; rfl)
              refine pure_ (i := 5) (N := some 102) (v := ?_) (a' := ?_) #[true, true, true, true, true, true, false, false, false, false, false, false, false, false] rfl rfl (by kernel_rfl) (fun _ _ _ h => h) (Or.inl ⟨by rfl, ?_⟩) ?_ ?_
              rotate_left
              · intro w'; go_simp; with_reducible rfl
              rotate_left; · (simp only [Act.put, List.setIfInBounds_toArray, List.set_cons_zero, List.set_cons_succ, i64_w, i32_w]; rfl)
              refine take_ (i := 6) (N := some 103) (v := ?_) (a' := ?_) #[true, true, true, true, true, true, true, false, false, false, false, false, false, false] rfl rfl (by kernel_rfl) (fun _ _ _ h => h) (Or.inl ⟨by rfl, ?_⟩) hHeld ?_ ?_
              rotate_left
              · intro w' hs_; have s0_ := pw_cell_below hs_ HY.out; clear hs_; go_simp; with_reducible rfl
              rotate_left; · (simp only [Act.put, List.setIfInBounds_toArray, List.set_cons_zero, List.set_cons_succ, i64_w, i32_w]; rfl)
              refine pure_ (i := 7) (N := some 104) (v := ?_) (a' := ?_) #[true, true, true, true, true, true, true, true, false, false, false, false, false, false] rfl rfl (by kernel_rfl) (fun _ _ _ h => h) (Or.inl ⟨by rfl, ?_⟩) ?_ ?_
              rotate_left
              · intro w'; go_simp; with_reducible rfl
              rotate_left; · (simp only [Act.put, List.setIfInBounds_toArray, List.set_cons_zero, List.set_cons_succ, i64_w, i32_w]; rfl)
              refine pure_ (i := 8) (N := some 105) (v := ?_) (a' := ?_) #[true, true, true, true, true, true, true, true, true, false, false, false, false, false] rfl rfl (by kernel_rfl) (fun _ _ _ h => h) (Or.inl ⟨by rfl, ?_⟩) ?_ ?_
              rotate_left
              · intro w'; go_simp; with_reducible rfl
              rotate_left; · (simp only [Act.put, List.setIfInBounds_toArray, List.set_cons_zero, List.set_cons_succ, i64_w, i32_w]; rfl)
              refine pure_ (i := 9) (N := some 106) (v := ?_) (a' := ?_) #[true, true, true, true, true, true, true, true, true, true, false, false, false, false] rfl rfl (by kernel_rfl) (fun _ _ _ h => h) (Or.inl ⟨by rfl, ?_⟩) ?_ ?_
              rotate_left
              · intro w'; go_simp; with_reducible rfl
              rotate_left; · (simp only [Act.put, List.setIfInBounds_toArray, List.set_cons_zero, List.set_cons_succ, i64_w, i32_w]; rfl)
              refine pure_ (i := 10) (N := some 107) (v := ?_) (a' := ?_) #[true, true, true, true, true, true, true, true, true, true, true, false, false, false] rfl rfl (by kernel_rfl) (fun _ _ _ h => h) (Or.inl ⟨by rfl, ?_⟩) ?_ ?_
              rotate_left
              · intro w'; go_simp; with_reducible rfl
              rotate_left; · (simp only [Act.put, List.setIfInBounds_toArray, List.set_cons_zero, List.set_cons_succ, i64_w, i32_w]; rfl)
              refine take_ (i := 11) (N := some 108) (v := ?_) (a' := ?_) #[true, true, true, true, true, true, true, true, true, true, true, true, false, false] rfl rfl (by kernel_rfl) (fun _ _ _ h => h) (Or.inl ⟨by rfl, ?_⟩) hHeld ?_ ?_
              rotate_left
              · intro w' hs_; have s0_ := pw_cell_below hs_ HZ.out; clear hs_; go_simp; with_reducible rfl
              rotate_left; · (simp only [Act.put, List.setIfInBounds_toArray, List.set_cons_zero, List.set_cons_succ, i64_w, i32_w]; rfl)
              refine pure_ (i := 12) (N := some 109) (v := ?_) (a' := ?_) #[true, true, true, true, true, true, true, true, true, true, true, true, true, false] rfl rfl (by kernel_rfl) (fun _ _ _ h => h) (Or.inl ⟨by rfl, ?_⟩) ?_ ?_
              rotate_left
              · intro w'; go_simp; with_reducible rfl
              rotate_left; · (simp only [Act.put, List.setIfInBounds_toArray, List.set_cons_zero, List.set_cons_succ, i64_w, i32_w]; rfl)
              refine pure_ (i := 13) (N := some 110) (v := ?_) (a' := ?_) #[true, true, true, true, true, true, true, true, true, true, true, true, true, true] rfl rfl (by kernel_rfl) (fun _ _ _ h => h) (Or.inl ⟨by rfl, ?_⟩) ?_ ?_
              rotate_left
              · intro w'; go_simp; with_reducible rfl
              rotate_left; · (simp only [Act.put, List.setIfInBounds_toArray, List.set_cons_zero, List.set_cons_succ, i64_w, i32_w]; rfl)
              refine done_ (by kernel_rfl) ?_
            all_goals
              go_wp2; go_roundg k2
              case measure => omega
              case rel => exact ⟨k + 1, rfl, ⟨by have := HKA.out; omega⟩, ⟨HN.out.below hHeld⟩, ⟨HO.out.below hHeld⟩, ⟨HH.out.below hHeld⟩, ⟨below_step HB.out hHeld⟩⟩
          · have cb : decide ((k : Int) < (s5.heard.length : Int)) = false := decide_eq_false (by omega)
            have cb2 : decide (k < s5.heard.length) = false := decide_eq_false ck
            clear HKA ck; go_wp2; go_loopg [9] s.heard.length (fun kq v9 w' => ∃ (k : Nat), v9 = .int .i64 (k : Int) ∧ Aside0 (k + kq = s.heard.length) ∧ Aside0 (NetL w.heap.size w' g s5 F5) ∧ Aside0 (Loc Kd.string 48 w.heap.size F5 w' (.slice A5 s.heard.length c5) s.heard) ∧ Aside0 (Loc Kd.string 48 w.heap.size F5 w' (.slice A7 s5.heard.length c7) s5.heard) ∧ Aside0 (Below w.heap.size w w'))
            case atStart => exact ⟨0, rfl, ⟨Nat.zero_add _⟩, HN, HO, HH, HB⟩
            case round =>
              clear HN HO HH HB cb cb2; obtain ⟨k, rfl, HKA, HN, HO, HH, HB⟩ := hrel; have hc7 : s5.heard.length ≤ c7 := HH.out.reads.2.1
              by_cases ck : k < s.heard.length
              · obtain ⟨k2, rfl⟩ : ∃ k2, gk = k2 + 1 := ⟨gk - 1, by have := HKA.out; omega⟩
                have cb : decide ((k : Int) < (s.heard.length : Int)) = true := decide_eq_true (by omega)
                have cb2 : decide (k < s.heard.length) = true := decide_eq_true ck
                have hw4 : IntKind.i64.wrap ((k : Int) + 1) = ((k + 1 : Nat) : Int) := by rw [i64_w]; unfold wrap64; have := HHL.out.2; omega
                obtain ⟨ad7, e7, hy⟩ := Kd.at_string HO.out.reads.2.2 (k : Int) (by omega) (by omega)
                cases e7
                simp only [Int.toNat_natCast] at hy; have hx := HSub.out _ (rd_mem ck)
                generalize rdOf ByteArray.empty s.heard (k : Int) = X at hy hx
                have HX := Aside0.mk (fun (W : World) (h : Kd.string.C W A7 s5.heard.length s5.heard) => gemotlaw8_has.calls A7 c7 s5.heard X true W h hc7 (has_mem hx))
                have HY := Aside0.mk hy
                have HHC := Aside0.mk HH.out.reads.2.2
                clear hx; go_wp2_with (go_at_call 69; (with_reducible refine (HX.out _ HHC.out).mono ?_); rintro e w' ⟨rfl, ⟨nd, rfl⟩⟩; have hHeld := pw_below_drewN (Below.refl wr.heap.size wr) nd)
                go_roundg k2
                case measure => omega
                case rel => exact ⟨k + 1, rfl, ⟨by have := HKA.out; omega⟩, ⟨HN.out.below hHeld⟩, ⟨HO.out.below hHeld⟩, ⟨HH.out.below hHeld⟩, ⟨below_step HB.out hHeld⟩⟩
              · have cb : decide ((k : Int) < (s.heard.length : Int)) = false := decide_eq_false (by omega)
                have cb2 : decide (k < s.heard.length) = false := decide_eq_false ck
                clear HKA ck HO; have HLi := Aside0.mk (fun (W : World) (h : NetIn W g F5 s5) => net_Net_Lie.calls W g F5 _ h (by have := HM5.out.2; omega))
                go_upto_region 27 with (go_at_call 65; go_loud (refine (HLi.out _ HN.out.1).mono ?_; rintro e w7 ⟨vl, rfl, hl, hb⟩; obtain ⟨A9, c9, rfl⟩ := Kd.R_slice hl; have HN7 := Aside0.mk (HN.out.below hb); have HB7 := Aside0.mk (below_step HB.out hb); have HH7 := Aside0.mk (HH.out.below hb); have HL7 := Aside0.mk (Loc.new (B := w.heap.size) (F := F5) hl (fun k hk => (HN.out.2.1 k hk).2) HB.out.size); clear hb hl))
                clear HN HH HB HLi cb cb2; go_wp2; go_loopg [11] s5.lie.length (fun kq v11 w' => ∃ (k : Nat), v11 = .int .i64 (k : Int) ∧ Aside0 (k + kq = s5.lie.length) ∧ Aside0 (NetL w.heap.size w' g s5 F5) ∧ Aside0 (Loc k114 114 w.heap.size F5 w' (.slice A9 s5.lie.length c9) s5.lie) ∧ Aside0 (Loc Kd.string 48 w.heap.size F5 w' (.slice A7 s5.heard.length c7) s5.heard) ∧ Aside0 (Below w.heap.size w w'))
                case atStart => exact ⟨0, rfl, ⟨Nat.zero_add _⟩, HN7, HL7, HH7, HB7⟩
                case round =>
                  clear HN7 HL7 HH7 HB7; obtain ⟨k, rfl, HKA, HN, HO, HH, HB⟩ := hrel; by_cases ck : k < s5.lie.length
                  · obtain ⟨k2, rfl⟩ : ∃ k2, gk = k2 + 1 := ⟨gk - 1, by have := HKA.out; omega⟩
                    have cb : decide ((k : Int) < (s5.lie.length : Int)) = true := decide_eq_true (by omega)
                    have cb2 : decide (k < s5.lie.length) = true := decide_eq_true ck
                    have hw4 : IntKind.i64.wrap ((k : Int) + 1) = ((k + 1 : Nat) : Int) := by rw [i64_w]; unfold wrap64; have := HM5.out.2; omega
                    obtain ⟨ad9, e4, hu0, hu1, hu2⟩ := at_T114 HO.out.reads.2.2 (k : Int) (by omega) (by omega)
                    cases e4
                    simp only [Int.toNat_natCast] at hu2; have hx := HSs.out.2.2.1 _ (rdT_mem ck)
                    generalize (rd_T114 s5.lie (k : Int)).f2 = X at hu2 hx
                    have HX := Aside0.mk (fun (W : World) (h : Kd.string.C W A7 s5.heard.length s5.heard) => gemotlaw8_has.calls A7 c7 s5.heard X true W h hc7 (has_mem hx))
                    have HU := Aside0.mk hu2
                    have HHC := Aside0.mk HH.out.reads.2.2
                    clear hx hu0 hu1; go_wp2_with (go_at_call 69; (with_reducible refine (HX.out _ HHC.out).mono ?_); rintro e w' ⟨rfl, ⟨nd, rfl⟩⟩; have hHeld := pw_below_drewN (Below.refl wr.heap.size wr) nd)
                    go_roundg k2
                    case measure => omega
                    case rel => exact ⟨k + 1, rfl, ⟨by have := HKA.out; omega⟩, ⟨HN.out.below hHeld⟩, ⟨HO.out.below hHeld⟩, ⟨HH.out.below hHeld⟩, ⟨below_step HB.out hHeld⟩⟩
                  · have cb : decide ((k : Int) < (s5.lie.length : Int)) = false := decide_eq_false (by omega)
                    have cb2 : decide (k < s5.lie.length) = false := decide_eq_false ck
                    clear HKA ck HO; go_wp2; go_roundg k1
                    case measure => omega
                    case rel => exact ⟨i + 1, F5, s5, rfl, ⟨by have := HK.out; omega⟩, HSs, HN, HH, HB⟩
    · have cb : decide ((i : Int) < (l0.length : Int)) = false := decide_eq_false (by omega)
      have cb2 : decide (i < l0.length) = false := decide_eq_false ci
      go_wp2; go_ret
      exact ⟨rfl, HB0.out⟩
def gemotlaw8_NetHeard.f (l0 : List S112) : Option (Bool) := if ∀ x ∈ l0, In64 x.f0 ∧ In64 x.f1 ∧ In64 x.f2 ∧ In64 x.f3 then some true else none
theorem gemotlaw8_NetHeard.calls (A0 : Option Addr) (c0 : Nat) (l0 : List S112) (r : Bool) (w : World) (hr0 : Kd.C k112 w A0 l0.length l0) (hc0 : l0.length ≤ c0) (h : gemotlaw8_NetHeard.f l0 = some r) :
    Calls Try.prog 13 #[.slice A0 l0.length c0] w fun e w' => e = .returned (.bool r) ∧ Below w.heap.size w w' := by
  unfold gemotlaw8_NetHeard.f at h
  split at h
  case isFalse => cases h
  rename_i hs
  cases h
  by_cases hl : l0.length ≤ 60
  · exact gemotlaw8_NetHeard.good A0 c0 l0 w hr0 hl hs
  · exact gemotlaw8_NetHeard.long A0 c0 l0 w (by omega)

end Go.Proofs.Ytppimpadfgldjaa.F
