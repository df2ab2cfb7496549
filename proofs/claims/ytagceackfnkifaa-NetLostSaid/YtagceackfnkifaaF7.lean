-- Laid by mk.py (a program of this session) over the seat's translation.
import Derived.Test.YtagceackfnkifaaF0
import Derived.Test.YtagceackfnkifaaF23
import Derived.Test.YtagceackfnkifaaF24
import Derived.Test.YtagceackfnkifaaF25
import Derived.Test.YtagceackfnkifaaB1
import Derived.Test.YtagceackfnkifaaF28
import Derived.Test.YtagceackfnkifaaF30
import Derived.Test.YtagceackfnkifaaF54
import Derived.Test.YtagceackfnkifaaF71
import Derived.Test.YtagceackfnkifaaF73
import Derived.RegionTactic
import Derived.BigRegion
import Derived.StillTailTactics
import Derived.Deep.RegionWith
import Derived.Deep.LoopGhost
import Derived.Test.YtagceackfnkifaaLNetLaw
namespace Go.Proofs.Ytagceackfnkifaa.F
open Go.RowKit Go.Proofs.YtagceackfnkifaaW.PrintWords Go.Proofs.YtagceackfnkifaaW.PrintLast Go.Proofs.YtagceackfnkifaaW.PrintMore
attribute [local go_sem] max2_int min2_int max_two min_two max_three min_three max_four min_four
set_option linter.unusedVariables false
set_option linter.unusedSimpArgs false

/-! ### gemotlaw8_NetRoom: function 7 -/
open Go.Maps Go.Proofs.Ytagceackfnkifaa.Pure
theorem room_byte {a b : Int} (h : UInt8.ofNat (a % 256).toNat = UInt8.ofNat (b % 256).toNat) : a % 256 = b % 256 := by
  have := congrArg UInt8.toNat h
  rw [UInt8.toNat_ofNat_of_lt' (by simp; omega), UInt8.toNat_ofNat_of_lt' (by simp; omega)] at this
  omega
theorem room_bytes {a b : Int} (h : numF a = numF b) : (shr .u64 a 8) % 256 = (shr .u64 b 8) % 256 ∧ (shr .u64 a 0) % 256 = (shr .u64 b 0) % 256 := by
  have h1 := congrArg (fun x => x.data.toList) h
  simp only [numF, countF, strOfNums_data, eightL, List.map_cons, List.map_nil, List.cons.injEq, and_true, true_and] at h1; obtain ⟨h7, h6, h5, h4, h3, h2, h1, h0⟩ := h1; exact ⟨room_byte h1, room_byte h0⟩
theorem room_wrap (i : Nat) (h : i < 500) : IntKind.u64.wrap (i : Int) = (i : Int) := by
  have w : IntKind.u64.wrap (i : Int) = (i : Int) % 18446744073709551616 := rfl
  rw [w]; omega
theorem room_inj {i j : Nat} (hi : i < 500) (hj : j < 500) (h : numF (IntKind.u64.wrap (i : Int)) = numF (IntKind.u64.wrap (j : Int))) : i = j := by
  rw [room_wrap i hi, room_wrap j hj] at h
  have := room_bytes h
  have s : ∀ (x : Int) (j : Nat), j ≤ 64 → shr .u64 x (j : Int) = x / ((2 ^ j : Nat) : Int) := by
    intro x j hj; unfold shr
    rw [Nat.min_eq_left (by show ((j : Int)).toNat ≤ 64; omega), Int.toNat_natCast]
    congr 1
  have h8 := this.1; have h0 := this.2; rw [show (8 : Int) = ((8 : Nat) : Int) from rfl, s _ 8 (by decide), s _ 8 (by decide)] at h8
  rw [show (0 : Int) = ((0 : Nat) : Int) from rfl, s _ 0 (by decide), s _ 0 (by decide)] at h0
  omega
theorem room_g (n : Int) : (⟨#[103]⟩ : ByteArray) ≠ numF n := fun h => by
  have := congrArg ByteArray.size h
  rw [numF_size] at this
  revert this
  decide
theorem insF_new : ∀ {l : List ByteArray} {s : ByteArray}, s ∉ l → (insF l s).length = l.length + 1
  | [], s, _ => rfl
  | x :: l, s, h => by
    have hx : ¬ x = s := fun e => h (by rw [e]; exact List.mem_cons_self)
    rw [insF, if_neg hx]
    split
    · rfl
    · rw [List.length_cons, insF_new (fun q => h (List.mem_cons_of_mem _ q)), List.length_cons]
/-- What lies in a net after so many sendings, and what was heard. -/
def RoomS (i : Nat) (s : NS) : Prop := s.lie.length = min i 400 ∧ s.heard.length = i ∧ s.many ≤ i ∧ (∀ j : Nat, j < s.lie.length → (rd_T50 s.lie (j : Int)).f2 = numF (IntKind.u64.wrap (j : Int))) ∧ ∀ x ∈ s.heard, ∃ j : Nat, j < i ∧ x = numF (IntKind.u64.wrap (j : Int))
theorem RoomS.zero : RoomS 0 ⟨[], [], 0⟩ := ⟨rfl, rfl, Nat.le_refl _, fun j hj => absurd hj (Nat.not_lt_zero _), fun x hx => absurd hx List.not_mem_nil⟩
theorem RoomS.fresh {i : Nat} {s : NS} (h : RoomS i s) (hi : i < 500) : numF (IntKind.u64.wrap (i : Int)) ∉ s.heard := fun hm => by
  obtain ⟨j, hj, e⟩ := h.2.2.2.2 _ hm
  have := room_inj hi (by omega) e
  omega
theorem RoomS.hears {i : Nat} {s : NS} (h : RoomS i s) : ∀ x ∈ insF s.heard (numF (IntKind.u64.wrap (i : Int))), ∃ j : Nat, j < i + 1 ∧ x = numF (IntKind.u64.wrap (j : Int)) := fun x hx => by
  rcases (insF_mem _ _ _).mp hx with e | e
  · exact ⟨i, Nat.lt_succ_self i, e⟩
  · obtain ⟨j, hj, q⟩ := h.2.2.2.2 x e
    exact ⟨j, Nat.lt_succ_of_lt hj, q⟩
theorem rd50_left {l m : List S50} {j : Nat} (h : j < l.length) : rd_T50 (l ++ m) (j : Int) = rd_T50 l (j : Int) := by
  unfold rd_T50
  simp [List.getD_eq_getElem?_getD, List.getElem?_append_left h]
theorem rd50_last (l : List S50) (d : S50) : rd_T50 (l ++ [d]) (l.length : Int) = d := by
  unfold rd_T50
  simp [List.getD_eq_getElem?_getD]
theorem RoomS.more {i : Nat} {s : NS} (h : RoomS i s) (hi : i < 400) (a : Int) : RoomS (i + 1) ⟨s.lie ++ [⟨a, 1, numF (IntKind.u64.wrap (i : Int))⟩], insF s.heard (numF (IntKind.u64.wrap (i : Int))), s.many + 1⟩ := by
  have hl : s.lie.length = i := by rw [h.1]; omega
  refine ⟨by rw [List.length_append, List.length_singleton, hl]; omega, by rw [insF_new (h.fresh (by omega)), h.2.1], Nat.succ_le_succ h.2.2.1, fun j hj => ?_, h.hears⟩
  rw [List.length_append, List.length_singleton] at hj
  by_cases c : j < s.lie.length
  · show (rd_T50 (s.lie ++ _) (j : Int)).f2 = _
    rw [rd50_left c]
    exact h.2.2.2.1 j c
  · have e : j = s.lie.length := by omega
    subst e; show (rd_T50 (s.lie ++ _) (s.lie.length : Int)).f2 = _
    rw [rd50_last, hl]
theorem RoomS.full {i : Nat} {s : NS} (h : RoomS i s) (hi : 400 ≤ i) (hk : i < 500) : RoomS (i + 1) ⟨s.lie, insF s.heard (numF (IntKind.u64.wrap (i : Int))), s.many + 1⟩ :=
  ⟨by rw [h.1]; omega, by rw [insF_new (h.fresh hk), h.2.1], Nat.succ_le_succ h.2.2.1, h.2.2.2.1, h.hears⟩
theorem send_fullL {B : Nat} {w : World} {g : Nat} {s : NS} {F : Nat → Prop} (h : NetL B w g s F) (a b n : Int) (ha : 1 ≤ a ∧ a ≤ 8) (hb : 1 ≤ b ∧ b ≤ 8) (hl : s.lie.length = 400) (hm : s.many < 1000000000) :
    Calls Try.prog 25 #[.pointer (some ⟨g, 0, none⟩), .agg #[.int .i64 a, .int .i64 b, .string (numF n)]] w fun e w' => e = .returned (.int .i64 5) ∧ Step B w g F w' ⟨s.lie, insF s.heard (numF n), s.many + 1⟩ := by
  have h1 := sendL h ⟨a, b, numF n⟩ (by omega) hm (by show (numF n).size < _; rw [numF_size]; decide)
  rw [send_num s a b n ha hb, show addN (hearN s ⟨a, b, numF n⟩) ⟨a, b, numF n⟩ = (hearN s ⟨a, b, numF n⟩, 5) from if_pos (by show 400 ≤ s.lie.length; omega)] at h1
  exact h1
theorem send_gL {B : Nat} {w : World} {g : Nat} {s : NS} {F : Nat → Prop} (h : NetL B w g s F) (hl : s.lie.length < 400) (hm : s.many < 1000000000) :
    Calls Try.prog 25 #[.pointer (some ⟨g, 0, none⟩), .agg #[.int .i64 1, .int .i64 2, .string ⟨#[103]⟩]] w fun e w' => e = .returned (.int .i64 0) ∧ Step B w g F w' ⟨s.lie ++ [gD], insF s.heard ⟨#[103]⟩, s.many + 1⟩ := by
  have h1 := sendL h gD (by omega) hm (by decide)
  rw [show sendN s gD = addN (hearN s gD) gD from if_pos good_g, add_room (s := hearN s gD) hl] at h1
  exact h1
theorem double_fullL {B : Nat} {w : World} {g : Nat} {s : NS} {F : Nat → Prop} (h : NetL B w g s F) (hl : s.lie.length = 400) :
    Calls Try.prog 28 #[.pointer (some ⟨g, 0, none⟩), .int .i64 0] w fun e w' => e = .returned (.int .i64 5) ∧ Step B w g F w' s := by
  have h1 := doubleL h 0 (by omega)
  rw [show doubleN s 0 = addN s (rd_T50 s.lie 0) from if_pos (show hasN s 0 = true from decide_eq_true ⟨by decide, by omega⟩), show addN s (rd_T50 s.lie 0) = (s, 5) from if_pos (by omega)] at h1
  exact h1
theorem double_noneL {B : Nat} {w : World} {g : Nat} {s : NS} {F : Nat → Prop} (h : NetL B w g s F) (hl : s.lie.length = 0) :
    Calls Try.prog 28 #[.pointer (some ⟨g, 0, none⟩), .int .i64 0] w fun e w' => e = .returned (.int .i64 8) ∧ Step B w g F w' s := by
  have h1 := doubleL h 0 (by omega)
  rw [show doubleN s 0 = (s, 8) from if_neg (fun q => by have := (of_decide_eq_true (show decide (_ ∧ _) = true from q)).2; omega)] at h1
  exact h1
theorem take_atL {B : Nat} {w : World} {g : Nat} {s : NS} {F : Nat → Prop} (h : NetL B w g s F) (i : Nat) (hi : i < s.lie.length) (hl : s.lie.length ≤ 400) :
    Calls Try.prog 29 #[.pointer (some ⟨g, 0, none⟩), .int .i64 (i : Int)] w fun e w' => e = .returned (.tuple #[.agg #[.int .i64 (rd_T50 s.lie (i : Int)).f0, .int .i64 (rd_T50 s.lie (i : Int)).f1, .string (rd_T50 s.lie (i : Int)).f2], .int .i64 0]) ∧ Step B w g F w' { s with lie := s.lie.eraseIdx i } := by
  have h1 := takeL h (i : Int) hl
  rw [take_some (by omega) (by omega)] at h1
  exact h1
set_option maxHeartbeats 8000000 in
set_option maxRecDepth 100000 in
theorem gemotlaw8_NetRoom.good (a0 a1 : Int) (w : World) (h0 : In64 a0) (h1 : In64 a1) : Calls Try.prog 7 #[.int .i64 a0, .int .i64 a1] w fun e w' => e = .returned (.bool true) ∧ Below w.heap.size w w' := by
  have HNw := Aside0.mk (fun W => newL W)
  have HSh := Aside0.mk (fun W => gemotlaw8_shown.any W)
  obtain ⟨k, hk, hk5⟩ : ∃ k : Nat, pk a0 500 = (k : Int) ∧ k < 500 := by
    have e1 := pk_nn a0 (n := 500) (by decide)
    have e2 := pk_lt a0 (n := 500) (by decide)
    exact ⟨(pk a0 500).toNat, by omega, by omega⟩
  have hp0 := fun W => pick_calls a0 500 h0 (by decide) (by decide) W
  rw [hk] at hp0
  have HP0 := Aside0.mk hp0
  have HK5 := Aside0.mk hk5
  have H1 := Aside0.mk h1
  have HNb := Aside0.mk (fun (n : Int) (W : World) => numb_calls n W)
  clear hk hk5 h1 h0 hp0; go_enter Try.func7, Try.ntmps7
  go_wp2_with (first
    | (go_at_call 23; go_loud (refine (HSh.out _).mono ?_; rintro e w1 ⟨rfl, hb⟩; have HB1 := Aside0.mk hb; clear hb))
    | (go_at_call 27; (with_reducible refine (HP0.out _).mono ?_); rintro e w' ⟨rfl, ⟨nd, rfl⟩⟩)
    | (go_at_call 24; go_loud (refine (HNw.out _).mono ?_; rintro e w2 ⟨g, F, rfl, hn, hb⟩; have HB2 := Aside0.mk (below_step (pw_below_drewN HB1.out nd) hb); have HN2 := Aside0.mk (hn.lower (pw_below_drewN HB1.out nd).size); clear hn hb)))
  go_loopg [8] k (fun kq v8 w' => ∃ (i : Nat) (F : Nat → Prop) (s : NS), v8 = .int .i64 (i : Int) ∧ Aside0 (i + kq = k) ∧ Aside0 (RoomS i s) ∧ Aside0 (NetL w.heap.size w' g s F) ∧ Aside0 (Below w.heap.size w w'))
  case atStart => exact ⟨0, F, ⟨[], [], 0⟩, rfl, ⟨Nat.zero_add _⟩, ⟨RoomS.zero⟩, HN2, HB2⟩
  case round =>
    clear HNw HSh HN2 HB2 HB1 HP0; obtain ⟨i, F', s, rfl, HK, HRo, HN, HB⟩ := hrel; by_cases ci : i < k
    · have cb : decide ((i : Int) < (k : Int)) = true := decide_eq_true (by omega)
      have cb2 : decide (i < k) = true := decide_eq_true ci
      have hw1 : IntKind.i64.wrap ((i : Int) + 1) = ((i + 1 : Nat) : Int) := by rw [i64_w]; unfold wrap64; have := HK5.out; omega
      have hw2 : IntKind.i64.wrap (Int.tmod (i : Int) 8) = Int.tmod (i : Int) 8 := by rw [i64_w, Int.tmod_eq_emod_of_nonneg (by omega)]; unfold wrap64; omega
      have hw3 : IntKind.i64.wrap (1 + Int.tmod (i : Int) 8) = 1 + Int.tmod (i : Int) 8 := by rw [i64_w, Int.tmod_eq_emod_of_nonneg (by omega)]; unfold wrap64; omega
      have ha : 1 ≤ 1 + Int.tmod (i : Int) 8 ∧ 1 + Int.tmod (i : Int) 8 ≤ 8 := by rw [Int.tmod_eq_emod_of_nonneg (by omega)]; omega
      have HCI := Aside0.mk ci
      by_cases c4 : i < 400
      case' pos =>
        have c4a : decide ((i : Int) < 400) = true := decide_eq_true (by omega)
        have c4b : decide (i < 400) = true := decide_eq_true c4
        have hS := fun (W : World) (F : Nat → Prop) (h : NetL w.heap.size W g s F) => sendNumL h (1 + Int.tmod (i : Int) 8) 1 (IntKind.u64.wrap (i : Int)) ha (by decide) (by rw [HRo.out.1]; omega) (by have := HRo.out.2.2.1; have := HK5.out; omega)
        have HS := Aside0.mk hS
        have HR2 := Aside0.mk (HRo.out.more c4 (1 + Int.tmod (i : Int) 8))
        clear hS
      case' neg =>
        have c4a : decide ((i : Int) < 400) = false := decide_eq_false (by omega)
        have c4b : decide (i < 400) = false := decide_eq_false c4
        have hS := fun (W : World) (F : Nat → Prop) (h : NetL w.heap.size W g s F) => send_fullL h (1 + Int.tmod (i : Int) 8) 1 (IntKind.u64.wrap (i : Int)) ha (by decide) (by rw [HRo.out.1]; omega) (by have := HRo.out.2.2.1; have := HK5.out; omega)
        have HS := Aside0.mk hS
        have HR2 := Aside0.mk (HRo.out.full (by omega) (by have := HK5.out; omega))
        clear hS
      all_goals
        clear ha ci c4
        go_wp2_with (first
          | (go_at_call 26; (with_reducible refine (HNb.out _ _).mono ?_); rintro e w3 ⟨rfl, hb⟩; have HN3 := Aside0.mk (HN.out.below hb); have HB3 := Aside0.mk (below_step HB.out hb); clear hb)
          | (go_at_call 25; go_loud (refine (HS.out _ _ HN3.out).mono ?_; rintro e w4 ⟨rfl, F4, hn, hF, hr⟩; have HN4 := Aside0.mk hn; have HB4 := Aside0.mk (HB3.out.trans (hr.toBelow (fun k hk => (HN3.out.2.1 k hk).1) HN3.out.2.2)); clear hn hF hr)))
        cases gk with
        | zero => have := HK.out; have := HCI.out; omega
        | succ k1 =>
          go_roundg k1
          case measure => omega
          case rel => exact ⟨i + 1, F4, _, rfl, ⟨by have := HK.out; omega⟩, HR2, HN4, HB4⟩
    · have cb : decide ((i : Int) < (k : Int)) = false := decide_eq_false (by omega)
      have cb2 : decide (i < k) = false := decide_eq_false ci
      have hi : i = k := by have := HK.out; omega
      subst hi; have HM := Aside0.mk (fun (W : World) (F : Nat → Prop) (h : NetIn W g F s) => net_Net_Many.calls W g F _ h)
      have HHe := Aside0.mk (fun (W : World) (F : Nat → Prop) (h : NetIn W g F s) => net_Net_Heard.calls W g F _ h (by have := HRo.out.2.2.1; have := HK5.out; omega))
      have hcase : i = 0 ∨ (0 < i ∧ i < 400) ∨ i = 400 ∨ 400 < i := by omega
      have HSo := Aside0.mk (show s.many ≤ 500 by have := HRo.out.2.2.1; have := HK5.out; omega)
      have HK6 := Aside0.mk HK5.out
      clear ci cb; rcases hcase with hc | ⟨hc, hc2⟩ | hc | hc
      case' inl =>
        have hl1 : s.heard.length = 0 := HRo.out.2.1.trans hc
        have hl2 : s.lie.length = 0 := by rw [HRo.out.1, hc]; rfl
        have HD := Aside0.mk (fun (W : World) (F : Nat → Prop) (h : NetL w.heap.size W g s F) => double_noneL h hl2)
        have z0 : (i : Int) = 0 := by omega
        go_wp2_with (first
          | (go_at_call 30; go_loud (refine (HM.out _ _ HN.out.1).mono ?_; rintro e w' ⟨rfl, rfl⟩))
          | (go_at_call 54; go_loud (refine (HHe.out _ _ HN.out.1).mono ?_; rintro e w5 ⟨vh, rfl, hl, hb⟩; obtain ⟨A2, c2, rfl⟩ := Kd.R_slice hl; have HN5 := Aside0.mk (HN.out.below hb); have HB5 := Aside0.mk (below_step HB.out hb); clear hb hl))
          | (go_at_call 28; go_loud (refine (HD.out _ _ HN5.out).mono ?_; rintro e w6 ⟨rfl, F6, hn, hF, hr⟩; have HN6 := Aside0.mk hn; have HB6 := Aside0.mk (HB5.out.trans (hr.toBelow (fun k hk => (HN5.out.2.1 k hk).1) HN5.out.2.2)); clear hn hF hr)))
        go_ret
        exact ⟨rfl, HB6.out⟩
      case' inr.inl =>
        have hl1 : s.heard.length = i := HRo.out.2.1
        have hl2 : s.lie.length = i := by rw [HRo.out.1]; omega
        have HD := Aside0.mk (fun (W : World) (F : Nat → Prop) (h : NetL w.heap.size W g s F) => doubleAtL h 0 (by decide) (by rw [hl2]; omega) (by rw [hl2]; exact hc2))
        have z0 : ¬ (i : Int) = 0 := by omega
        have z1 : ((i : Int) == 0) = false := beq_eq_false_iff_ne.mpr z0
        have zl : (i : Int) ≤ 400 := by omega
        have y1 : decide ((i : Int) < 400) = true := decide_eq_true (by omega)
        have y2 : decide (i < 400) = true := decide_eq_true hc2
        have hp1 := fun (W : World) => pick_calls a1 (i : Int) H1.out (by omega) (by omega) W
        obtain ⟨p, hp, hpl⟩ : ∃ p : Nat, pk a1 (i : Int) = (p : Int) ∧ p < i := by
          have e1 := pk_nn a1 (n := (i : Int)) (by omega)
          have e2 := pk_lt a1 (n := (i : Int)) (by omega)
          exact ⟨(pk a1 (i : Int)).toNat, by omega, by omega⟩
        rw [hp] at hp1
        have HP1 := Aside0.mk hp1
        have htk := fun (W : World) (F : Nat → Prop) (h : NetL w.heap.size W g { s with lie := s.lie ++ [rd_T50 s.lie 0] } F) => take_atL h p (by show p < (s.lie ++ _).length; rw [List.length_append, hl2, List.length_singleton]; omega) (by show (s.lie ++ _).length ≤ 400; rw [List.length_append, hl2, List.length_singleton]; omega)
        obtain ⟨s2, hs2⟩ : ∃ s2 : NS, s2 = { s with lie := s.lie ++ [rd_T50 s.lie 0] } := ⟨_, rfl⟩
        have hf2 : (rd_T50 s2.lie (p : Int)).f2 = numF (IntKind.u64.wrap (p : Int)) := by
          rw [hs2]
          show (rd_T50 (s.lie ++ _) (p : Int)).f2 = _
          rw [rd50_left (by rw [hl2]; exact hpl)]
          exact HRo.out.2.2.2.1 p (by rw [hl2]; exact hpl)
        have hh2 : s2.heard = s.heard := by rw [hs2]
        have hm2 : s2.many = s.many := by rw [hs2]
        have hll2 : s2.lie.length ≤ 400 ∧ p < s2.lie.length := by rw [hs2]; show (s.lie ++ _).length ≤ 400 ∧ p < (s.lie ++ _).length; rw [List.length_append, hl2, List.length_singleton]; omega
        rw [← hs2] at HD htk
        clear hc2 hp1 hp hpl hs2
      case' inr.inr.inl =>
        have hl1 : s.heard.length = i := HRo.out.2.1
        have hl2 : s.lie.length = i := by rw [HRo.out.1]; omega
        have HD := Aside0.mk (fun (W : World) (F : Nat → Prop) (h : NetL w.heap.size W g s F) => double_fullL h (by rw [hl2]; exact hc))
        have z0 : ¬ (i : Int) = 0 := by omega
        have z1 : ((i : Int) == 0) = false := beq_eq_false_iff_ne.mpr z0
        have zl : (i : Int) ≤ 400 := by omega
        have y1 : decide ((i : Int) < 400) = false := decide_eq_false (by omega)
        have y2 : decide (i < 400) = false := decide_eq_false (by omega)
        have hp1 := fun (W : World) => pick_calls a1 (i : Int) H1.out (by omega) (by omega) W
        obtain ⟨p, hp, hpl⟩ : ∃ p : Nat, pk a1 (i : Int) = (p : Int) ∧ p < i := by
          have e1 := pk_nn a1 (n := (i : Int)) (by omega)
          have e2 := pk_lt a1 (n := (i : Int)) (by omega)
          exact ⟨(pk a1 (i : Int)).toNat, by omega, by omega⟩
        rw [hp] at hp1
        have HP1 := Aside0.mk hp1
        have htk := fun (W : World) (F : Nat → Prop) (h : NetL w.heap.size W g s F) => take_atL h p (by rw [hl2]; exact hpl) (by rw [hl2]; omega)
        obtain ⟨s2, hs2⟩ : ∃ s2 : NS, s2 = s := ⟨_, rfl⟩
        have hf2 : (rd_T50 s2.lie (p : Int)).f2 = numF (IntKind.u64.wrap (p : Int)) := by
          rw [hs2]
          exact HRo.out.2.2.2.1 p (by rw [hl2]; exact hpl)
        have hh2 : s2.heard = s.heard := by rw [hs2]
        have hm2 : s2.many = s.many := by rw [hs2]
        have hll2 : s2.lie.length ≤ 400 ∧ p < s2.lie.length := by rw [hs2, hl2]; omega
        have HD := Aside0.mk (show ∀ (W : World) (F : Nat → Prop), NetL w.heap.size W g s F → Calls Try.prog 28 #[.pointer (some ⟨g, 0, none⟩), .int .i64 0] W fun e w' => e = .returned (.int .i64 5) ∧ Step w.heap.size W g F w' s2 by rw [hs2]; exact HD.out)
        rw [← hs2] at htk
        clear hp1 hp hpl hs2
      case' inr.inr.inr =>
        have hl1 : s.heard.length = i := HRo.out.2.1
        have hl2 : s.lie.length = 400 := by rw [HRo.out.1]; omega
        have HD := Aside0.mk (fun (W : World) (F : Nat → Prop) (h : NetL w.heap.size W g s F) => double_fullL h hl2)
        have z0 : ¬ (i : Int) = 0 := by omega
        have z1 : ((i : Int) == 0) = false := beq_eq_false_iff_ne.mpr z0
        have zl : ¬ (i : Int) ≤ 400 := by omega
        have zl2 : 400 < (i : Int) := by omega
        have y1 : decide ((i : Int) < 400) = false := decide_eq_false (by omega)
        have y2 : decide (i < 400) = false := decide_eq_false (by omega)
        have hp1 := fun (W : World) => pick_calls a1 400 H1.out (by decide) (by decide) W
        obtain ⟨p, hp, hpl⟩ : ∃ p : Nat, pk a1 400 = (p : Int) ∧ p < 400 := by
          have e1 := pk_nn a1 (n := 400) (by decide)
          have e2 := pk_lt a1 (n := 400) (by decide)
          exact ⟨(pk a1 400).toNat, by omega, by omega⟩
        rw [hp] at hp1
        have HP1 := Aside0.mk hp1
        have htk := fun (W : World) (F : Nat → Prop) (h : NetL w.heap.size W g s F) => take_atL h p (by rw [hl2]; exact hpl) (by rw [hl2]; omega)
        obtain ⟨s2, hs2⟩ : ∃ s2 : NS, s2 = s := ⟨_, rfl⟩
        have hf2 : (rd_T50 s2.lie (p : Int)).f2 = numF (IntKind.u64.wrap (p : Int)) := by
          rw [hs2]
          exact HRo.out.2.2.2.1 p (by rw [hl2]; exact hpl)
        have hh2 : s2.heard = s.heard := by rw [hs2]
        have hm2 : s2.many = s.many := by rw [hs2]
        have hll2 : s2.lie.length ≤ 400 ∧ p < s2.lie.length := by rw [hs2, hl2]; omega
        have HD := Aside0.mk (show ∀ (W : World) (F : Nat → Prop), NetL w.heap.size W g s F → Calls Try.prog 28 #[.pointer (some ⟨g, 0, none⟩), .int .i64 0] W fun e w' => e = .returned (.int .i64 5) ∧ Step w.heap.size W g F w' s2 by rw [hs2]; exact HD.out)
        rw [← hs2] at htk
        clear hp1 hp hpl hs2
      all_goals
        obtain ⟨T, hT⟩ : ∃ T, T = numF (IntKind.u64.wrap (p : Int)) := ⟨_, rfl⟩
        have hnb := fun (W : World) => numb_calls (IntKind.u64.wrap (p : Int)) W
        obtain ⟨x0, hx0⟩ : ∃ x, (rd_T50 s2.lie (p : Int)).f0 = x := ⟨_, rfl⟩
        obtain ⟨x1, hx1⟩ : ∃ x, (rd_T50 s2.lie (p : Int)).f1 = x := ⟨_, rfl⟩
        rw [hf2, hx0, hx1, ← hT] at htk
        rw [← hT] at hnb
        have HTk := Aside0.mk htk
        have HNb1 := Aside0.mk hnb
        have hel : (s2.lie.eraseIdx p).length = s2.lie.length - 1 := by rw [List.length_eraseIdx, if_pos hll2.2]
        have HSg := Aside0.mk (fun (W : World) (F : Nat → Prop) (h : NetL w.heap.size W g { s2 with lie := s2.lie.eraseIdx p } F) => send_gL h (by show (s2.lie.eraseIdx p).length < 400; rw [hel]; have := hll2.1; have := hll2.2; omega) (by show s2.many < _; rw [hm2]; have := HSo.out; omega))
        have hgl : (insF s.heard ⟨#[103]⟩).length = i + 1 := by
          rw [insF_new, hl1]
          intro hm; obtain ⟨j, _, e⟩ := HRo.out.2.2.2.2 _ hm
          exact room_g _ e
        have hHv := fun (W : World) (F : Nat → Prop) (h : NetL w.heap.size W g ⟨s2.lie.eraseIdx p ++ [gD], insF s2.heard ⟨#[103]⟩, s2.many + 1⟩ F) => net_Net_Heard.calls W g F _ h.1 (by show s2.many + 1 < _; rw [hm2]; have := HSo.out; omega)
        rw [hh2] at hHv
        have HHv := Aside0.mk hHv
        have hw5 : IntKind.i64.wrap ((i : Int) + 1) = (i : Int) + 1 := by rw [i64_w]; unfold wrap64; have := HK6.out; omega
        have cT : (T.toList == T.toList) = true := beq_self_eq_true _
        clear hT hx0 hx1 htk hnb hHv hf2 hm2 hll2 hel hc
        go_upto_region 20 with (first
          | (go_at_call 30; go_loud (refine (HM.out _ _ HN.out.1).mono ?_; rintro e w' ⟨rfl, rfl⟩))
          | (go_at_call 54; go_loud (refine (HHe.out _ _ HN.out.1).mono ?_; rintro e w5 ⟨vh, rfl, hl, hb⟩; obtain ⟨A2, c2, rfl⟩ := Kd.R_slice hl; have HN5 := Aside0.mk (HN.out.below hb); have HB5 := Aside0.mk (below_step HB.out hb); clear hb hl))
          | (go_at_call 28; go_loud (refine (HD.out _ _ HN5.out).mono ?_; rintro e w6 ⟨rfl, F6, hn, hF, hr⟩; have HN6 := Aside0.mk hn; have HB6 := Aside0.mk (HB5.out.trans (hr.toBelow (fun k hk => (HN5.out.2.1 k hk).1) HN5.out.2.2)); clear hn hF hr))
          | (go_at_call 27; (with_reducible refine (HP1.out _).mono ?_); rintro e w' ⟨rfl, ⟨nd, rfl⟩⟩; have HN7 := Aside0.mk (HN6.out.below (pw_below_drewN (Below.refl _ _) nd)); have HB7 := Aside0.mk (pw_below_drewN HB6.out nd))
          | (go_at_call 29; go_loud (refine (HTk.out _ _ HN7.out).mono ?_; rintro e w8 ⟨rfl, F8, hn, hF, hr⟩; have HN8 := Aside0.mk hn; have HB8 := Aside0.mk (HB7.out.trans (hr.toBelow (fun k hk => (HN7.out.2.1 k hk).1) HN7.out.2.2)); clear hn hF hr))
          | ((with_reducible refine gate_dst (N := 12) rfl ?_); refine box_event ?hg (N := 12) ?hd (cs := #[.int .i64 0, .int .i64 0, .string ⟨#[]⟩]) (t := 50) ?hr ?_; (case hd => rfl); (case hg => rfl); (case hr => first | (go_simp; done) | (go_simp; rfl)); intro gd hgd wb hbox hb; have HBb := Aside0.mk (below_step HB8.out hb); have HNb2 := Aside0.mk (HN8.out.below hb); have HXb := Aside0.mk (LocB.new (F := F8) hbox hgd (fun k hk => (HN8.out.2.1 k hk).2) HB8.out.size); have HNs := Aside0.mk (HNb2.out.set3 HXb.out.2.1 (.int .i64 x0) (.int .i64 x1) (.string T)); have HXs := Aside0.mk (HXb.out.put3 (x := .int .i64 x0) (y := .int .i64 x1) (z := .string T)); have HBs := Aside0.mk (Below.set3 HBb.out HXb.out.2.2 (.int .i64 x0) (.int .i64 x1) (.string T)); have y0_ : wb.cell? ⟨gd, 0, none⟩ = some (.int .i64 0) := (blk_cell hbox 0).trans rfl; have y1_ : wb.cell? ⟨gd, 1, none⟩ = some (.int .i64 0) := (blk_cell hbox 1).trans rfl; have y2_ : wb.cell? ⟨gd, 2, none⟩ = some (.string ⟨#[]⟩) := (blk_cell hbox 2).trans rfl; have x0_ := blk_frozen hbox 0; have x1_ := blk_frozen hbox 1; have x2_ := blk_frozen hbox 2; clear hbox hb hgd)
          | (go_at_call 25; go_loud (refine (HSg.out _ _ HNs.out).mono ?_; rintro e V ⟨rfl, F9, hn, hF, hr⟩; have HNv := Aside0.mk hn; have HBv := Aside0.mk (HBs.out.trans (hr.toBelow (fun k hk => (HNs.out.2.1 k hk).1) HNs.out.2.2)); have D2 := Aside0.mk (((blk_cell (HXs.out.near hr hF).1 2).trans rfl : V.cell? ⟨gd, 2, none⟩ = some (.string T))); clear hn hF hr)))
        rw [hh2] at HNv
        clear y0_ y1_ y2_ x0_ x1_ x2_ hh2; refine start_ (n := 30) (S := fun w' => Below V.heap.size V w') (ds := []) #[false, false, false, false, false, false, false, false, false, false, false, false, false, false, false, false, false, false, false, false, false, false, false, false, false, false, false, false, false, false] (by kernel_rfl) rfl rfl (below_drew1 (Below.refl _ _)) (fun hHeld => ?_)
        generalize hWd : V.drew = Wd at hHeld ⊢
        clear hWd; refine pure_ (i := 0) (N := some 84) (v := ?_) (a' := ?_) #[true, false, false, false, false, false, false, false, false, false, false, false, false, false, false, false, false, false, false, false, false, false, false, false, false, false, false, false, false, false] rfl rfl (by kernel_rfl) (fun _ _ _ h => h) (Or.inl ⟨by rfl, ?_⟩) ?_ ?_
        rotate_left
        · intro w'; go_simp; with_reducible rfl
        rotate_left; · (simp only [Act.put, List.setIfInBounds_toArray, List.set_cons_zero, List.set_cons_succ, i64_w, i32_w]; rfl)
        refine pure_ (i := 1) (N := some 85) (v := ?_) (a' := ?_) #[true, true, false, false, false, false, false, false, false, false, false, false, false, false, false, false, false, false, false, false, false, false, false, false, false, false, false, false, false, false] rfl rfl (by kernel_rfl) (fun _ _ _ h => h) (Or.inl ⟨by rfl, ?_⟩) ?_ ?_
        rotate_left
        · intro w'; go_simp; with_reducible rfl
        rotate_left; · (simp only [Act.put, List.setIfInBounds_toArray, List.set_cons_zero, List.set_cons_succ, i64_w, i32_w]; rfl)
        refine pure_ (i := 2) (N := some 86) (v := ?_) (a' := ?_) #[true, true, true, false, false, false, false, false, false, false, false, false, false, false, false, false, false, false, false, false, false, false, false, false, false, false, false, false, false, false] rfl rfl (by kernel_rfl) (fun _ _ _ h => h) (Or.inl ⟨by rfl, ?_⟩) ?_ ?_
        rotate_left
        · intro w'; go_simp; with_reducible rfl
        rotate_left; · (simp only [Act.put, List.setIfInBounds_toArray, List.set_cons_zero, List.set_cons_succ, i64_w, i32_w]; rfl)
        refine pure_ (i := 3) (N := some 87) (v := ?_) (a' := ?_) #[true, true, true, true, false, false, false, false, false, false, false, false, false, false, false, false, false, false, false, false, false, false, false, false, false, false, false, false, false, false] rfl rfl (by kernel_rfl) (fun _ _ _ h => h) (Or.inl ⟨by rfl, ?_⟩) ?_ ?_
        rotate_left
        · intro w'; go_simp; with_reducible rfl
        rotate_left; · (simp only [Act.put, List.setIfInBounds_toArray, List.set_cons_zero, List.set_cons_succ, i64_w, i32_w]; rfl)
        refine pure_ (i := 4) (N := some 88) (v := ?_) (a' := ?_) #[true, true, true, true, true, false, false, false, false, false, false, false, false, false, false, false, false, false, false, false, false, false, false, false, false, false, false, false, false, false] rfl rfl (by kernel_rfl) (fun _ _ _ h => h) (Or.inl ⟨by rfl, ?_⟩) ?_ ?_
        rotate_left
        · intro w'; go_simp; with_reducible rfl
        rotate_left; · (simp only [Act.put, List.setIfInBounds_toArray, List.set_cons_zero, List.set_cons_succ, i64_w, i32_w]; rfl)
        refine pure_ (i := 5) (N := some 89) (v := ?_) (a' := ?_) #[true, true, true, true, true, true, false, false, false, false, false, false, false, false, false, false, false, false, false, false, false, false, false, false, false, false, false, false, false, false] rfl rfl (by kernel_rfl) (fun _ _ _ h => h) (Or.inl ⟨by rfl, ?_⟩) ?_ ?_
        rotate_left
        · intro w'; go_simp; with_reducible rfl
        rotate_left; · (simp only [Act.put, List.setIfInBounds_toArray, List.set_cons_zero, List.set_cons_succ, i64_w, i32_w]; rfl)
        refine pure_ (i := 6) (N := some 90) (v := ?_) (a' := ?_) #[true, true, true, true, true, true, true, false, false, false, false, false, false, false, false, false, false, false, false, false, false, false, false, false, false, false, false, false, false, false] rfl rfl (by kernel_rfl) (fun _ _ _ h => h) (Or.inl ⟨by rfl, ?_⟩) ?_ ?_
        rotate_left
        · intro w'; go_simp; with_reducible rfl
        rotate_left; · (simp only [Act.put, List.setIfInBounds_toArray, List.set_cons_zero, List.set_cons_succ, i64_w, i32_w]; rfl)
        refine pure_ (i := 7) (N := some 91) (v := ?_) (a' := ?_) #[true, true, true, true, true, true, true, true, false, false, false, false, false, false, false, false, false, false, false, false, false, false, false, false, false, false, false, false, false, false] rfl rfl (by kernel_rfl) (fun _ _ _ h => h) (Or.inl ⟨by rfl, ?_⟩) ?_ ?_
        rotate_left
        · intro w'; go_simp; with_reducible rfl
        rotate_left; · (simp only [Act.put, List.setIfInBounds_toArray, List.set_cons_zero, List.set_cons_succ, i64_w, i32_w]; rfl)
        refine pure_ (i := 8) (N := some 92) (v := ?_) (a' := ?_) #[true, true, true, true, true, true, true, true, true, false, false, false, false, false, false, false, false, false, false, false, false, false, false, false, false, false, false, false, false, false] rfl rfl (by kernel_rfl) (fun _ _ _ h => h) (Or.inl ⟨by rfl, ?_⟩) ?_ ?_
        rotate_left
        · intro w'; go_simp; with_reducible rfl
        rotate_left; · (simp only [Act.put, List.setIfInBounds_toArray, List.set_cons_zero, List.set_cons_succ, i64_w, i32_w]; rfl)
        refine pure_ (i := 9) (N := some 93) (v := ?_) (a' := ?_) #[true, true, true, true, true, true, true, true, true, true, false, false, false, false, false, false, false, false, false, false, false, false, false, false, false, false, false, false, false, false] rfl rfl (by kernel_rfl) (fun _ _ _ h => h) (Or.inl ⟨by rfl, ?_⟩) ?_ ?_
        rotate_left
        · intro w'; go_simp; with_reducible rfl
        rotate_left; · (simp only [Act.put, List.setIfInBounds_toArray, List.set_cons_zero, List.set_cons_succ, i64_w, i32_w]; rfl)
        refine pure_ (i := 10) (N := some 94) (v := ?_) (a' := ?_) #[true, true, true, true, true, true, true, true, true, true, true, false, false, false, false, false, false, false, false, false, false, false, false, false, false, false, false, false, false, false] rfl rfl (by kernel_rfl) (fun _ _ _ h => h) (Or.inl ⟨by rfl, ?_⟩) ?_ ?_
        rotate_left
        · intro w'; go_simp; with_reducible rfl
        rotate_left; · (simp only [Act.put, List.setIfInBounds_toArray, List.set_cons_zero, List.set_cons_succ, i64_w, i32_w]; rfl)
        refine take_ (i := 11) (N := some 95) (v := ?_) (a' := ?_) #[true, true, true, true, true, true, true, true, true, true, true, true, false, false, false, false, false, false, false, false, false, false, false, false, false, false, false, false, false, false] rfl rfl (by kernel_rfl) (fun _ _ _ h => h) (Or.inl ⟨by rfl, ?_⟩) hHeld ?_ ?_
        rotate_left
        · intro w' hs_; have s0_ := pw_cell_below hs_ D2.out; clear hs_; go_simp; with_reducible rfl
        rotate_left; · (simp only [Act.put, List.setIfInBounds_toArray, List.set_cons_zero, List.set_cons_succ, i64_w, i32_w]; rfl)
        refine pure_ (i := 12) (N := some 96) (v := ?_) (a' := ?_) #[true, true, true, true, true, true, true, true, true, true, true, true, true, false, false, false, false, false, false, false, false, false, false, false, false, false, false, false, false, false] rfl rfl (by kernel_rfl) (fun _ _ _ h => h) (Or.inl ⟨by rfl, ?_⟩) ?_ ?_
        rotate_left
        · intro w'; go_simp; with_reducible rfl
        rotate_left; · (simp only [Act.put, List.setIfInBounds_toArray, List.set_cons_zero, List.set_cons_succ, i64_w, i32_w]; rfl)
        refine pure_ (i := 13) (N := some 97) (v := ?_) (a' := ?_) #[true, true, true, true, true, true, true, true, true, true, true, true, true, true, false, false, false, false, false, false, false, false, false, false, false, false, false, false, false, false] rfl rfl (by kernel_rfl) (fun _ _ _ h => h) (Or.inl ⟨by rfl, ?_⟩) ?_ ?_
        rotate_left
        · intro w'; go_simp; with_reducible rfl
        rotate_left; · (simp only [Act.put, List.setIfInBounds_toArray, List.set_cons_zero, List.set_cons_succ, i64_w, i32_w]; rfl)
        refine one_ (i := 14) (N := some 98) #[true, true, true, true, true, true, true, true, true, true, true, true, true, true, true, false, false, false, false, false, false, false, false, false, false, false, false, false, false, false] rfl rfl (by kernel_rfl) (by decide) (fun K hK => ?_)
        refine goes_ Try.func26 (by kernel_rfl) rfl #[.int .u64 (IntKind.u64.wrap (p : Int))] (by rfl) rfl rfl (by (try simp only [List.map_toArray, List.map_cons, List.map_nil]); first | done | rfl) ?_
        with_reducible refine (HNb1.out _).mono ?_
        rintro e wq_14 ⟨rfl, hb⟩; refine ⟨_, rfl, ?_⟩
        refine hK.out _ _ (below_step hHeld hb) (fun hHeld => ?_)
        clear hK K; refine norm_ (a' := ?_) ?_ ?_
        rotate_left
        · show Act.put _ (some 98) _ = _
          (simp only [Act.put, List.setIfInBounds_toArray, List.set_cons_zero, List.set_cons_succ, i64_w, i32_w]; rfl)
        refine pure_ (i := 15) (N := some 99) (v := ?_) (a' := ?_) #[true, true, true, true, true, true, true, true, true, true, true, true, true, true, true, true, false, false, false, false, false, false, false, false, false, false, false, false, false, false] rfl rfl (by kernel_rfl) (fun _ _ _ h => h) (Or.inl ⟨by rfl, ?_⟩) ?_ ?_
        rotate_left
        · intro w'; go_simp; with_reducible rfl
        rotate_left; · (simp only [Act.put, List.setIfInBounds_toArray, List.set_cons_zero, List.set_cons_succ, i64_w, i32_w]; rfl)
        refine pure_ (i := 16) (N := some 100) (v := ?_) (a' := ?_) #[true, true, true, true, true, true, true, true, true, true, true, true, true, true, true, true, true, false, false, false, false, false, false, false, false, false, false, false, false, false] rfl rfl (by kernel_rfl) (fun _ _ _ h => h) (Or.inl ⟨by rfl, ?_⟩) ?_ ?_
        rotate_left
        · intro w'; go_simp; with_reducible rfl
        rotate_left; · (simp only [Act.put, List.setIfInBounds_toArray, List.set_cons_zero, List.set_cons_succ, i64_w, i32_w]; rfl)
        refine pure_ (i := 17) (N := some 101) (v := ?_) (a' := ?_) #[true, true, true, true, true, true, true, true, true, true, true, true, true, true, true, true, true, true, false, false, false, false, false, false, false, false, false, false, false, false] rfl rfl (by kernel_rfl) (fun _ _ _ h => h) (Or.inl ⟨by rfl, ?_⟩) ?_ ?_
        rotate_left
        · intro w'; go_simp; with_reducible rfl
        rotate_left; · (simp only [Act.put, List.setIfInBounds_toArray, List.set_cons_zero, List.set_cons_succ, i64_w, i32_w]; rfl)
        refine pure_ (i := 18) (N := some 102) (v := ?_) (a' := ?_) #[true, true, true, true, true, true, true, true, true, true, true, true, true, true, true, true, true, true, true, false, false, false, false, false, false, false, false, false, false, false] rfl rfl (by kernel_rfl) (fun _ _ _ h => h) (Or.inl ⟨by rfl, ?_⟩) ?_ ?_
        rotate_left
        · intro w'; go_simp; with_reducible rfl
        rotate_left; · (simp only [Act.put, List.setIfInBounds_toArray, List.set_cons_zero, List.set_cons_succ, i64_w, i32_w]; rfl)
        refine pure_ (i := 19) (N := some 103) (v := ?_) (a' := ?_) #[true, true, true, true, true, true, true, true, true, true, true, true, true, true, true, true, true, true, true, true, false, false, false, false, false, false, false, false, false, false] rfl rfl (by kernel_rfl) (fun _ _ _ h => h) (Or.inl ⟨by rfl, ?_⟩) ?_ ?_
        rotate_left
        · intro w'; go_simp; with_reducible rfl
        rotate_left; · (simp only [Act.put, List.setIfInBounds_toArray, List.set_cons_zero, List.set_cons_succ, i64_w, i32_w]; rfl)
        refine pure_ (i := 20) (N := some 104) (v := ?_) (a' := ?_) #[true, true, true, true, true, true, true, true, true, true, true, true, true, true, true, true, true, true, true, true, true, false, false, false, false, false, false, false, false, false] rfl rfl (by kernel_rfl) (fun _ _ _ h => h) (Or.inl ⟨by rfl, ?_⟩) ?_ ?_
        rotate_left
        · intro w'; go_simp; with_reducible rfl
        rotate_left; · (simp only [Act.put, List.setIfInBounds_toArray, List.set_cons_zero, List.set_cons_succ, i64_w, i32_w]; rfl)
        refine pure_ (i := 21) (N := some 105) (v := ?_) (a' := ?_) #[true, true, true, true, true, true, true, true, true, true, true, true, true, true, true, true, true, true, true, true, true, true, false, false, false, false, false, false, false, false] rfl rfl (by kernel_rfl) (fun _ _ _ h => h) (Or.inl ⟨by rfl, ?_⟩) ?_ ?_
        rotate_left
        · intro w'; go_simp; with_reducible rfl
        rotate_left; · (simp only [Act.put, List.setIfInBounds_toArray, List.set_cons_zero, List.set_cons_succ, i64_w, i32_w]; rfl)
        refine pure_ (i := 22) (N := some 106) (v := ?_) (a' := ?_) #[true, true, true, true, true, true, true, true, true, true, true, true, true, true, true, true, true, true, true, true, true, true, true, false, false, false, false, false, false, false] rfl rfl (by kernel_rfl) (fun _ _ _ h => h) (Or.inl ⟨by rfl, ?_⟩) ?_ ?_
        rotate_left
        · intro w'; go_simp; with_reducible rfl
        rotate_left; · (simp only [Act.put, List.setIfInBounds_toArray, List.set_cons_zero, List.set_cons_succ, i64_w, i32_w]; rfl)
        refine pure_ (i := 25) (N := some 109) (v := ?_) (a' := ?_) #[true, true, true, true, true, true, true, true, true, true, true, true, true, true, true, true, true, true, true, true, true, true, true, false, false, true, false, false, false, false] rfl rfl (by kernel_rfl) (fun _ _ _ h => h) (Or.inl ⟨by rfl, ?_⟩) ?_ ?_
        rotate_left
        · intro w'; go_simp; with_reducible rfl
        rotate_left; · (simp only [Act.put, List.setIfInBounds_toArray, List.set_cons_zero, List.set_cons_succ, i64_w, i32_w]; rfl)
        refine pure_ (i := 26) (N := some 110) (v := ?_) (a' := ?_) #[true, true, true, true, true, true, true, true, true, true, true, true, true, true, true, true, true, true, true, true, true, true, true, false, false, true, true, false, false, false] rfl rfl (by kernel_rfl) (fun _ _ _ h => h) (Or.inl ⟨by rfl, ?_⟩) ?_ ?_
        rotate_left
        · intro w'; go_simp; with_reducible rfl
        rotate_left; · (simp only [Act.put, List.setIfInBounds_toArray, List.set_cons_zero, List.set_cons_succ, i64_w, i32_w]; rfl)
        refine one_ (i := 23) (N := some 107) #[true, true, true, true, true, true, true, true, true, true, true, true, true, true, true, true, true, true, true, true, true, true, true, true, false, true, true, false, false, false] rfl rfl (by kernel_rfl) (by decide) (fun K hK => ?_)
        refine goes_ Try.func54 (by kernel_rfl) rfl #[.pointer (some ⟨g, 0, none⟩)] (by rfl) rfl rfl (by (try simp only [List.map_toArray, List.map_cons, List.map_nil]); first | done | rfl) ?_
        with_reducible refine (HHv.out _ _ (HNv.out.below hHeld)).mono ?_
        rintro e wq_23 ⟨vh, rfl, hlh, hb⟩; obtain ⟨A3, c3, rfl⟩ := Kd.R_slice hlh; clear hlh; refine ⟨_, rfl, ?_⟩
        refine hK.out _ _ (below_step hHeld hb) (fun hHeld => ?_)
        clear hK K; refine norm_ (a' := ?_) ?_ ?_
        rotate_left
        · show Act.put _ (some 107) _ = _
          (simp only [Act.put, List.setIfInBounds_toArray, List.set_cons_zero, List.set_cons_succ, i64_w, i32_w]; rfl)
        refine pure_ (i := 24) (N := some 108) (v := ?_) (a' := ?_) #[true, true, true, true, true, true, true, true, true, true, true, true, true, true, true, true, true, true, true, true, true, true, true, true, true, true, true, false, false, false] rfl rfl (by kernel_rfl) (fun _ _ _ h => h) (Or.inl ⟨by rfl, ?_⟩) ?_ ?_
        rotate_left
        · intro w'; go_simp; with_reducible rfl
        rotate_left; · (simp only [Act.put, List.setIfInBounds_toArray, List.set_cons_zero, List.set_cons_succ, i64_w, i32_w]; rfl)
        refine pure_ (i := 27) (N := some 111) (v := ?_) (a' := ?_) #[true, true, true, true, true, true, true, true, true, true, true, true, true, true, true, true, true, true, true, true, true, true, true, true, true, true, true, true, false, false] rfl rfl (by kernel_rfl) (fun _ _ _ h => h) (Or.inl ⟨by rfl, ?_⟩) ?_ ?_
        rotate_left
        · intro w'; go_simp; with_reducible rfl
        rotate_left; · (simp only [Act.put, List.setIfInBounds_toArray, List.set_cons_zero, List.set_cons_succ, i64_w, i32_w]; rfl)
        refine pure_ (i := 28) (N := some 112) (v := ?_) (a' := ?_) #[true, true, true, true, true, true, true, true, true, true, true, true, true, true, true, true, true, true, true, true, true, true, true, true, true, true, true, true, true, false] rfl rfl (by kernel_rfl) (fun _ _ _ h => h) (Or.inl ⟨by rfl, ?_⟩) ?_ ?_
        rotate_left
        · intro w'; go_simp; with_reducible rfl
        rotate_left; · (simp only [Act.put, List.setIfInBounds_toArray, List.set_cons_zero, List.set_cons_succ, i64_w, i32_w]; rfl)
        refine pure_ (i := 29) (N := some 4) (v := ?_) (a' := ?_) #[true, true, true, true, true, true, true, true, true, true, true, true, true, true, true, true, true, true, true, true, true, true, true, true, true, true, true, true, true, true] rfl rfl (by kernel_rfl) (fun _ _ _ h => h) (Or.inl ⟨by rfl, ?_⟩) ?_ ?_
        rotate_left
        · intro w'; go_simp; with_reducible rfl
        rotate_left; · (simp only [Act.put, List.setIfInBounds_toArray, List.set_cons_zero, List.set_cons_succ, i64_w, i32_w]; rfl)
        refine done_ (by kernel_rfl) ?_
        go_wp2; go_ret
        exact ⟨rfl, below_step HBv.out hHeld⟩
def gemotlaw8_NetRoom.f (a0 : Int) (a1 : Int) : Option (Bool) := if In64 a0 ∧ In64 a1 then some true else none
theorem gemotlaw8_NetRoom.calls (a0 : Int) (a1 : Int) (r : Bool) (w : World) (h : gemotlaw8_NetRoom.f a0 a1 = some r) :
    Calls Try.prog 7 #[.int .i64 a0, .int .i64 a1] w fun e w' => e = .returned (.bool r) ∧ Below w.heap.size w w' := by
  unfold gemotlaw8_NetRoom.f at h
  split at h
  case isFalse => cases h
  rename_i hs
  cases h
  exact gemotlaw8_NetRoom.good a0 a1 w hs.1 hs.2

end Go.Proofs.Ytagceackfnkifaa.F
