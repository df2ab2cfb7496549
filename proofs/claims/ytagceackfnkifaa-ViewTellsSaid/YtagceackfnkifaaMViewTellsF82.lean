import Derived.Test.YtagceackfnkifaaMViewTellsF0
import Derived.Test.YtagceackfnkifaaMViewTellsF117
namespace Go.Proofs.Ytagceackfnkifaa.F
open Go.RowKit Go.Proofs.YtagceackfnkifaaW.PrintWords Go.Proofs.YtagceackfnkifaaW.PrintLast Go.Proofs.YtagceackfnkifaaW.PrintMore
attribute [local go_sem] max2_int min2_int max_two min_two max_three min_three max_four min_four
set_option linter.unusedVariables false
set_option linter.unusedSimpArgs false
def slices_Contains_int_int_p.f (k : Nat) (l0 : List Int) (a1 : Int) : Option (Bool) := (slices_Index_int_int.f k l0 a1).bind fun t1001 => (some (decide (t1001 ≥ 0)))
theorem slices_Contains_int_int_p.mono : ∀ a0 a1 k, LeO (slices_Contains_int_int_p.f k a0 a1) (slices_Contains_int_int_p.f (k + 1) a0 a1) := by
  intro a0 a1 k
  unfold slices_Contains_int_int_p.f
  repeat' first
      | (with_reducible exact slices_Index_int_int.mono _ _ _)
      | (with_reducible exact LeO.refl _)
      | (with_reducible exact LeO.none _)
      | (with_reducible refine LeO.ite ?_ ?_)
      | (with_reducible refine LeO.bind ?_ (fun _ => ?_))
      | exact slices_Index_int_int.mono _ _ _
      | exact LeO.none _
      | refine LeO.ite ?_ ?_
      | refine LeO.bind ?_ (fun _ => ?_)
set_option maxHeartbeats 8000000 in
set_option maxRecDepth 100000 in
theorem slices_Contains_int_int_p.calls (k : Nat) (A0 : Option Addr) (c0 : Nat) (l0 : List Int) (a1 : Int) (r : Bool) (w : World) (hr0 : Kd.C (Kd.int .i64) w A0 l0.length l0) (hc0 : l0.length ≤ c0) (h : slices_Contains_int_int_p.f k l0 a1 = some r) :
    Calls Try.prog 82 #[.slice A0 l0.length c0, .int .i64 a1] w fun e w' => e = .returned (.bool r) ∧ Drawn0 w w' := by
  have HR0 := Aside0.mk hr0
  have HC0 := Aside0.mk hc0
  clear hr0 hc0
  have H : ((slices_Index_int_int.f k l0 a1).bind fun t1001 => (some (decide (t1001 ≥ 0)))) = some r := h
  clear h
  replace H := Option.bind_eq_some_iff.mp H
  obtain ⟨t1001, A30, H⟩ := H
  replace H : (some (decide (t1001 ≥ 0))) = some r := H
  have A3 := Aside0.mk A30
  clear A30
  obtain rfl := Option.some.inj H
  go_enter Try.func82, Try.ntmps82
  go_wp2_with (first | ((with_reducible refine gate_callee (f := 117) rfl ?_); refine goesL_ (some 7) rfl rfl Try.func117 (by kernel_rfl) rfl #[.slice A0 l0.length c0, .int .i64 a1] rfl (by simp only [List.map_toArray, List.map_cons, List.map_nil] <;> rfl) ?_; (with_reducible refine (slices_Index_int_int.calls k _ _ l0 a1 t1001 _ ?side1 ?side2 A3.out).mono ?_); (case side1 => repeat (first | exact HR0.out | (with_reducible refine Kd.C_alloc ?_ _) | (with_reducible refine Kd.C_drewN ?_ _) | (with_reducible refine Kd.C_drew ?_))); (case side2 => exact HC0.out); rintro e w' ⟨rfl, ⟨nd, rfl⟩⟩; refine ⟨_, rfl, ?_⟩))
  go_ret
  exact ⟨by first | rfl | (simp; done) | (simp [*]; done), by repeat (first | exact Drawn0.refl _ | apply Drawn0.step)⟩
theorem slices_Contains_int_int.idx (l : List Int) (x : Int) (hl : l.length ≤ 9223372036854775807) (d : Nat) : ∀ (k : Nat) (i : Int), 0 ≤ i → i ≤ l.length → (l.length : Int) - i = d → d < k →
    ∃ r, slices_Index_int_int.l0 k l x (l.length : Int) i = some r ∧ decide (r ≥ 0) = (l.drop i.toNat).contains x := by
  induction d with
  | zero =>
    intro k i h0 h1 hd hk
    obtain ⟨k, rfl⟩ : ∃ m, k = m + 1 := ⟨k - 1, by omega⟩
    refine ⟨-1, by simp only [slices_Index_int_int.l0]; rw [if_neg (by omega)], ?_⟩
    rw [List.drop_of_length_le (by omega)]
    rfl
  | succ d ih =>
    intro k i h0 h1 hd hk
    obtain ⟨k, rfl⟩ : ∃ m, k = m + 1 := ⟨k - 1, by omega⟩
    have hlt : i < (l.length : Int) := by omega
    have hw : wrap64 (i + 1) = i + 1 := by unfold wrap64; omega
    have hn : i.toNat < l.length := by omega
    have hd2 : l.drop i.toNat = rd l i :: l.drop (i + 1).toNat := by
      rw [List.drop_eq_getElem_cons hn]
      have h3 : (i + 1).toNat = i.toNat + 1 := by omega
      rw [h3]
      simp [rd, List.getD_eq_getElem?_getD, hn]
    simp only [slices_Index_int_int.l0]
    rw [if_pos hlt, if_pos h0, if_pos hlt]
    by_cases hx : x = rd l i
    · rw [if_pos hx]
      refine ⟨i, rfl, ?_⟩
      rw [hd2, ← hx]
      simp [h0]
    · obtain ⟨r, hr, hc⟩ := ih k (i + 1) (by omega) (by omega) (by omega) (by omega)
      rw [if_neg hx, hw]
      refine ⟨r, hr, ?_⟩
      rw [hc, hd2, List.contains_cons]
      simp [hx]
def slices_Contains_int_int.f (l0 : List Int) (a1 : Int) : Option Bool := some (l0.contains a1)
theorem slices_Contains_int_int.calls (A0 : Option Addr) (c0 : Nat) (l0 : List Int) (a1 : Int) (r : Bool) (w : World) (hr0 : Kd.C (Kd.int .i64) w A0 l0.length l0) (hc0 : l0.length ≤ c0) (h : slices_Contains_int_int.f l0 a1 = some r) :
    Calls Try.prog 82 #[.slice A0 l0.length c0, .int .i64 a1] w fun e w' => e = .returned (.bool r) ∧ Drawn0 w w' := by
  obtain ⟨q, hq, hc⟩ := slices_Contains_int_int.idx l0 a1 hr0.2.1 l0.length (l0.length + 1) 0 (by omega) (by omega) (by omega) (by omega)
  refine slices_Contains_int_int_p.calls (l0.length + 1) A0 c0 l0 a1 r w hr0 hc0 ?_
  unfold slices_Contains_int_int_p.f slices_Index_int_int.f
  rw [hq, Option.bind_some, hc]
  exact h
end Go.Proofs.Ytagceackfnkifaa.F
