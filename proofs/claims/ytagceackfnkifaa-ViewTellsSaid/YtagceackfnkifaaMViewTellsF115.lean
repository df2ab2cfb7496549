import Derived.Test.YtagceackfnkifaaMViewTellsF0
import Derived.Test.YtagceackfnkifaaMViewTellsB4
import Derived.Test.YtagceackfnkifaaMViewTellsB1
import Derived.Test.YtagceackfnkifaaMViewTellsF75
namespace Go.Proofs.Ytagceackfnkifaa.F
open Go.RowKit Go.Proofs.YtagceackfnkifaaW.PrintWords Go.Proofs.YtagceackfnkifaaW.PrintLast Go.Proofs.YtagceackfnkifaaW.PrintMore
attribute [local go_sem] max2_int min2_int max_two min_two max_three min_three max_four min_four
set_option linter.unusedVariables false
set_option linter.unusedSimpArgs false
def gemotref4_Put_p.l0 : Nat → List ByteArray → ByteArray → Int → Option (ByteArray × Int)
  | 0, _, _, _ => none
  | k + 1, x0, x4, x5 => if x5 < (x0.length : Int) then (if 0 ≤ x5 then ((gemotref1_Right.f (rdOf ByteArray.empty x0 x5)).bind fun t1002 => (if t1002 = true then (if x4.size + 1 ≤ 9223372036854775807 then (if (x4 ++ (⟨#[112]⟩ : ByteArray)).size + (rdOf ByteArray.empty x0 x5).size ≤ 9223372036854775807 then (gemotref4_Put_p.l0 k x0 ((x4 ++ (⟨#[112]⟩ : ByteArray)) ++ (rdOf ByteArray.empty x0 x5)) (wrap64 (x5 + 1))) else (none)) else (none)) else (some ((⟨#[]⟩ : ByteArray), 1)))) else (none)) else (if (x0.length : Int) > 150 then (some ((⟨#[]⟩ : ByteArray), 1)) else ((gemotref1_Number.f 0).bind fun t1004 => (if x4.size + t1004.size ≤ 9223372036854775807 then (if ((x4 ++ t1004).size : Int) > 20000 then (some ((⟨#[]⟩ : ByteArray), 3)) else ((gemotref1_Right.f (x4 ++ t1004)).bind fun t1005 => (if t1005 = true then (some (x4 ++ t1004, 0)) else (some ((⟨#[]⟩ : ByteArray), 4))))) else (none))))
def gemotref4_Put_p.f (k : Nat) (l0 : List ByteArray) : Option (ByteArray × Int) := gemotref4_Put_p.l0 k l0 (⟨#[]⟩ : ByteArray) 0
set_option maxHeartbeats 8000000 in
set_option maxRecDepth 100000 in
theorem gemotref4_Put_p.calls (k : Nat) (A0 : Option Addr) (c0 : Nat) (l0 : List ByteArray) (r1 : ByteArray) (r2 : Int) (w : World) (hr0 : Kd.C Kd.string w A0 l0.length l0) (hc0 : l0.length ≤ c0) (h : gemotref4_Put_p.f k l0 = some (r1, r2)) :
    Calls Try.prog 115 #[.slice A0 l0.length c0] w fun e w' => e = .returned (.tuple #[.string r1, .int .i64 r2]) ∧ Below w.heap.size w w' := by
  have HR0 := Aside0.mk hr0
  have HC0 := Aside0.mk hc0
  clear hr0 hc0; have HB := Aside0.mk (Below.refl w.heap.size w)
  have H : (gemotref4_Put_p.l0 k l0 (⟨#[]⟩ : ByteArray) 0) = some (r1, r2) := h
  clear h; have H' := Aside0.mk H
  clear H; go_enter Try.func115, Try.ntmps115
  go_wp2; go_loopg [4, 5] k (fun kq v4 v5 w' => ∃ (x4_1 : ByteArray) (x5_1 : Int), v4 = .string x4_1 ∧ v5 = .int .i64 x5_1 ∧ Aside0 (gemotref4_Put_p.l0 kq l0 x4_1 x5_1 = some (r1, r2)) ∧ Aside0 (kq ≤ k) ∧ Aside0 (Below w.heap.size w w'))
  case atStart => exact ⟨((⟨#[]⟩ : ByteArray)), (0), (by first | rfl | (simp; done) | (simp [*]; done)), (by first | rfl | (simp; done) | (simp [*]; done)), H', ⟨Nat.le_refl _⟩, ⟨by repeat (first | (with_reducible first | exact HB.out | apply below_alloc | apply pw_below_drewN | apply below_drew1) | exact HB.out)⟩⟩
  case round =>
    clear H'; try clear c1
    obtain ⟨x4_1, x5_1, rfl, rfl, HA, HK1, HB⟩ := hrel; cases gk with
    | zero => exact absurd HA.out (by simp [gemotref4_Put_p.l0])
    | succ k1 =>
      have H := HA.out; clear HA; simp only [gemotref4_Put_p.l0] at H; by_cases c2 : x5_1 < (l0.length : Int)
      · rw [if_pos c2] at H
        have c2b0 : decide (x5_1 < (l0.length : Int)) = true := decide_eq_true c2
        clear c2; by_cases c3 : 0 ≤ x5_1
        · rw [if_pos c3] at H
          have c3b0 : decide (0 ≤ x5_1) = true := decide_eq_true c3
          clear c3; replace H := Option.bind_eq_some_iff.mp H
          obtain ⟨t1002, A40, H⟩ := H; replace H : (if t1002 = true then (if x4_1.size + 1 ≤ 9223372036854775807 then (if (x4_1 ++ (⟨#[112]⟩ : ByteArray)).size + (rdOf ByteArray.empty l0 x5_1).size ≤ 9223372036854775807 then (gemotref4_Put_p.l0 k1 l0 ((x4_1 ++ (⟨#[112]⟩ : ByteArray)) ++ (rdOf ByteArray.empty l0 x5_1)) (wrap64 (x5_1 + 1))) else (none)) else (none)) else (some ((⟨#[]⟩ : ByteArray), 1))) = some (r1, r2) := H
          have A4 := Aside0.mk A40
          clear A40; by_cases c5 : t1002 = true
          · subst c5; have H1 : (if x4_1.size + 1 ≤ 9223372036854775807 then (if (x4_1 ++ (⟨#[112]⟩ : ByteArray)).size + (rdOf ByteArray.empty l0 x5_1).size ≤ 9223372036854775807 then (gemotref4_Put_p.l0 k1 l0 ((x4_1 ++ (⟨#[112]⟩ : ByteArray)) ++ (rdOf ByteArray.empty l0 x5_1)) (wrap64 (x5_1 + 1))) else (none)) else (none)) = some (r1, r2) := by rw [if_pos rfl] at H; exact H
            clear H; have H := H1; clear H1; by_cases c6 : x4_1.size + 1 ≤ 9223372036854775807
            · rw [if_pos c6] at H
              have c6b0 := eq_true c6
              have c6b1 : decide (x4_1.size + 1 ≤ 9223372036854775807) = true := decide_eq_true c6
              try have c6b2 : (9223372036854775807 < x4_1.size + 1) = False := eq_false (Nat.not_lt.2 c6)
              by_cases c7 : (x4_1 ++ (⟨#[112]⟩ : ByteArray)).size + (rdOf ByteArray.empty l0 x5_1).size ≤ 9223372036854775807
              · rw [if_pos c7] at H
                have c7b0 := eq_true c7
                have c7b1 : decide ((x4_1 ++ (⟨#[112]⟩ : ByteArray)).size + (rdOf ByteArray.empty l0 x5_1).size ≤ 9223372036854775807) = true := decide_eq_true c7
                try have c7b2 : (9223372036854775807 < (x4_1 ++ (⟨#[112]⟩ : ByteArray)).size + (rdOf ByteArray.empty l0 x5_1).size) = False := eq_false (Nat.not_lt.2 c7)
                try have c7b9 : (9223372036854775807 < x4_1.size + 1 + (rdOf ByteArray.empty l0 x5_1).size) = False := eq_false (Nat.not_lt.2 (by have h_ := c7; simp only [ByteArray.size_append] at h_; exact h_))
                have H' := Aside0.mk H
                clear H; have p1001 : 0 ≤ (x5_1 : Int) := of_decide_eq_true (by first | (with_reducible assumption) | assumption)
                have q1001 : x5_1 < (l0.length : Int) := of_decide_eq_true (by first | (with_reducible assumption) | assumption)
                obtain ⟨ad1001, e1001, hx1001_0⟩ := Kd.at_string HR0.out x5_1 p1001 q1001
                cases e1001
                replace hx1001_0 := (HB.out.cell (World.block_lt_of_cell? w _ hx1001_0)).trans hx1001_0
                replace p1001 := eq_true p1001
                replace q1001 := eq_true q1001
                go_wp2_with (first | ((with_reducible refine gate_callee (f := 89) rfl ?_); refine goesL_ (some 16) rfl rfl Try.func89 (by kernel_rfl) rfl #[.string (rdOf ByteArray.empty l0 x5_1)] rfl (by simp only [List.map_toArray, List.map_cons, List.map_nil] <;> rfl) ?_; (with_reducible refine (gemotref1_Right.calls (rdOf ByteArray.empty l0 x5_1) true _ A4.out).mono ?_); rintro e w8 ⟨rfl, hb⟩; refine ⟨_, rfl, ?_⟩; have n0_ := Aside0.mk (below_step (by repeat with_reducible first | exact HB.out | apply below_alloc | apply pw_below_drewN | apply below_drew1) hb); clear HB; have HB := n0_; clear n0_; (try clear hb); have p1003 : 0 ≤ (x5_1 : Int) := of_decide_eq_true (by assumption); have q1003 : x5_1 < (l0.length : Int) := of_decide_eq_true (by assumption); obtain ⟨ad1003, e1003, hx1003_0⟩ := Kd.at_string HR0.out x5_1 p1003 q1003; obtain rfl : ad1001 = ad1003 := (by injection e1003); replace hx1003_0 := (HB.out.cell (World.block_lt_of_cell? w _ hx1003_0)).trans hx1003_0; replace p1003 := eq_true p1003; replace q1003 := eq_true q1003))
                go_roundg k1
                case measure => have := HK1.out; omega
                case rel => exact ⟨((x4_1 ++ (⟨#[112]⟩ : ByteArray)) ++ (rdOf ByteArray.empty l0 x5_1)), (wrap64 (x5_1 + 1)), (by first | rfl | (simp; done) | (simp [*]; done)), (by first | rfl | (simp; done) | (simp [*]; done)), H', ⟨by have := HK1.out; omega⟩, ⟨by repeat (first | (with_reducible first | exact HB.out | apply below_alloc | apply pw_below_drewN | apply below_drew1) | exact HB.out)⟩⟩
              · rw [if_neg c7] at H
                exact absurd H (by simp)
            · rw [if_neg c6] at H
              exact absurd H (by simp)
          · replace c5 := Bool.eq_false_iff.mpr c5
            subst c5; have H1 : (some ((⟨#[]⟩ : ByteArray), 1)) = some (r1, r2) := by rw [if_neg (show ¬ (false = true) by decide)] at H; exact H
            clear H; have H := H1; clear H1; simp only [Option.some.injEq, Prod.mk.injEq] at H; obtain ⟨rfl, rfl⟩ := H; have p1001 : 0 ≤ (x5_1 : Int) := of_decide_eq_true (by first | (with_reducible assumption) | assumption)
            have q1001 : x5_1 < (l0.length : Int) := of_decide_eq_true (by first | (with_reducible assumption) | assumption)
            obtain ⟨ad1001, e1001, hx1001_0⟩ := Kd.at_string HR0.out x5_1 p1001 q1001
            cases e1001
            replace hx1001_0 := (HB.out.cell (World.block_lt_of_cell? w _ hx1001_0)).trans hx1001_0
            replace p1001 := eq_true p1001
            replace q1001 := eq_true q1001
            go_wp2_with (first | ((with_reducible refine gate_callee (f := 89) rfl ?_); refine goesL_ (some 16) rfl rfl Try.func89 (by kernel_rfl) rfl #[.string (rdOf ByteArray.empty l0 x5_1)] rfl (by simp only [List.map_toArray, List.map_cons, List.map_nil] <;> rfl) ?_; (with_reducible refine (gemotref1_Right.calls (rdOf ByteArray.empty l0 x5_1) false _ A4.out).mono ?_); rintro e w9 ⟨rfl, hb⟩; refine ⟨_, rfl, ?_⟩; have n0_ := Aside0.mk (below_step (by repeat with_reducible first | exact HB.out | apply below_alloc | apply pw_below_drewN | apply below_drew1) hb); clear HB; have HB := n0_; clear n0_; (try clear hb)))
            go_ret2
            exact ⟨by first | rfl | (simp [errW_none, errW_some] <;> rfl) | (simp [*, errW_none, errW_some] <;> rfl), by repeat (first | (with_reducible first | exact HB.out | apply below_alloc | apply pw_below_drewN | apply below_drew1) | exact HB.out)⟩
        · rw [if_neg c3] at H
          exact absurd H (by simp)
      · rw [if_neg c2] at H
        have c2b0 : decide (x5_1 < (l0.length : Int)) = false := decide_eq_false c2
        clear c2; by_cases c10 : (l0.length : Int) > 150
        · rw [if_pos c10] at H
          have c10b0 : decide (150 < (l0.length : Int)) = true := decide_eq_true c10
          have c10b1 : decide (150 < l0.length) = true := decide_eq_true (by omega)
          clear c10; simp only [Option.some.injEq, Prod.mk.injEq] at H; obtain ⟨rfl, rfl⟩ := H; go_wp2; go_ret2
          exact ⟨by first | rfl | (simp [errW_none, errW_some] <;> rfl) | (simp [*, errW_none, errW_some] <;> rfl), by repeat (first | (with_reducible first | exact HB.out | apply below_alloc | apply pw_below_drewN | apply below_drew1) | exact HB.out)⟩
        · rw [if_neg c10] at H
          have c10b0 : decide (150 < (l0.length : Int)) = false := decide_eq_false c10
          have c10b1 : decide (150 < l0.length) = false := decide_eq_false (by omega)
          clear c10; replace H := Option.bind_eq_some_iff.mp H
          obtain ⟨t1004, A110, H⟩ := H; replace H : (if x4_1.size + t1004.size ≤ 9223372036854775807 then (if ((x4_1 ++ t1004).size : Int) > 20000 then (some ((⟨#[]⟩ : ByteArray), 3)) else ((gemotref1_Right.f (x4_1 ++ t1004)).bind fun t1005 => (if t1005 = true then (some (x4_1 ++ t1004, 0)) else (some ((⟨#[]⟩ : ByteArray), 4))))) else (none)) = some (r1, r2) := H
          have A11 := Aside0.mk A110
          clear A110; by_cases c12 : x4_1.size + t1004.size ≤ 9223372036854775807
          · rw [if_pos c12] at H
            have c12b0 := eq_true c12
            have c12b1 : decide (x4_1.size + t1004.size ≤ 9223372036854775807) = true := decide_eq_true c12
            try have c12b2 : (9223372036854775807 < x4_1.size + t1004.size) = False := eq_false (Nat.not_lt.2 c12)
            by_cases c13 : ((x4_1 ++ t1004).size : Int) > 20000
            · rw [if_pos c13] at H
              have c13b0 : decide (20000 < ((x4_1 ++ t1004).size : Int)) = true := decide_eq_true c13
              have c13b1 : decide (20000 < (x4_1 ++ t1004).size) = true := decide_eq_true (by omega)
              have c13z : (x4_1 ++ t1004).size = x4_1.size + t1004.size := ByteArray.size_append
              have c13b2 : decide ((20000 : Int) < (x4_1.size : Int) + (t1004.size : Int)) = true := decide_eq_true (by omega)
              have c13b3 : decide (20000 < x4_1.size + t1004.size) = true := decide_eq_true (by omega)
              clear c13z; clear c13; simp only [Option.some.injEq, Prod.mk.injEq] at H; obtain ⟨rfl, rfl⟩ := H; go_wp2_with (first | ((with_reducible refine gate_callee (f := 114) rfl ?_); refine goesL_ (some 29) rfl rfl Try.func114 (by kernel_rfl) rfl #[.int .u64 0] rfl (by simp only [List.map_toArray, List.map_cons, List.map_nil] <;> rfl) ?_; (with_reducible refine (gemotref1_Number.calls 0 t1004 _ A11.out).mono ?_); rintro e w14 ⟨rfl, hb⟩; refine ⟨_, rfl, ?_⟩; have n0_ := Aside0.mk (below_step (by repeat with_reducible first | exact HB.out | apply below_alloc | apply pw_below_drewN | apply below_drew1) hb); clear HB; have HB := n0_; clear n0_; (try clear hb)))
              go_ret2
              exact ⟨by first | rfl | (simp [errW_none, errW_some] <;> rfl) | (simp [*, errW_none, errW_some] <;> rfl), by repeat (first | (with_reducible first | exact HB.out | apply below_alloc | apply pw_below_drewN | apply below_drew1) | exact HB.out)⟩
            · rw [if_neg c13] at H
              have c13b0 : decide (20000 < ((x4_1 ++ t1004).size : Int)) = false := decide_eq_false c13
              have c13b1 : decide (20000 < (x4_1 ++ t1004).size) = false := decide_eq_false (by omega)
              have c13z : (x4_1 ++ t1004).size = x4_1.size + t1004.size := ByteArray.size_append
              have c13b2 : decide ((20000 : Int) < (x4_1.size : Int) + (t1004.size : Int)) = false := decide_eq_false (by omega)
              have c13b3 : decide (20000 < x4_1.size + t1004.size) = false := decide_eq_false (by omega)
              clear c13z; clear c13; replace H := Option.bind_eq_some_iff.mp H
              obtain ⟨t1005, A150, H⟩ := H; replace H : (if t1005 = true then (some (x4_1 ++ t1004, 0)) else (some ((⟨#[]⟩ : ByteArray), 4))) = some (r1, r2) := H
              have A15 := Aside0.mk A150
              clear A150; by_cases c16 : t1005 = true
              · subst c16; have H1 : (some (x4_1 ++ t1004, 0)) = some (r1, r2) := by rw [if_pos rfl] at H; exact H
                clear H; have H := H1; clear H1; simp only [Option.some.injEq, Prod.mk.injEq] at H; obtain ⟨rfl, rfl⟩ := H; go_wp2_with (first | ((with_reducible refine gate_callee (f := 114) rfl ?_); refine goesL_ (some 29) rfl rfl Try.func114 (by kernel_rfl) rfl #[.int .u64 0] rfl (by simp only [List.map_toArray, List.map_cons, List.map_nil] <;> rfl) ?_; (with_reducible refine (gemotref1_Number.calls 0 t1004 _ A11.out).mono ?_); rintro e w17 ⟨rfl, hb⟩; refine ⟨_, rfl, ?_⟩; have n0_ := Aside0.mk (below_step (by repeat with_reducible first | exact HB.out | apply below_alloc | apply pw_below_drewN | apply below_drew1) hb); clear HB; have HB := n0_; clear n0_; (try clear hb)) | ((with_reducible refine gate_callee (f := 89) rfl ?_); refine goesL_ (some 35) rfl rfl Try.func89 (by kernel_rfl) rfl #[.string (x4_1 ++ t1004)] rfl (by simp only [List.map_toArray, List.map_cons, List.map_nil] <;> rfl) ?_; (with_reducible refine (gemotref1_Right.calls (x4_1 ++ t1004) true _ A15.out).mono ?_); rintro e w18 ⟨rfl, hb⟩; refine ⟨_, rfl, ?_⟩; have n0_ := Aside0.mk (below_step (by repeat with_reducible first | exact HB.out | apply below_alloc | apply pw_below_drewN | apply below_drew1) hb); clear HB; have HB := n0_; clear n0_; (try clear hb)))
                go_ret2
                exact ⟨by first | rfl | (simp [errW_none, errW_some] <;> rfl) | (simp [*, errW_none, errW_some] <;> rfl), by repeat (first | (with_reducible first | exact HB.out | apply below_alloc | apply pw_below_drewN | apply below_drew1) | exact HB.out)⟩
              · replace c16 := Bool.eq_false_iff.mpr c16
                subst c16; have H1 : (some ((⟨#[]⟩ : ByteArray), 4)) = some (r1, r2) := by rw [if_neg (show ¬ (false = true) by decide)] at H; exact H
                clear H; have H := H1; clear H1; simp only [Option.some.injEq, Prod.mk.injEq] at H; obtain ⟨rfl, rfl⟩ := H; go_wp2_with (first | ((with_reducible refine gate_callee (f := 114) rfl ?_); refine goesL_ (some 29) rfl rfl Try.func114 (by kernel_rfl) rfl #[.int .u64 0] rfl (by simp only [List.map_toArray, List.map_cons, List.map_nil] <;> rfl) ?_; (with_reducible refine (gemotref1_Number.calls 0 t1004 _ A11.out).mono ?_); rintro e w19 ⟨rfl, hb⟩; refine ⟨_, rfl, ?_⟩; have n0_ := Aside0.mk (below_step (by repeat with_reducible first | exact HB.out | apply below_alloc | apply pw_below_drewN | apply below_drew1) hb); clear HB; have HB := n0_; clear n0_; (try clear hb)) | ((with_reducible refine gate_callee (f := 89) rfl ?_); refine goesL_ (some 35) rfl rfl Try.func89 (by kernel_rfl) rfl #[.string (x4_1 ++ t1004)] rfl (by simp only [List.map_toArray, List.map_cons, List.map_nil] <;> rfl) ?_; (with_reducible refine (gemotref1_Right.calls (x4_1 ++ t1004) false _ A15.out).mono ?_); rintro e w20 ⟨rfl, hb⟩; refine ⟨_, rfl, ?_⟩; have n0_ := Aside0.mk (below_step (by repeat with_reducible first | exact HB.out | apply below_alloc | apply pw_below_drewN | apply below_drew1) hb); clear HB; have HB := n0_; clear n0_; (try clear hb)))
                go_ret2
                exact ⟨by first | rfl | (simp [errW_none, errW_some] <;> rfl) | (simp [*, errW_none, errW_some] <;> rfl), by repeat (first | (with_reducible first | exact HB.out | apply below_alloc | apply pw_below_drewN | apply below_drew1) | exact HB.out)⟩
          · rw [if_neg c12] at H
            exact absurd H (by simp)
open Go.Proofs.Ytagceackfnkifaa.Pure
def gemotref4_Put.f (l : List ByteArray) : Option (ByteArray × Int) := if l.length ≤ 100000 ∧ ∀ x ∈ l, x.size < 9223372036854775808 then some (putF l) else none
def preP : List ByteArray → ByteArray
  | [] => ⟨#[]⟩
  | x :: l => (⟨#[112]⟩ : ByteArray) ++ x ++ preP l
theorem putOut_pre : ∀ l : List ByteArray, putOut l = preP l ++ numF 0
  | [] => (nil_app _).symm
  | x :: l => by
    show (⟨#[112]⟩ : ByteArray) ++ x ++ putOut l = _
    rw [putOut_pre l, preP, app_assoc, app_assoc, app_assoc]
def gemotref4_Put.fin (n : Nat) (s : ByteArray) : ByteArray × Int := if 150 < n then (⟨#[]⟩, 1) else if 20000 < (s ++ numF 0).size then (⟨#[]⟩, 3) else if rightB (s ++ numF 0) = true then (s ++ numF 0, 0) else (⟨#[]⟩, 4)
theorem gemotref4_Put.loop {l : List ByteArray} (hl : l.length ≤ 100000) (hs : ∀ x ∈ l, x.size < 9223372036854775808) : ∀ (d k i : Nat) (acc : ByteArray), i + d = l.length → acc.size ≤ i * 20001 → d < k →
    gemotref4_Put_p.l0 k l acc i = some (if (l.drop i).any (fun x => !rightB x) = true then (⟨#[]⟩, 1) else gemotref4_Put.fin l.length (acc ++ preP (l.drop i)))
  | 0, k, i, acc, hi, ha, hk => by
    obtain ⟨k, rfl⟩ : ∃ m, k = m + 1 := ⟨k - 1, by omega⟩
    have hd : l.drop i = [] := List.drop_of_length_le (by omega)
    simp only [gemotref4_Put_p.l0]; rw [if_neg (by omega), hd, List.any_nil]
    simp only [Bool.false_eq_true, if_false]; unfold gemotref4_Put.fin
    have hn : preP [] = (⟨#[]⟩ : ByteArray) := rfl
    rw [hn, app_nil]
    by_cases c : 150 < l.length
    · rw [if_pos (by omega), if_pos c]
    · rw [if_neg (by omega), if_neg c]
      unfold gemotref1_Number.f gemotref1_Right.f
      have hz : (acc ++ numF 0).size = acc.size + 9 := by rw [ByteArray.size_append, numF_size]
      simp only [Option.bind_some]; rw [if_pos (by rw [numF_size]; omega)]
      by_cases e : 20000 < (acc ++ numF 0).size
      · rw [if_pos (by omega), if_pos e]
      · rw [if_neg (by omega), if_neg e, if_pos (by omega)]
        simp only [Option.bind_some]; split <;> rfl
  | d + 1, k, i, acc, hi, ha, hk => by
    obtain ⟨k, rfl⟩ : ∃ m, k = m + 1 := ⟨k - 1, by omega⟩
    have hlt : i < l.length := by omega
    have hd : l.drop i = rdOf ByteArray.empty l i :: l.drop (i + 1) := by
      rw [List.drop_eq_getElem_cons hlt]
      simp [rdOf, List.getD_eq_getElem?_getD, hlt]
    have hx : rdOf ByteArray.empty l i ∈ l := by
      have : rdOf ByteArray.empty l i = l[i] := by simp [rdOf, List.getD_eq_getElem?_getD, hlt]
      rw [this]; exact List.getElem_mem _
    have hxs := hs _ hx
    simp only [gemotref4_Put_p.l0]; unfold gemotref1_Right.f
    rw [if_pos (by omega), if_pos (by omega), if_pos hxs, hd]
    simp only [Option.bind_some]; generalize rdOf ByteArray.empty l (i : Int) = x at hxs ⊢
    by_cases c : rightB x = true
    · have hz := ((right_iff x).mp c).2
      have h1 : (acc ++ (⟨#[112]⟩ : ByteArray)).size = acc.size + 1 := by rw [ByteArray.size_append]; rfl
      have hw : wrap64 ((i : Int) + 1) = ((i + 1 : Nat) : Int) := by unfold wrap64; omega
      rw [if_pos c, if_pos (by omega), if_pos (by omega), hw, gemotref4_Put.loop hl hs d k (i + 1) _ (by omega) (by rw [ByteArray.size_append, h1]; omega) (by omega)]
      rw [List.any_cons, c, Bool.not_true, Bool.false_or, preP, app_assoc, app_assoc, app_assoc]
    · rw [if_neg c, if_pos (by rw [List.any_cons, Bool.eq_false_iff.mpr c]; rfl)]
theorem gemotref4_Put.eq (l : List ByteArray) (hl : l.length ≤ 100000) (hs : ∀ x ∈ l, x.size < 9223372036854775808) : gemotref4_Put_p.f (l.length + 1) l = some (putF l) := by
  unfold gemotref4_Put_p.f
  have h := gemotref4_Put.loop hl hs l.length (l.length + 1) 0 ⟨#[]⟩ (by omega) (by show 0 ≤ _; omega) (by omega)
  rw [show ((0 : Nat) : Int) = 0 from rfl] at h
  rw [h, List.drop_zero, nil_app]
  unfold putF gemotref4_Put.fin
  rw [← putOut_pre]
  by_cases c : l.any (fun x => !rightB x) = true
  · rw [if_pos c, if_pos (.inr c)]
  · rw [if_neg c]
    by_cases e : 150 < l.length
    · rw [if_pos e, if_pos (.inl e)]
    · rw [if_neg e, if_neg (c := 150 < l.length ∨ l.any (fun x => !rightB x) = true) (fun h => h.elim e c)]
theorem gemotref4_Put.calls (A0 : Option Addr) (c0 : Nat) (l0 : List ByteArray) (r1 : ByteArray) (r2 : Int) (w : World) (hr0 : Kd.C Kd.string w A0 l0.length l0) (hc0 : l0.length ≤ c0) (h : gemotref4_Put.f l0 = some (r1, r2)) :
    Calls Try.prog 115 #[.slice A0 l0.length c0] w fun e w' => e = .returned (.tuple #[.string r1, .int .i64 r2]) ∧ Below w.heap.size w w' := by
  unfold gemotref4_Put.f at h
  split at h
  case isFalse => cases h
  rename_i hs
  exact gemotref4_Put_p.calls (l0.length + 1) A0 c0 l0 r1 r2 w hr0 hc0 ((gemotref4_Put.eq l0 hs.1 hs.2).trans h)
end Go.Proofs.Ytagceackfnkifaa.F
