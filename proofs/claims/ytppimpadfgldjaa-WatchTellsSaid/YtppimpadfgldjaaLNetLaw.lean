/- What the statements on nets do to a net, by its plain form. -/
import Derived.Test.YtppimpadfgldjaaB2
import Derived.Test.YtppimpadfgldjaaF56
import Derived.Test.YtppimpadfgldjaaF58
import Derived.Test.YtppimpadfgldjaaB1
namespace Go.Proofs.Ytppimpadfgldjaa.Pure
set_option linter.unusedVariables false
set_option linter.unusedSimpArgs false
open Go.RowKit Go.Proofs.Ytppimpadfgldjaa.F Go.Proofs.YtppimpadfgldjaaW.PrintWords Go.Proofs.YtppimpadfgldjaaW.PrintLast Go.Proofs.YtppimpadfgldjaaW.PrintMore

/-- Which of n things a number speaks of. -/
def pk (x n : Int) : Int := (if x < 0 then -(x + 1) else x) % n
def In64 (x : Int) : Prop := -9223372036854775808 ≤ x ∧ x ≤ 9223372036854775807
instance (x : Int) : Decidable (In64 x) := inferInstanceAs (Decidable (_ ∧ _))
theorem in64_of {x : Int} (h : (Lit.int .i64 x).wf = true) : In64 x := by
  simp only [Lit.wf, IntKind.min, IntKind.max, IntKind.signed, IntKind.bits, Bool.and_eq_true, decide_eq_true_eq, if_true, Bool.false_eq_true, if_false] at h
  exact ⟨by have := h.1; omega, by have := h.2; omega⟩
theorem pk_f {x n : Int} (hx : In64 x) (hn : 0 < n) (hm : n ≤ 9223372036854775807) : gemotlaw8_pick.f x n = some (pk x n) := if_pos ⟨hx.1, hx.2, hn, hm⟩
theorem pk_nn (x : Int) {n : Int} (hn : 0 < n) : 0 ≤ pk x n := Int.emod_nonneg _ (by omega)
theorem pk_lt (x : Int) {n : Int} (hn : 0 < n) : pk x n < n := Int.emod_lt_of_pos _ hn
theorem numN_right (n : Int) : rightB (numF n) = true := (num_leaf n).right (by rw [numF_size]; decide)
/-- A frame is sent. -/
theorem send_num (s : NS) (a b n : Int) (ha : 1 ≤ a ∧ a ≤ 8) (hb : 1 ≤ b ∧ b ≤ 8) : sendN s ⟨a, b, numF n⟩ = addN (hearN s ⟨a, b, numF n⟩) ⟨a, b, numF n⟩ := if_pos ⟨ha, hb, numN_right n⟩
theorem add_room {s : NS} (h : s.lie.length < 400) (d : S114) : addN s d = ({ s with lie := s.lie ++ [d] }, 0) := if_neg (Nat.not_le_of_lt h)
theorem send_room (s : NS) (a b n : Int) (ha : 1 ≤ a ∧ a ≤ 8) (hb : 1 ≤ b ∧ b ≤ 8) (h : s.lie.length < 400) : sendN s ⟨a, b, numF n⟩ = (⟨s.lie ++ [⟨a, b, numF n⟩], insF s.heard (numF n), s.many + 1⟩, 0) := by
  rw [send_num s a b n ha hb]
  exact add_room (s := hearN s ⟨a, b, numF n⟩) h _
theorem double_room {s : NS} {i : Int} (h0 : 0 ≤ i) (h1 : i < s.lie.length) (h : s.lie.length < 400) : doubleN s i = ({ s with lie := s.lie ++ [rd_T114 s.lie i] }, 0) := by
  unfold doubleN
  rw [if_pos (show hasN s i = true from decide_eq_true ⟨h0, h1⟩), add_room h]
theorem take_some {s : NS} {i : Int} (h0 : 0 ≤ i) (h1 : i < s.lie.length) : takeN s i = ({ s with lie := s.lie.eraseIdx i.toNat }, rd_T114 s.lie i, 0) := if_pos (show hasN s i = true from decide_eq_true ⟨h0, h1⟩)
theorem take_first (d : S114) (l : List S114) (h : List ByteArray) (m : Nat) : takeN ⟨d :: l, h, m⟩ 0 = (⟨l, h, m⟩, d, 0) := by
  rw [take_some (by decide) (by simp only [List.length_cons]; omega)]
  rfl
theorem take_none (h : List ByteArray) (m : Nat) : takeN ⟨[], h, m⟩ 0 = (⟨[], h, m⟩, z114, 8) := rfl
theorem sendNumL {B : Nat} {w : World} {g : Nat} {s : NS} {F : Nat → Prop} (h : NetL B w g s F) (a b n : Int) (ha : 1 ≤ a ∧ a ≤ 8) (hb : 1 ≤ b ∧ b ≤ 8) (hl : s.lie.length < 400) (hm : s.many < 1000000000) :
    Calls Try.prog 63 #[.pointer (some ⟨g, 0, none⟩), .agg #[.int .i64 a, .int .i64 b, .string (numF n)]] w fun e w' => e = .returned (.int .i64 0) ∧ Step B w g F w' ⟨s.lie ++ [⟨a, b, numF n⟩], insF s.heard (numF n), s.many + 1⟩ := by
  have h1 := sendL h ⟨a, b, numF n⟩ (by omega) hm (by show (numF n).size < _; rw [numF_size]; decide)
  rw [send_room s a b n ha hb hl] at h1
  exact h1
theorem doubleAtL {B : Nat} {w : World} {g : Nat} {s : NS} {F : Nat → Prop} (h : NetL B w g s F) (i : Int) (h0 : 0 ≤ i) (h1 : i < s.lie.length) (hl : s.lie.length < 400) :
    Calls Try.prog 61 #[.pointer (some ⟨g, 0, none⟩), .int .i64 i] w fun e w' => e = .returned (.int .i64 0) ∧ Step B w g F w' { s with lie := s.lie ++ [rd_T114 s.lie i] } := by
  have h2 := doubleL h i (by omega)
  rw [double_room h0 h1 hl] at h2
  exact h2
theorem takeFirstL {B : Nat} {w : World} {g m : Nat} {d : S114} {l : List S114} {hs : List ByteArray} {F : Nat → Prop} (h : NetL B w g ⟨d :: l, hs, m⟩ F) (hl : l.length < 400) :
    Calls Try.prog 59 #[.pointer (some ⟨g, 0, none⟩), .int .i64 0] w fun e w' => e = .returned (.tuple #[.agg #[.int .i64 d.f0, .int .i64 d.f1, .string d.f2], .int .i64 0]) ∧ Step B w g F w' ⟨l, hs, m⟩ := by
  have h1 := takeL h 0 (by show (d :: l).length ≤ 400; rw [List.length_cons]; omega)
  rw [take_first] at h1
  exact h1
theorem takeNoneL {B : Nat} {w : World} {g m : Nat} {hs : List ByteArray} {F : Nat → Prop} (h : NetL B w g ⟨[], hs, m⟩ F) :
    Calls Try.prog 59 #[.pointer (some ⟨g, 0, none⟩), .int .i64 0] w fun e w' => e = .returned (.tuple #[.agg #[.int .i64 0, .int .i64 0, .string ⟨#[]⟩], .int .i64 8]) ∧ Step B w g F w' ⟨[], hs, m⟩ :=
  takeL h 0 (by show (0 : Nat) ≤ 400; omega)
theorem loc_R {α : Type} {d : Kd α} {e B : Nat} {F : Nat → Prop} {w : World} {v : Value} {xs : List α} (h : Go.Proofs.Ytppimpadfgldjaa.F.Loc d e B F w v xs) : d.R e w B (fun k => ¬ F k) v xs := by
  obtain ⟨ok, h1, h2⟩ := h
  exact Kd.R_mono h1 (fun k hk => (h2 k hk).1)
theorem loc_of {α : Type} {d : Kd α} {e B : Nat} {F : Nat → Prop} {w : World} {v : Value} {xs : List α} (h : d.R e w B (fun k => ¬ F k) v xs) : Go.Proofs.Ytppimpadfgldjaa.F.Loc d e B F w v xs :=
  ⟨_, Kd.R_bound h, fun k hk => ⟨hk.1, hk.2.2.1⟩⟩
theorem NetL.grown {B : Nat} {w w' : World} {g : Nat} {s : NS} {F : Nat → Prop} {row : Option Nat} (h : NetL B w g s F) (hg : w.grownBy w' row) (hr : ∀ k, row = some k → ¬ F k) : NetL B w' g s F :=
  ⟨h.1.kept (fun k hk hlt => hg.block k hlt (fun e => hr k e.symm hk)), fun k hk => ⟨(h.2.1 k hk).1, Nat.lt_of_lt_of_le (h.2.1 k hk).2 hg.size⟩, Nat.le_trans h.2.2 hg.size⟩
theorem pick_calls (x n : Int) (hx : In64 x) (hn : 0 < n) (hm : n ≤ 9223372036854775807) (w : World) :
    Calls Try.prog 58 #[.int .i64 x, .int .i64 n] w fun e w' => e = .returned (.int .i64 (pk x n)) ∧ Drawn0 w w' :=
  gemotlaw8_pick.calls x n (pk x n) w (pk_f hx hn hm)
theorem numb_calls (n : Int) (w : World) : Calls Try.prog 68 #[.int .u64 n] w fun e w' => e = .returned (.string (numF n)) ∧ Below w.heap.size w w' :=
  term_Number.calls n (numF n) w rfl
theorem rd_mapI {β : Type} (f : Int → β) (d : β) (l : List Int) (i : Nat) (h : i < l.length) : (l.map f).getD i d = f (rd l (i : Int)) := by
  have e : rd l (i : Int) = l[i] := by unfold rd; simp [List.getD_eq_getElem?_getD, List.getElem?_eq_getElem h]
  rw [e, List.getD_eq_getElem?_getD, List.getElem?_map, List.getElem?_eq_getElem h]
  rfl
theorem take_rd (l : List Int) (i : Nat) (h : i < l.length) : l.take (i + 1) = l.take i ++ [rd l (i : Int)] := by
  have e : rd l (i : Int) = l[i] := by unfold rd; simp [List.getD_eq_getElem?_getD, List.getElem?_eq_getElem h]
  rw [e, List.take_succ_eq_append_getElem h]
theorem drop_rd (l : List Int) (i : Nat) (h : i < l.length) : l.drop i = rd l (i : Int) :: l.drop (i + 1) := by
  have e : rd l (i : Int) = l[i] := by unfold rd; simp [List.getD_eq_getElem?_getD, List.getElem?_eq_getElem h]
  rw [e, List.drop_eq_getElem_cons h]
end Go.Proofs.Ytppimpadfgldjaa.Pure
