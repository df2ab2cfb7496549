-- Laid by mk.py (a program of this session) over the seat's translation.
import Derived.Test.YtpfpmjdifnoeoaaF0
import Derived.Test.YtpfpmjdifnoeoaaF162
import Derived.Test.YtpfpmjdifnoeoaaF163
import Derived.RegionTactic
import Derived.ChangeAlike
import Derived.BigRegion
import Derived.WalkMore
namespace Go.Proofs.Ytpfpmjdifnoeoaa.F
open Go.RowKit Go.Proofs.YtpfpmjdifnoeoaaW.PrintWords Go.Proofs.YtpfpmjdifnoeoaaW.PrintLast Go.Proofs.YtpfpmjdifnoeoaaW.PrintMore
attribute [local go_sem] max2_int min2_int max_two min_two max_three min_three max_four min_four
set_option linter.unusedVariables false
set_option linter.unusedSimpArgs false

/-! ### term_scan: function 131 -/
mutual
def term_scan.o : Nat → ByteArray → List S190 → Int → Option (Int × Int × Int)
  | 0, _, _, _ => none
  | k + 1, s, st, at_ => if (st.length : Int) = 400 then some (0, 0, 4) else if (s.size : Int) ≤ at_ then some (0, 0, 2) else
      if leafF (s.extract at_.toNat s.size) = 0 then
        (if (beginF s at_).2.2.2.2.2.2 = true then term_scan.o k s (st ++ [⟨(beginF s at_).1, (beginF s at_).2.1, (beginF s at_).2.2.1, (beginF s at_).2.2.2.1, (beginF s at_).2.2.2.2.1⟩]) (beginF s at_).2.2.2.2.2.1 else some (0, 0, 2))
      else term_scan.i k s st (at_ + leafF (s.extract at_.toNat s.size)) 1
def term_scan.i : Nat → ByteArray → List S190 → Int → Int → Option (Int × Int × Int)
  | 0, _, _, _, _ => none
  | k + 1, s, st, at_, depth => if st.length = 0 then some (at_, depth, 0) else
      if (st.getD (st.length - 1) z190).f2 = true ∧ Op.bytesLess (s.extract (st.getD (st.length - 1) z190).f3.toNat at_.toNat).toList (st.getD (st.length - 1) z190).f4.toList = true then some (0, 0, 2) else
      if (st.getD (st.length - 1) z190).f0 - 1 > 0 then
        term_scan.o k s (st.take (st.length - 1) ++ [⟨(st.getD (st.length - 1) z190).f0 - 1, (if (st.getD (st.length - 1) z190).f1 < depth then depth else (st.getD (st.length - 1) z190).f1), (st.getD (st.length - 1) z190).f2, at_, s.extract (st.getD (st.length - 1) z190).f3.toNat at_.toNat⟩]) at_
      else term_scan.i k s (st.take (st.length - 1)) at_ (wrap64 ((if (st.getD (st.length - 1) z190).f1 < depth then depth else (st.getD (st.length - 1) z190).f1) + 1))
end
/-- What the loops keep. -/
def term_scan.ok (s : ByteArray) (st : List S190) (at_ : Int) : Prop := 0 ≤ at_ ∧ at_ ≤ s.size ∧ st.length ≤ 400 ∧ ∀ x ∈ st, 1 ≤ x.f0 ∧ x.f0 ≤ 32 ∧ 0 ≤ x.f3 ∧ x.f3 ≤ at_
theorem beginF_ok {s : ByteArray} {at_ : Int} (h0 : 0 ≤ at_) (h1 : at_ < s.size) {b1 b2 : Int} {b3 : Bool} {b4 : Int} {b5 : ByteArray} {b6 : Int} (h : beginF s at_ = (b1, b2, b3, b4, b5, b6, true)) :
    1 ≤ b1 ∧ b1 ≤ 32 ∧ b2 = 0 ∧ b4 = b6 ∧ at_ + 1 ≤ b6 ∧ b6 ≤ s.size ∧ b5 = ⟨#[]⟩ := by
  unfold beginF at h
  repeat' split at h
  all_goals
    simp only [Prod.mk.injEq] at h
    obtain ⟨rfl, rfl, rfl, rfl, rfl, rfl, h⟩ := h
    first
      | (refine ⟨?_, ?_, rfl, rfl, ?_, ?_, rfl⟩ <;> omega)
      | exact Bool.noConfusion h
theorem leafF_ok {s : ByteArray} (h0 : 0 < s.size) (h : leafF s ≠ 0) : 1 ≤ leafF s ∧ leafF s ≤ s.size := by
  have := bt_range s 2
  unfold leafF at h ⊢
  repeat' split at h
  all_goals first
    | exact absurd rfl h
    | (repeat' split) <;> omega
theorem term_scan.info : (Try.prog.info? 190).map (fun i => (i.zero, i.size, i.bytes)) = some (some (.agg #[.int .i64 0, .int .i64 0, .bool false, .int .i64 0, .string ⟨#[]⟩]), 5, 48) := by kernel_rfl
theorem term_scan.put {T base g n cap : Nat} {W : World} {ok : Nat → Prop} {xs : List S190} (h : k190.R T W base ok (.slice (some ⟨g, 0, none⟩) n cap) xs) (i : Nat) (hi : i < n) (j : Nat) (u : Value) (hj : j < 5) (x' : S190)
    (hx : [.int .i64 x'.f0, .int .i64 x'.f1, .bool x'.f2, .int .i64 x'.f3, .string x'.f4] = ([.int .i64 (xs.getD i z190).f0, .int .i64 (xs.getD i z190).f1, .bool (xs.getD i z190).f2, .int .i64 (xs.getD i z190).f3, .string (xs.getD i z190).f4] : List Value).set j u) :
    k190.R T (W.setCell ⟨g, i * 5 + j, none⟩ u) base ok (.slice (some ⟨g, 0, none⟩) n cap) (xs.set i x') := by
  obtain ⟨hn, _, hC⟩ := Kd.R_reads' h
  obtain ⟨ad, c, e, hcl, hK, hcc⟩ := Kd.C_get hC z190 (i : Int) (by omega) (by omega)
  cases e
  rw [Int.toNat_natCast] at hK hcc
  obtain rfl := k190_open hK
  have h2 := (Kd.R_seg h (i : Int) (by omega) (by omega) (c := [.int .i64 (xs.getD i z190).f0, .int .i64 (xs.getD i z190).f1, .bool (xs.getD i z190).f2, .int .i64 (xs.getD i z190).f3, .string (xs.getD i z190).f4]) (seg := [u]) (j := j) (okp := fun _ => False) (x' := x') hcl
    (fun j' u' hu => by have := hcc j' u' hu; rw [add_plain] at this; rwa [Int.toNat_natCast]) (by show j + 1 ≤ 5; omega) ?_ (fun _ h => h.elim)).1
  · rw [Int.toNat_natCast] at h2
    exact h2
  · have he : ([.int .i64 (xs.getD i z190).f0, .int .i64 (xs.getD i z190).f1, .bool (xs.getD i z190).f2, .int .i64 (xs.getD i z190).f3, .string (xs.getD i z190).f4] : List Value).take j ++ [u] ++ ([.int .i64 (xs.getD i z190).f0, .int .i64 (xs.getD i z190).f1, .bool (xs.getD i z190).f2, .int .i64 (xs.getD i z190).f3, .string (xs.getD i z190).f4] : List Value).drop (j + [u].length) = ([.int .i64 (xs.getD i z190).f0, .int .i64 (xs.getD i z190).f1, .bool (xs.getD i z190).f2, .int .i64 (xs.getD i z190).f3, .string (xs.getD i z190).f4] : List Value).set j u := by
      rw [List.set_eq_take_append_cons_drop, if_pos (by simpa using hj), List.append_assoc]
      rfl
    rw [he, ← hx]
    exact k190_mkM _ _ _ _
theorem term_scan.cells {T base g n cap : Nat} {W : World} {ok : Nat → Prop} {xs : List S190} (h : k190.R T W base ok (.slice (some ⟨g, 0, none⟩) n cap) xs) (i : Nat) (hi : i < n) :
    W.cell? ⟨g, i * 5, none⟩ = some (.int .i64 (xs.getD i z190).f0) ∧ W.cell? ⟨g, i * 5 + 1, none⟩ = some (.int .i64 (xs.getD i z190).f1) ∧ W.cell? ⟨g, i * 5 + 2, none⟩ = some (.bool (xs.getD i z190).f2) ∧ W.cell? ⟨g, i * 5 + 3, none⟩ = some (.int .i64 (xs.getD i z190).f3) ∧ W.cell? ⟨g, i * 5 + 4, none⟩ = some (.string (xs.getD i z190).f4) := by
  obtain ⟨hn, _, hC⟩ := Kd.R_reads' h
  obtain ⟨ad, c, e, hcl, hK, hcc⟩ := Kd.C_get hC z190 (i : Int) (by omega) (by omega)
  cases e
  rw [Int.toNat_natCast] at hK hcc
  obtain rfl := k190_open hK
  have hq : ∀ j u, _ → W.cell? ⟨g, i * 5 + j, none⟩ = some u := fun j u hu => by have := hcc j u hu; rw [add_plain] at this; exact this
  exact ⟨hq 0 _ rfl, hq 1 _ rfl, hq 2 _ rfl, hq 3 _ rfl, hq 4 _ rfl⟩
theorem term_scan.getD_set {α : Type} (l : List α) (m : Nat) (a z : α) (h : m < l.length) : (l.set m a).getD m z = a := by
  simp [List.getD_eq_getElem?_getD, h]
theorem term_scan.set_last {α : Type} (l : List α) (m : Nat) (a : α) (h : l.length = m + 1) : l.set m a = l.take m ++ [a] := by
  rw [List.set_eq_take_append_cons_drop, if_pos (by omega), List.drop_of_length_le (by omega)]
def term_scan.fk (k : Nat) (s : ByteArray) : Option (Int × Int × Int) := if s.size < 9223372036854775000 then term_scan.o k s [] 0 else none
set_option maxHeartbeats 1000000 in
set_option maxRecDepth 100000 in
theorem term_scan.callsk (k : Nat) (a0 : ByteArray) (r1 : Int) (r2 : Int) (r3 : Int) (w : World) (h : term_scan.fk k a0 = some (r1, r2, r3)) :
    Calls Try.prog 131 #[.string a0] w fun e w' => e = .returned (.tuple #[.int .i64 r1, .int .i64 r2, .int .i64 r3]) ∧ Below w.heap.size w w' := by
  unfold term_scan.fk at h
  split at h
  case isFalse => cases h
  rename_i hsz
  have H' := Aside0.mk h
  have HB := Aside0.mk (Below.refl w.heap.size w)
  have HN := Aside0.mk (Kd.R_nil k190 190 w w.heap.size (fun _ => True))
  clear h
  go_enter Try.func131, Try.ntmps131
  go_wp2
  go_step3
  go_wp2
  go_step3
  go_wp2
  go_loopg [5, 6] k (fun kq v5 v6 w' => ∃ (st : List S190) (at_ : Int), v6 = .int .i64 at_ ∧ Aside0 (term_scan.o kq a0 st at_ = some (r1, r2, r3)) ∧ Aside0 (kq ≤ k) ∧ Aside0 (term_scan.ok a0 st at_) ∧ Aside0 (k190.R 190 w' w.heap.size (fun _ => True) v5 st) ∧ Aside0 (Below w.heap.size w w'))
  case atStart => exact ⟨[], 0, rfl, H', ⟨Nat.le_refl _⟩, ⟨⟨by omega, by omega, by simp, by simp⟩⟩, HN, HB⟩
  case round =>
    clear H' HB HN
    obtain ⟨st, at_, rfl, HA, HK, HI, HR, HB⟩ := hrel
    cases gk with
    | zero => exact absurd HA.out (by simp [term_scan.o])
    | succ k1 =>
      have H := HA.out
      clear HA
      obtain ⟨hat0, hat1, hsl, hall⟩ := HI.out
      simp only [term_scan.o] at H
      obtain ⟨ao, co, ev⟩ := Kd.R_slice HR.out
      subst ev
      by_cases c1 : (st.length : Int) = 400
      · rw [if_pos c1] at H
        simp only [Option.some.injEq, Prod.mk.injEq] at H
        obtain ⟨rfl, rfl, rfl⟩ := H
        have c1a : ((st.length : Int) == 400) = true := beq_iff_eq.mpr c1
        have c1b : (st.length == 400) = true := beq_iff_eq.mpr (by omega)
        clear c1 hsl hall
        go_wp2
        rw [Exit.noGoto_ret]
        go_ret3
        exact ⟨rfl, HB.out⟩
      · rw [if_neg c1] at H
        have c1a : ((st.length : Int) == 400) = false := beq_eq_false_iff_ne.mpr c1
        have c1b : (st.length == 400) = false := beq_eq_false_iff_ne.mpr (by omega)
        by_cases c2 : (a0.size : Int) ≤ at_
        · rw [if_pos c2] at H
          simp only [Option.some.injEq, Prod.mk.injEq] at H
          obtain ⟨rfl, rfl, rfl⟩ := H
          have c2a : decide ((a0.size : Int) ≤ at_) = true := decide_eq_true c2
          clear c1 c2 hsl hall
          go_wp2
          rw [Exit.noGoto_ret]
          go_ret3
          exact ⟨rfl, HB.out⟩
        · rw [if_neg c2] at H
          have c2a : decide ((a0.size : Int) ≤ at_) = false := decide_eq_false c2
          have HL := Aside0.mk (fun W => term_leaf.calls (a0.extract at_.toNat a0.size) (leafF (a0.extract at_.toNat a0.size)) W (by
            unfold term_leaf.f
            rw [if_pos]
            rw [ByteArray.size_extract]
            omega))
          obtain ⟨n, hn⟩ : ∃ n, n = leafF (a0.extract at_.toNat a0.size) := ⟨_, rfl⟩
          rw [← hn] at H HL
          by_cases c3 : n = 0
          · subst c3
            rw [if_pos rfl] at H
            obtain ⟨b1, b2, b3, b4, b5, b6, b7, hb⟩ : ∃ b1 b2 b3 b4 b5 b6 b7, beginF a0 at_ = (b1, b2, b3, b4, b5, b6, b7) := ⟨_, _, _, _, _, _, _, rfl⟩
            have HG := Aside0.mk (fun W => term_begin.calls a0 at_ b1 b2 b3 b4 b5 b6 b7 W (by rw [term_begin.f, if_pos (by omega), hb]))
            rw [hb] at H
            have HBF := Aside0.mk hb
            clear hb hn
            simp only at H
            by_cases c4 : b7 = true
            · subst c4
              rw [if_pos rfl] at H
              have H2 := Aside0.mk H
              have HI2 : Aside0 (term_scan.ok a0 (st ++ [⟨b1, b2, b3, b4, b5⟩]) b6) := by
                obtain ⟨q1, q2, q3, q4, q5, q6, q7⟩ := beginF_ok hat0 (by omega) HBF.out
                refine ⟨⟨by omega, q6, by simp; omega, ?_⟩⟩
                intro x hx
                rcases List.mem_append.1 hx with hx | hx
                · have := hall x hx; omega
                · rw [List.mem_singleton.1 hx]; exact ⟨q1, q2, by show 0 ≤ b4; omega, by show b4 ≤ b6; omega⟩
              clear H c1 c2 hsl hall HBF
              go_wp2_with (first | (go_at_call 162; refine (HL.out _).mono ?_; rintro e w' ⟨rfl, ⟨nd, rfl⟩⟩) | (go_at_call 163; refine (HG.out _).mono ?_; rintro e w1 ⟨rfl, hb1⟩; have HR1 := Aside0.mk (Kd.R_below (Kd.R_drewN HR.out nd) hb1); have HB1 := Aside0.mk (below_then (pw_below_drewN HB.out nd) (by have := HB.out.size; simpa using this) hb1); clear hb1) | (at_builtin; go_loud (refine Kd.R_append k190 (w0 := w) w.heap.size rfl (.tmp 36) (.tmp 38) 188 190 _ 48 rfl Try.underlying188 term_scan.info rfl (by decide) (by omega) _ st ⟨b1, b2, b3, b4, b5⟩ [.int .i64 b1, .int .i64 b2, .bool b3, .int .i64 b4, .string b5] (fun _ => True) (fun _ => False) rfl ?aX ?aP (fun _ hk => hk.elim) ?aF ?aO ?aB ?aS ?aL ?_; (case aX => exact (by simp : Value.slice (some ⟨w1.heap.size + 1, 0, none⟩) 1 1 = .slice (some ⟨(w1.alloc (.cells #[.int .i64 b1, .int .i64 b2, .bool b3, .int .i64 b4, .string b5] 190)).heap.size, 0, none⟩) 1 1)); (case aP => exact k190_mkM _ _ _ _); (case aB => exact below_alloc HB1.out _); (case aF => exact fun _ _ => trivial); (case aO => exact Kd.R_alloc HR1.out _); (case aS => exact below_size (below_alloc HB1.out _)); (case aL => have := HI.out.2.2.1; omega); intro v2 w2 ho hb2 hg hat; have HO2 := Aside0.mk ho; have HB2 := Aside0.mk hb2; clear ho hb2 hg hat)))
              go_roundg k1
              case measure => have := HK.out; omega
              case rel => exact ⟨_, b6, rfl, H2, ⟨by have := HK.out; omega⟩, HI2, HO2, HB2⟩
            · replace c4 := Bool.eq_false_iff.mpr c4
              subst c4
              rw [if_neg (by simp)] at H
              simp only [Option.some.injEq, Prod.mk.injEq] at H
              obtain ⟨rfl, rfl, rfl⟩ := H
              clear c1 c2 hsl hall HBF
              go_wp2_with (first | (go_at_call 162; refine (HL.out _).mono ?_; rintro e w' ⟨rfl, ⟨nd, rfl⟩⟩) | (go_at_call 163; refine (HG.out _).mono ?_; rintro e w1 ⟨rfl, hb1⟩; have HB1 := Aside0.mk (below_then (pw_below_drewN HB.out nd) (by have := HB.out.size; simpa using this) hb1); clear hb1))
              rw [Exit.noGoto_ret]
              go_ret3
              exact ⟨rfl, by repeat (first | exact HB1.out | apply below_alloc)⟩
          · rw [if_neg c3] at H
            have c3a : (n == 0) = false := beq_eq_false_iff_ne.mpr c3
            obtain ⟨hn1, hn2⟩ : 1 ≤ n ∧ at_ + n ≤ a0.size := by
              have h9 := leafF_ok (s := a0.extract at_.toNat a0.size) (by rw [ByteArray.size_extract]; omega) (by rw [← hn]; exact c3)
              rw [← hn, ByteArray.size_extract] at h9
              omega
            have H2 := Aside0.mk H
            have HI2 : Aside0 (term_scan.ok a0 st (at_ + n)) := ⟨⟨by omega, hn2, hsl, fun x hx => by have := hall x hx; omega⟩⟩
            clear H c1 c2 c3 hsl hall hn
            go_wp2_with (go_at_call 162; refine (HL.out _).mono ?_; rintro e w' ⟨rfl, ⟨nd, rfl⟩⟩)
            go_loopg [5, 11] k1 (fun kq v5 v11 w' => ∃ (st2 : List S190) (depth : Int), v11 = .int .i64 depth ∧ Aside0 (term_scan.i kq a0 st2 (at_ + n) depth = some (r1, r2, r3)) ∧ Aside0 (kq ≤ k1) ∧ Aside0 (term_scan.ok a0 st2 (at_ + n)) ∧ Aside0 (k190.R 190 w' w.heap.size (fun _ => True) v5 st2) ∧ Aside0 (Below w.heap.size w w'))
            case atStart => exact ⟨st, 1, rfl, H2, ⟨Nat.le_refl _⟩, HI2, ⟨Kd.R_drewN HR.out _⟩, ⟨pw_below_drewN HB.out _⟩⟩
            case round =>
              clear H2 HI2 HB HR HI HL
              obtain ⟨st, depth, rfl, HA, HK2, HI, HR, HB⟩ := hrel
              cases gk with
              | zero => exact absurd HA.out (by simp [term_scan.i])
              | succ k2 =>
                have H := HA.out
                clear HA
                obtain ⟨hbt0, hbt1, hsl, hall⟩ := HI.out
                simp only [term_scan.i] at H
                by_cases c4 : st.length = 0
                · rw [if_pos c4] at H
                  simp only [Option.some.injEq, Prod.mk.injEq] at H
                  obtain ⟨rfl, rfl, rfl⟩ := H
                  obtain ⟨ao, co, ev⟩ := Kd.R_slice HR.out
                  rw [c4] at ev
                  subst ev
                  clear c4 hsl hall
                  go_wp2
                  rw [Exit.noGoto_ret]
                  go_ret3
                  exact ⟨rfl, HB.out⟩
                · rw [if_neg c4] at H
                  obtain ⟨m, hm⟩ : ∃ m, st.length = m + 1 := ⟨st.length - 1, by omega⟩
                  obtain ⟨g, co, ev, hg, _, cells, hcells⟩ := Kd.R_form HR.out (by omega)
                  rw [hm] at ev
                  subst ev
                  obtain ⟨x, hx⟩ : ∃ x, x = st.getD m z190 := ⟨_, rfl⟩
                  have hmm : st.length - 1 = m := by omega
                  rw [hmm, ← hx] at H
                  obtain ⟨hx0, hx1, hx2, hx3⟩ : 1 ≤ x.f0 ∧ x.f0 ≤ 32 ∧ 0 ≤ x.f3 ∧ x.f3 ≤ at_ + n := by
                    refine hall x ?_
                    rw [hx, List.getD_eq_getElem?_getD, List.getElem?_eq_getElem (by omega)]
                    exact List.getElem_mem _
                  have hcs := term_scan.cells HR.out m (by omega)
                  rw [← hx] at hcs
                  obtain ⟨hc0, hc1, hc2, hc3, hc4⟩ := hcs
                  have hf0 := blk_frozen hcells (m * 5)
                  have hf1 := blk_frozen hcells (m * 5 + 1)
                  have hf3 := blk_frozen hcells (m * 5 + 3)
                  have hf4 := blk_frozen hcells (m * 5 + 4)
                  have HX := Aside0.mk hx
                  clear hx hcells c4 hmm
                  have HM := Aside0.mk hm
                  have hml : m < 400 := by omega
                  clear hm hsl hall
                  by_cases c6 : x.f2 = true ∧ Op.bytesLess (a0.extract x.f3.toNat (at_ + n).toNat).toList x.f4.toList = true
                  · rw [if_pos c6] at H
                    simp only [Option.some.injEq, Prod.mk.injEq] at H
                    obtain ⟨rfl, rfl, rfl⟩ := H
                    obtain ⟨c6, c7⟩ := c6
                    rw [c6] at hc2
                    clear c6
                    go_wp2
                    rw [Exit.noGoto_ret]
                    go_ret3
                    exact ⟨rfl, HB.out⟩
                  · rw [if_neg c6] at H
                    have H3 := Aside0.mk H
                    clear H
                    have c8 : x.f2 = false ∨ x.f2 = true ∧ Op.bytesLess (a0.extract x.f3.toNat (at_ + n).toNat).toList x.f4.toList = false := by
                      rcases hq : x.f2 with _ | _
                      · exact .inl rfl
                      · refine .inr ⟨rfl, ?_⟩
                        rw [hq] at c6
                        simpa using c6
                    clear c6
                    rcases c8 with c8 | ⟨c8, c9⟩
                    all_goals
                      rw [c8] at hc2
                      clear c8
                      go_wp2
                      refine start_ (n := 29) (S := fun w' => w'.cell? ⟨g, m * 5, none⟩ = some (.int .i64 x.f0) ∧ w'.cell? ⟨g, m * 5 + 1, none⟩ = some (.int .i64 x.f1)) (ds := [19, 22, 25, 28]) #[false, false, false, false, false, false, false, false, false, false, false, false, false, false, false, false, false, false, false, false, false, false, false, false, false, false, false, false, false] (by kernel_rfl) rfl rfl ⟨hc0, hc1⟩ (fun hHeld => ?_)
                      have HRq := Aside0.mk (Kd.R_drewN HR.out 1)
                      have HBq := Aside0.mk (pw_below_drewN HB.out 1)
                      have hq0 : wr.drew.frozen? ⟨g, m * 5, none⟩ = false := hf0
                      have hq1 : wr.drew.frozen? ⟨g, m * 5 + 1, none⟩ = false := hf1
                      have hq3 : wr.drew.frozen? ⟨g, m * 5 + 3, none⟩ = false := hf3
                      have hq4 : wr.drew.frozen? ⟨g, m * 5 + 4, none⟩ = false := hf4
                      have hd3 : wr.drew.cell? ⟨g, m * 5 + 3, none⟩ = some (.int .i64 x.f3) := hc3
                      have hd4 : wr.drew.cell? ⟨g, m * 5 + 4, none⟩ = some (.string x.f4) := hc4
                      have hd0 := hHeld.1
                      have hd1 := hHeld.2
                      replace HRq : Aside0 (k190.R 190 wr.drew w.heap.size (fun _ => True) (.slice (some ⟨g, 0, none⟩) (m + 1) co) st) := HRq
                      replace HBq : Aside0 (Below w.heap.size w wr.drew) := HBq
                      generalize wr.drew = wq at hHeld HRq HBq hq0 hq1 hq3 hq4 hd0 hd1 hd3 hd4 ⊢
                      refine pure_ (i := 0) (N := some 73) (v := ?_) (a' := ?_) #[true, false, false, false, false, false, false, false, false, false, false, false, false, false, false, false, false, false, false, false, false, false, false, false, false, false, false, false, false] rfl rfl (by kernel_rfl) (fun _ _ _ h => h) (Or.inl ⟨by rfl, ?_⟩) ?_ ?_
                      rotate_left
                      · intro w'
                        go_simp
                        with_reducible rfl
                      rotate_left
                      · simp only [Act.put, List.setIfInBounds_toArray, List.set_cons_zero, List.set_cons_succ, i64_w, i32_w]
                        rfl
                      refine pure_ (i := 1) (N := some 74) (v := ?_) (a' := ?_) #[true, true, false, false, false, false, false, false, false, false, false, false, false, false, false, false, false, false, false, false, false, false, false, false, false, false, false, false, false] rfl rfl (by kernel_rfl) (fun _ _ _ h => h) (Or.inl ⟨by rfl, ?_⟩) ?_ ?_
                      rotate_left
                      · intro w'
                        go_simp
                        with_reducible rfl
                      rotate_left
                      · simp only [Act.put, List.setIfInBounds_toArray, List.set_cons_zero, List.set_cons_succ, i64_w, i32_w]
                        rfl
                      refine pure_ (i := 2) (N := some 75) (v := ?_) (a' := ?_) #[true, true, true, false, false, false, false, false, false, false, false, false, false, false, false, false, false, false, false, false, false, false, false, false, false, false, false, false, false] rfl rfl (by kernel_rfl) (fun _ _ _ h => h) (Or.inl ⟨by rfl, ?_⟩) ?_ ?_
                      rotate_left
                      · intro w'
                        go_simp
                        with_reducible rfl
                      rotate_left
                      · simp only [Act.put, List.setIfInBounds_toArray, List.set_cons_zero, List.set_cons_succ, i64_w, i32_w]
                        rfl
                      refine pure_ (i := 3) (N := some 76) (v := ?_) (a' := ?_) #[true, true, true, true, false, false, false, false, false, false, false, false, false, false, false, false, false, false, false, false, false, false, false, false, false, false, false, false, false] rfl rfl (by kernel_rfl) (fun _ _ _ h => h) (Or.inl ⟨by rfl, ?_⟩) ?_ ?_
                      rotate_left
                      · intro w'
                        go_simp
                        with_reducible rfl
                      rotate_left
                      · simp only [Act.put, List.setIfInBounds_toArray, List.set_cons_zero, List.set_cons_succ, i64_w, i32_w]
                        rfl
                      refine pure_ (i := 4) (N := some 77) (v := ?_) (a' := ?_) #[true, true, true, true, true, false, false, false, false, false, false, false, false, false, false, false, false, false, false, false, false, false, false, false, false, false, false, false, false] rfl rfl (by kernel_rfl) (fun _ _ _ h => h) (Or.inl ⟨by rfl, ?_⟩) ?_ ?_
                      rotate_left
                      · intro w'
                        go_simp
                        with_reducible rfl
                      rotate_left
                      · simp only [Act.put, List.setIfInBounds_toArray, List.set_cons_zero, List.set_cons_succ, i64_w, i32_w]
                        rfl
                      refine pure_ (i := 5) (N := some 78) (v := ?_) (a' := ?_) #[true, true, true, true, true, true, false, false, false, false, false, false, false, false, false, false, false, false, false, false, false, false, false, false, false, false, false, false, false] rfl rfl (by kernel_rfl) (fun _ _ _ h => h) (Or.inl ⟨by rfl, ?_⟩) ?_ ?_
                      rotate_left
                      · intro w'
                        go_simp
                        with_reducible rfl
                      rotate_left
                      · simp only [Act.put, List.setIfInBounds_toArray, List.set_cons_zero, List.set_cons_succ, i64_w, i32_w]
                        rfl
                      refine pure_ (i := 6) (N := some 79) (v := ?_) (a' := ?_) #[true, true, true, true, true, true, true, false, false, false, false, false, false, false, false, false, false, false, false, false, false, false, false, false, false, false, false, false, false] rfl rfl (by kernel_rfl) (fun _ _ _ h => h) (Or.inl ⟨by rfl, ?_⟩) ?_ ?_
                      rotate_left
                      · intro w'
                        go_simp
                        with_reducible rfl
                      rotate_left
                      · simp only [Act.put, List.setIfInBounds_toArray, List.set_cons_zero, List.set_cons_succ, i64_w, i32_w]
                        rfl
                      refine take_ (i := 7) (N := some 80) (v := ?_) (a' := ?_) #[true, true, true, true, true, true, true, true, false, false, false, false, false, false, false, false, false, false, false, false, false, false, false, false, false, false, false, false, false] rfl rfl (by kernel_rfl) (fun _ _ _ h => h) (Or.inl ⟨by rfl, ?_⟩) hHeld ?_ ?_
                      rotate_left
                      · rintro w' ⟨s0, s1⟩
                        go_simp
                        with_reducible rfl
                      rotate_left
                      · simp only [Act.put, List.setIfInBounds_toArray, List.set_cons_zero, List.set_cons_succ, i64_w, i32_w]
                        rfl
                      refine pure_ (i := 8) (N := some 81) (v := ?_) (a' := ?_) #[true, true, true, true, true, true, true, true, true, false, false, false, false, false, false, false, false, false, false, false, false, false, false, false, false, false, false, false, false] rfl rfl (by kernel_rfl) (fun _ _ _ h => h) (Or.inl ⟨by rfl, ?_⟩) ?_ ?_
                      rotate_left
                      · intro w'
                        go_simp
                        with_reducible rfl
                      rotate_left
                      · simp only [Act.put, List.setIfInBounds_toArray, List.set_cons_zero, List.set_cons_succ, i64_w, i32_w]
                        rfl
                      refine pure_ (i := 9) (N := some 82) (v := ?_) (a' := ?_) #[true, true, true, true, true, true, true, true, true, true, false, false, false, false, false, false, false, false, false, false, false, false, false, false, false, false, false, false, false] rfl rfl (by kernel_rfl) (fun _ _ _ h => h) (Or.inl ⟨by rfl, ?_⟩) ?_ ?_
                      rotate_left
                      · intro w'
                        go_simp
                        with_reducible rfl
                      rotate_left
                      · simp only [Act.put, List.setIfInBounds_toArray, List.set_cons_zero, List.set_cons_succ, i64_w, i32_w]
                        rfl
                      refine pure_ (i := 10) (N := some 83) (v := ?_) (a' := ?_) #[true, true, true, true, true, true, true, true, true, true, true, false, false, false, false, false, false, false, false, false, false, false, false, false, false, false, false, false, false] rfl rfl (by kernel_rfl) (fun _ _ _ h => h) (Or.inl ⟨by rfl, ?_⟩) ?_ ?_
                      rotate_left
                      · intro w'
                        go_simp
                        with_reducible rfl
                      rotate_left
                      · simp only [Act.put, List.setIfInBounds_toArray, List.set_cons_zero, List.set_cons_succ, i64_w, i32_w]
                        rfl
                      refine pure_ (i := 11) (N := some 84) (v := ?_) (a' := ?_) #[true, true, true, true, true, true, true, true, true, true, true, true, false, false, false, false, false, false, false, false, false, false, false, false, false, false, false, false, false] rfl rfl (by kernel_rfl) (fun _ _ _ h => h) (Or.inl ⟨by rfl, ?_⟩) ?_ ?_
                      rotate_left
                      · intro w'
                        go_simp
                        with_reducible rfl
                      rotate_left
                      · simp only [Act.put, List.setIfInBounds_toArray, List.set_cons_zero, List.set_cons_succ, i64_w, i32_w]
                        rfl
                      refine take_ (i := 12) (N := some 85) (v := ?_) (a' := ?_) #[true, true, true, true, true, true, true, true, true, true, true, true, true, false, false, false, false, false, false, false, false, false, false, false, false, false, false, false, false] rfl rfl (by kernel_rfl) (fun _ _ _ h => h) (Or.inl ⟨by rfl, ?_⟩) hHeld ?_ ?_
                      rotate_left
                      · rintro w' ⟨s0, s1⟩
                        go_simp
                        with_reducible rfl
                      rotate_left
                      · simp only [Act.put, List.setIfInBounds_toArray, List.set_cons_zero, List.set_cons_succ, i64_w, i32_w]
                        rfl
                      refine pure_ (i := 13) (N := some 86) (v := ?_) (a' := ?_) #[true, true, true, true, true, true, true, true, true, true, true, true, true, true, false, false, false, false, false, false, false, false, false, false, false, false, false, false, false] rfl rfl (by kernel_rfl) (fun _ _ _ h => h) (Or.inl ⟨by rfl, ?_⟩) ?_ ?_
                      rotate_left
                      · intro w'
                        go_simp
                        with_reducible rfl
                      rotate_left
                      · simp only [Act.put, List.setIfInBounds_toArray, List.set_cons_zero, List.set_cons_succ, i64_w, i32_w]
                        rfl
                      refine pure_ (i := 14) (N := some 87) (v := ?_) (a' := ?_) #[true, true, true, true, true, true, true, true, true, true, true, true, true, true, true, false, false, false, false, false, false, false, false, false, false, false, false, false, false] rfl rfl (by kernel_rfl) (fun _ _ _ h => h) (Or.inl ⟨by rfl, ?_⟩) ?_ ?_
                      rotate_left
                      · intro w'
                        go_simp
                        with_reducible rfl
                      rotate_left
                      · simp only [Act.put, List.setIfInBounds_toArray, List.set_cons_zero, List.set_cons_succ, i64_w, i32_w]
                        rfl
                      refine pure_ (i := 15) (N := some 88) (v := ?_) (a' := ?_) #[true, true, true, true, true, true, true, true, true, true, true, true, true, true, true, true, false, false, false, false, false, false, false, false, false, false, false, false, false] rfl rfl (by kernel_rfl) (fun _ _ _ h => h) (Or.inl ⟨by rfl, ?_⟩) ?_ ?_
                      rotate_left
                      · intro w'
                        go_simp
                        with_reducible rfl
                      rotate_left
                      · simp only [Act.put, List.setIfInBounds_toArray, List.set_cons_zero, List.set_cons_succ, i64_w, i32_w]
                        rfl
                      refine pure_ (i := 16) (N := some 89) (v := ?_) (a' := ?_) #[true, true, true, true, true, true, true, true, true, true, true, true, true, true, true, true, true, false, false, false, false, false, false, false, false, false, false, false, false] rfl rfl (by kernel_rfl) (fun _ _ _ h => h) (Or.inl ⟨by rfl, ?_⟩) ?_ ?_
                      rotate_left
                      · intro w'
                        go_simp
                        with_reducible rfl
                      rotate_left
                      · simp only [Act.put, List.setIfInBounds_toArray, List.set_cons_zero, List.set_cons_succ, i64_w, i32_w]
                        rfl
                      refine pure_ (i := 17) (N := some 90) (v := ?_) (a' := ?_) #[true, true, true, true, true, true, true, true, true, true, true, true, true, true, true, true, true, true, false, false, false, false, false, false, false, false, false, false, false] rfl rfl (by kernel_rfl) (fun _ _ _ h => h) (Or.inl ⟨by rfl, ?_⟩) ?_ ?_
                      rotate_left
                      · intro w'
                        go_simp
                        with_reducible rfl
                      rotate_left
                      · simp only [Act.put, List.setIfInBounds_toArray, List.set_cons_zero, List.set_cons_succ, i64_w, i32_w]
                        rfl
                      refine pure_ (i := 18) (N := some 91) (v := ?_) (a' := ?_) #[true, true, true, true, true, true, true, true, true, true, true, true, true, true, true, true, true, true, true, false, false, false, false, false, false, false, false, false, false] rfl rfl (by kernel_rfl) (fun _ _ _ h => h) (Or.inl ⟨by rfl, ?_⟩) ?_ ?_
                      rotate_left
                      · intro w'
                        go_simp
                        with_reducible rfl
                      rotate_left
                      · simp only [Act.put, List.setIfInBounds_toArray, List.set_cons_zero, List.set_cons_succ, i64_w, i32_w]
                        rfl
                      refine last_ (i := 19) (N := none) #[true, true, true, true, true, true, true, true, true, true, true, true, true, true, true, true, true, true, true, true, false, false, false, false, false, false, false, false, false] rfl rfl (by kernel_rfl) (by decide) (fun K hK => ?_)
                      refine skip_ (w1 := ?_) (by rfl) rfl ?_ ?_
                      rotate_left
                      · go_simp
                        rfl
                      refine hK.out _ _ ?_
                      clear hK K
                      refine pure_ (i := 20) (N := some 92) (v := ?_) (a' := ?_) #[true, true, true, true, true, true, true, true, true, true, true, true, true, true, true, true, true, true, true, true, true, false, false, false, false, false, false, false, false] rfl rfl (by kernel_rfl) (fun _ _ _ h => h) (Or.inl ⟨by rfl, ?_⟩) ?_ ?_
                      rotate_left
                      · intro w'
                        go_simp
                        with_reducible rfl
                      rotate_left
                      · simp only [Act.put, List.setIfInBounds_toArray, List.set_cons_zero, List.set_cons_succ, i64_w, i32_w]
                        rfl
                      refine pure_ (i := 21) (N := some 93) (v := ?_) (a' := ?_) #[true, true, true, true, true, true, true, true, true, true, true, true, true, true, true, true, true, true, true, true, true, true, false, false, false, false, false, false, false] rfl rfl (by kernel_rfl) (fun _ _ _ h => h) (Or.inl ⟨by rfl, ?_⟩) ?_ ?_
                      rotate_left
                      · intro w'
                        go_simp
                        with_reducible rfl
                      rotate_left
                      · simp only [Act.put, List.setIfInBounds_toArray, List.set_cons_zero, List.set_cons_succ, i64_w, i32_w]
                        rfl
                      refine last_ (i := 22) (N := none) #[true, true, true, true, true, true, true, true, true, true, true, true, true, true, true, true, true, true, true, true, true, true, true, false, false, false, false, false, false] rfl rfl (by kernel_rfl) (by decide) (fun K hK => ?_)
                      refine skip_ (w1 := ?_) (by rfl) rfl ?_ ?_
                      rotate_left
                      · go_simp
                        rfl
                      refine hK.out _ _ ?_
                      clear hK K
                      refine pure_ (i := 23) (N := some 94) (v := ?_) (a' := ?_) #[true, true, true, true, true, true, true, true, true, true, true, true, true, true, true, true, true, true, true, true, true, true, true, true, false, false, false, false, false] rfl rfl (by kernel_rfl) (fun _ _ _ h => h) (Or.inl ⟨by rfl, ?_⟩) ?_ ?_
                      rotate_left
                      · intro w'
                        go_simp
                        with_reducible rfl
                      rotate_left
                      · simp only [Act.put, List.setIfInBounds_toArray, List.set_cons_zero, List.set_cons_succ, i64_w, i32_w]
                        rfl
                      refine pure_ (i := 24) (N := some 95) (v := ?_) (a' := ?_) #[true, true, true, true, true, true, true, true, true, true, true, true, true, true, true, true, true, true, true, true, true, true, true, true, true, false, false, false, false] rfl rfl (by kernel_rfl) (fun _ _ _ h => h) (Or.inl ⟨by rfl, ?_⟩) ?_ ?_
                      rotate_left
                      · intro w'
                        go_simp
                        with_reducible rfl
                      rotate_left
                      · simp only [Act.put, List.setIfInBounds_toArray, List.set_cons_zero, List.set_cons_succ, i64_w, i32_w]
                        rfl
                      refine last_ (i := 25) (N := none) #[true, true, true, true, true, true, true, true, true, true, true, true, true, true, true, true, true, true, true, true, true, true, true, true, true, true, false, false, false] rfl rfl (by kernel_rfl) (by decide) (fun K hK => ?_)
                      refine skip_ (w1 := ?_) (by rfl) rfl ?_ ?_
                      rotate_left
                      · go_simp
                        rfl
                      refine hK.out _ _ ?_
                      clear hK K
                      refine pure_ (i := 26) (N := some 96) (v := ?_) (a' := ?_) #[true, true, true, true, true, true, true, true, true, true, true, true, true, true, true, true, true, true, true, true, true, true, true, true, true, true, true, false, false] rfl rfl (by kernel_rfl) (fun _ _ _ h => h) (Or.inl ⟨by rfl, ?_⟩) ?_ ?_
                      rotate_left
                      · intro w'
                        go_simp
                        with_reducible rfl
                      rotate_left
                      · simp only [Act.put, List.setIfInBounds_toArray, List.set_cons_zero, List.set_cons_succ, i64_w, i32_w]
                        rfl
                      refine pure_ (i := 27) (N := some 97) (v := ?_) (a' := ?_) #[true, true, true, true, true, true, true, true, true, true, true, true, true, true, true, true, true, true, true, true, true, true, true, true, true, true, true, true, false] rfl rfl (by kernel_rfl) (fun _ _ _ h => h) (Or.inl ⟨by rfl, ?_⟩) ?_ ?_
                      rotate_left
                      · intro w'
                        go_simp
                        with_reducible rfl
                      rotate_left
                      · simp only [Act.put, List.setIfInBounds_toArray, List.set_cons_zero, List.set_cons_succ, i64_w, i32_w]
                        rfl
                      refine last_ (i := 28) (N := none) #[true, true, true, true, true, true, true, true, true, true, true, true, true, true, true, true, true, true, true, true, true, true, true, true, true, true, true, true, true] rfl rfl (by kernel_rfl) (by decide) (fun K hK => ?_)
                      refine skip_ (w1 := ?_) (by rfl) rfl ?_ ?_
                      rotate_left
                      · go_simp
                        rfl
                      refine hK.out _ _ ?_
                      clear hK K
                      refine done_ (by kernel_rfl) ?_
                      have hw0 : wrap64 (x.f0 - 1) = x.f0 - 1 := by unfold wrap64; omega
                      rw [hw0]
                      obtain ⟨dd, hdd⟩ : ∃ dd : Int, dd = if x.f1 < depth then depth else x.f1 := ⟨_, rfl⟩
                      rw [← hdd]
                      obtain ⟨part, hpart⟩ : ∃ part : ByteArray, part = a0.extract x.f3.toNat (at_ + n).toNat := ⟨_, rfl⟩
                      rw [← hpart]
                      have hml2 : m < st.length := by have := HM.out; omega
                      have hp1 := term_scan.put HRq.out m (by omega) 0 (.int .i64 (x.f0 - 1)) (by omega) ⟨x.f0 - 1, x.f1, x.f2, x.f3, x.f4⟩ (by rw [← HX.out]; rfl)
                      have hp2 := term_scan.put hp1 m (by omega) 1 (.int .i64 dd) (by omega) ⟨x.f0 - 1, dd, x.f2, x.f3, x.f4⟩ (by rw [term_scan.getD_set st m _ _ hml2]; rfl)
                      have hp3 := term_scan.put hp2 m (by omega) 3 (.int .i64 (at_ + n)) (by omega) ⟨x.f0 - 1, dd, x.f2, at_ + n, x.f4⟩ (by rw [term_scan.getD_set _ m _ _ (by simpa using hml2)]; rfl)
                      have hp4 := term_scan.put hp3 m (by omega) 4 (.string part) (by omega) ⟨x.f0 - 1, dd, x.f2, at_ + n, part⟩ (by rw [term_scan.getD_set _ m _ _ (by simpa using hml2)]; rfl)
                      rw [List.set_set, List.set_set, List.set_set, term_scan.set_last st m _ HM.out] at hp4
                      have hb4 : Below w.heap.size w ((((wq.setCell ⟨g, m * 5, none⟩ (.int .i64 (x.f0 - 1))).setCell ⟨g, m * 5 + 1, none⟩ (.int .i64 dd)).setCell ⟨g, m * 5 + 3, none⟩ (.int .i64 (at_ + n))).setCell ⟨g, m * 5 + 4, none⟩ (.string part)) := below_set (below_set (below_set (below_set HBq.out hg) hg) hg) hg
                      replace hp4 : k190.R 190 ((((wq.setCell ⟨g, m * 5, none⟩ (.int .i64 (x.f0 - 1))).setCell ⟨g, m * 5 + 1, none⟩ (.int .i64 dd)).setCell ⟨g, m * 5 + 3, none⟩ (.int .i64 (at_ + n))).setCell ⟨g, m * 5 + 4, none⟩ (.string part)) w.heap.size (fun _ => True) (.slice (some ⟨g, 0, none⟩) (m + 1) co) (st.take m ++ [⟨x.f0 - 1, dd, x.f2, at_ + n, part⟩]) := hp4
                      clear hp1 hp2 hp3 hd0 hd1 hd3 hd4 hq0 hq1 hq3 hq4 HRq HBq hHeld hc0 hc1 hc2 hc3 hc4 hf0 hf1 hf3 hf4
                      generalize ((((wq.setCell ⟨g, m * 5, none⟩ (.int .i64 (x.f0 - 1))).setCell ⟨g, m * 5 + 1, none⟩ (.int .i64 dd)).setCell ⟨g, m * 5 + 3, none⟩ (.int .i64 (at_ + n))).setCell ⟨g, m * 5 + 4, none⟩ (.string part)) = W4 at hp4 hb4 ⊢
                      have HP := Aside0.mk hp4
                      have HB4 := Aside0.mk hb4
                      have hcs := term_scan.cells hp4 m (by omega)
                      have hgl : (st.take m ++ [(⟨x.f0 - 1, dd, x.f2, at_ + n, part⟩ : S190)]).getD m z190 = ⟨x.f0 - 1, dd, x.f2, at_ + n, part⟩ := by
                        simp only [List.getD_eq_getElem?_getD]
                        rw [List.getElem?_append_right (by rw [List.length_take]; omega)]
                        rw [List.length_take, Nat.min_eq_left (by omega)]
                        simp
                      rw [hgl] at hcs
                      obtain ⟨hc0, hc1, _⟩ := hcs
                      have H4 : (if x.f0 - 1 > 0 then term_scan.o k2 a0 (st.take m ++ [⟨x.f0 - 1, dd, x.f2, at_ + n, part⟩]) (at_ + n) else term_scan.i k2 a0 (st.take m) (at_ + n) (wrap64 (dd + 1))) = some (r1, r2, r3) := by
                        rw [hdd, hpart]; exact H3.out
                      have hin : ∀ y ∈ st.take m, 1 ≤ y.f0 ∧ y.f0 ≤ 32 ∧ 0 ≤ y.f3 ∧ y.f3 ≤ at_ + n := fun y hy => HI.out.2.2.2 y (List.mem_of_mem_take hy)
                      clear hp4 hb4 hgl hdd hpart HX H3 HR HB
                      by_cases c10 : x.f0 - 1 > 0
                      · rw [if_pos c10] at H4
                        have H5 := Aside0.mk H4
                        have c10a : decide (0 < x.f0 - 1) = true := decide_eq_true c10
                        have c10b : decide (1 < x.f0) = true := decide_eq_true (by omega)
                        have HI5 : Aside0 (term_scan.ok a0 (st.take m ++ [⟨x.f0 - 1, dd, x.f2, at_ + n, part⟩]) (at_ + n)) := by
                          refine ⟨⟨hbt0, hbt1, by simp; omega, ?_⟩⟩
                          intro y hy
                          rcases List.mem_append.1 hy with hy | hy
                          · exact hin y hy
                          · rw [List.mem_singleton.1 hy]; exact ⟨by show 1 ≤ x.f0 - 1; omega, by show x.f0 - 1 ≤ 32; omega, hbt0, by show at_ + n ≤ at_ + n; omega⟩
                        clear H4 c10 hin
                        go_wp2
                        go_roundg k2
                        case measure => have := HK2.out; have := HK.out; omega
                        case rel => exact ⟨_, _, rfl, H5, ⟨by have := HK2.out; have := HK.out; omega⟩, HI5, HP, HB4⟩

                      · rw [if_neg c10] at H4
                        have H5 := Aside0.mk H4
                        have c10a : decide (0 < x.f0 - 1) = false := decide_eq_false c10
                        have c10b : decide (1 < x.f0) = false := decide_eq_false (by omega)
                        have HI5 : Aside0 (term_scan.ok a0 (st.take m) (at_ + n)) := ⟨⟨hbt0, hbt1, by rw [List.length_take]; omega, hin⟩⟩
                        have HP5 := Aside0.mk (Kd.R_take HP.out (m := m) (by rw [List.length_append, List.length_take]; omega))
                        have htk : (st.take m ++ [(⟨x.f0 - 1, dd, x.f2, at_ + n, part⟩ : S190)]).take m = st.take m := by
                          rw [List.take_append_of_le_length (by rw [List.length_take]; omega), List.take_take, Nat.min_self]
                        rw [htk] at HP5
                        have hco : m ≤ co := by have := (Kd.R_reads' HP.out).2.1; omega
                        clear H4 c10 hin htk
                        go_wp2
                        go_roundg k2
                        case measure => have := HK2.out; omega
                        case rel => exact ⟨_, _, rfl, H5, ⟨by have := HK2.out; omega⟩, HI5, HP5, HB4⟩
/-- How parts that stand one behind the other end: each read by p. -/
def partsF (s : ByteArray) (p : Int → Int × Int × Int) (pow : Bool) : Nat → Int → Int → ByteArray → Int × Int × Int
  | 0, at_, dep, _ => (at_, dep + 1, 0)
  | m + 1, at_, dep, last =>
    if (p at_).2.2 ≠ 0 then (0, 0, (p at_).2.2) else
    if pow = true ∧ Op.bytesLess (s.extract at_.toNat (p at_).1.toNat).toList last.toList = true then (0, 0, 2) else
    partsF s p pow m (p at_).1 (if dep < (p at_).2.1 then (p at_).2.1 else dep) (s.extract at_.toNat (p at_).1.toNat)
/-- Where the term ends that begins at a place, no deeper than d; its depth; 0, or what is wrong. -/
def endF (s : ByteArray) : Nat → Int → Int × Int × Int
  | 0, _ => (0, 0, 4)
  | d + 1, at_ =>
    if (s.size : Int) ≤ at_ then (0, 0, 2) else
    if leafF (s.extract at_.toNat s.size) ≠ 0 then (at_ + leafF (s.extract at_.toNat s.size), 1, 0) else
    if (beginF s at_).2.2.2.2.2.2 = true then partsF s (endF s d) (beginF s at_).2.2.1 (beginF s at_).1.toNat (beginF s at_).2.2.2.2.2.1 0 ⟨#[]⟩ else (0, 0, 2)
theorem partsF_ok {s : ByteArray} {p : Int → Int × Int × Int} {pow : Bool} {D : Int} (hD : 0 ≤ D) (hp : ∀ at_, 0 ≤ at_ → (p at_).2.2 = 0 → at_ < (p at_).1 ∧ (p at_).1 ≤ s.size ∧ 1 ≤ (p at_).2.1 ∧ (p at_).2.1 ≤ D) :
    ∀ (m : Nat) (at_ dep : Int) (last : ByteArray), 0 ≤ at_ → at_ ≤ s.size → 0 ≤ dep → dep ≤ D → (partsF s p pow m at_ dep last).2.2 = 0 →
      at_ ≤ (partsF s p pow m at_ dep last).1 ∧ (partsF s p pow m at_ dep last).1 ≤ s.size ∧ 1 ≤ (partsF s p pow m at_ dep last).2.1 ∧ (partsF s p pow m at_ dep last).2.1 ≤ D + 1
  | 0, at_, dep, last, h0, h1, h2, h3, _ => by simp only [partsF]; omega
  | m + 1, at_, dep, last, h0, h1, h2, h3, h => by
    simp only [partsF] at h ⊢
    by_cases c1 : (p at_).2.2 ≠ 0
    · rw [if_pos c1] at h; exact absurd h c1
    · rw [if_neg c1] at h ⊢
      have h4 := hp at_ h0 (by simpa using c1)
      by_cases c2 : pow = true ∧ Op.bytesLess (s.extract at_.toNat (p at_).1.toNat).toList last.toList = true
      · rw [if_pos c2] at h; exact absurd h (by simp)
      · rw [if_neg c2] at h ⊢
        have h5 := partsF_ok hD hp m (p at_).1 (if dep < (p at_).2.1 then (p at_).2.1 else dep) _ (by omega) (by omega) (by split <;> omega) (by split <;> omega) h
        omega
theorem endF_ok {s : ByteArray} : ∀ (d : Nat) (at_ : Int), 0 ≤ at_ → (endF s d at_).2.2 = 0 → at_ < (endF s d at_).1 ∧ (endF s d at_).1 ≤ s.size ∧ 1 ≤ (endF s d at_).2.1 ∧ (endF s d at_).2.1 ≤ d
  | 0, _, _, h => by simp [endF] at h
  | d + 1, at_, h0, h => by
    simp only [endF] at h ⊢
    by_cases c1 : (s.size : Int) ≤ at_
    · rw [if_pos c1] at h; exact absurd h (by simp)
    rw [if_neg c1] at h ⊢
    by_cases c2 : leafF (s.extract at_.toNat s.size) ≠ 0
    · rw [if_pos c2] at h ⊢
      have := leafF_ok (s := s.extract at_.toNat s.size) (by rw [ByteArray.size_extract]; omega) c2
      rw [ByteArray.size_extract] at this
      simp only
      omega
    rw [if_neg c2] at h ⊢
    by_cases c3 : (beginF s at_).2.2.2.2.2.2 = true
    · rw [if_pos c3] at h ⊢
      have h4 := beginF_ok (s := s) (at_ := at_) h0 (by omega) (b1 := (beginF s at_).1) (b2 := (beginF s at_).2.1) (b3 := (beginF s at_).2.2.1) (b4 := (beginF s at_).2.2.2.1) (b5 := (beginF s at_).2.2.2.2.1) (b6 := (beginF s at_).2.2.2.2.2.1) (by rw [← c3])
      have h5 := partsF_ok (D := d) (by omega) (fun a ha hq => endF_ok d a ha hq) (beginF s at_).1.toNat (beginF s at_).2.2.2.2.2.1 0 ⟨#[]⟩ (by omega) (by omega) (by omega) (by omega) h
      exact ⟨Int.lt_of_lt_of_le (by omega) h5.1, h5.2.1, h5.2.2.1, Int.le_trans h5.2.2.2 (by omega)⟩
    · rw [if_neg c3] at h; exact absurd h (by simp)
/-- What a machine of the stack comes to, from what its first term comes to. -/
def Goes (s : ByteArray) (st : List S190) (at_ : Int) (r : Int × Int × Int) (rest : List S190) : Prop :=
  (r.2.2 ≠ 0 → ∃ k, term_scan.o k s st at_ = some (0, 0, r.2.2)) ∧ (r.2.2 = 0 → ∀ k R, term_scan.i k s rest r.1 r.2.1 = some R → ∃ k', term_scan.o k' s st at_ = some R)
theorem partsF_goes (s : ByteArray) (p : Int → Int × Int × Int) (pow : Bool) (D : Int) (hD : 0 ≤ D) (hD2 : D ≤ 1000) (hp : ∀ at_, 0 ≤ at_ → (p at_).2.2 = 0 → at_ < (p at_).1 ∧ (p at_).1 ≤ s.size ∧ 1 ≤ (p at_).2.1 ∧ (p at_).2.1 ≤ D)
    (st : List S190) (hgo : ∀ (x : S190) (at_ : Int), 0 ≤ at_ → Goes s (st ++ [x]) at_ (p at_) (st ++ [x])) :
    ∀ (m : Nat) (at_ dep : Int) (last : ByteArray), 0 ≤ at_ → 0 ≤ dep → dep ≤ D → Goes s (st ++ [⟨(m : Int) + 1, dep, pow, at_, last⟩]) at_ (partsF s p pow (m + 1) at_ dep last) st := by
  intro m
  induction m with
  | zero =>
    intro at_ dep last h0 h1 h2
    have hg := hgo ⟨((0 : Nat) : Int) + 1, dep, pow, at_, last⟩ at_ h0
    have hb := hp at_ h0
    simp only [partsF]
    generalize p at_ = r at hg hb ⊢
    obtain ⟨e, dp, er⟩ := r
    simp only at hg hb ⊢
    by_cases c1 : er ≠ 0
    · rw [if_pos c1]
      exact ⟨fun _ => hg.1 c1, fun h => absurd h c1⟩
    rw [if_neg c1]
    have c1' : er = 0 := by simpa using c1
    have hb := hb c1'
    have hi : ∀ k, term_scan.i (k + 1) s (st ++ [⟨((0 : Nat) : Int) + 1, dep, pow, at_, last⟩]) e dp = if pow = true ∧ Op.bytesLess (s.extract at_.toNat e.toNat).toList last.toList = true then some (0, 0, 2) else term_scan.i k s st e (wrap64 ((if dep < dp then dp else dep) + 1)) := by
      intro k
      simp only [term_scan.i]
      rw [if_neg (by simp)]
      simp [List.getD_eq_getElem?_getD]
    by_cases c2 : pow = true ∧ Op.bytesLess (s.extract at_.toNat e.toNat).toList last.toList = true
    · rw [if_pos c2]
      refine ⟨fun _ => hg.2 c1' 1 _ ?_, fun h => absurd h (by simp)⟩
      rw [hi, if_pos c2]
    · rw [if_neg c2]
      refine ⟨fun h => absurd rfl h, fun _ k R hR => hg.2 c1' (k + 1) R ?_⟩
      rw [hi, if_neg c2]
      have hw : wrap64 ((if dep < dp then dp else dep) + 1) = (if dep < dp then dp else dep) + 1 := by unfold wrap64; split <;> omega
      rw [hw]; exact hR
  | succ m ih =>
    intro at_ dep last h0 h1 h2
    have hg := hgo ⟨((m + 1 : Nat) : Int) + 1, dep, pow, at_, last⟩ at_ h0
    have hb := hp at_ h0
    rw [partsF]
    generalize p at_ = r at hg hb ⊢
    obtain ⟨e, dp, er⟩ := r
    simp only at hg hb ⊢
    by_cases c1 : er ≠ 0
    · rw [if_pos c1]
      exact ⟨fun _ => hg.1 c1, fun h => absurd h c1⟩
    rw [if_neg c1]
    have c1' : er = 0 := by simpa using c1
    have hb := hb c1'
    have hi : ∀ k, term_scan.i (k + 1) s (st ++ [⟨((m + 1 : Nat) : Int) + 1, dep, pow, at_, last⟩]) e dp = if pow = true ∧ Op.bytesLess (s.extract at_.toNat e.toNat).toList last.toList = true then some (0, 0, 2) else term_scan.o k s (st ++ [⟨(m : Int) + 1, if dep < dp then dp else dep, pow, e, s.extract at_.toNat e.toNat⟩]) e := by
      intro k
      simp only [term_scan.i]
      rw [if_neg (by simp)]
      have hl : (st ++ [(⟨((m + 1 : Nat) : Int) + 1, dep, pow, at_, last⟩ : S190)]).getD ((st ++ [(⟨((m + 1 : Nat) : Int) + 1, dep, pow, at_, last⟩ : S190)]).length - 1) z190 = ⟨((m + 1 : Nat) : Int) + 1, dep, pow, at_, last⟩ := by
        simp [List.getD_eq_getElem?_getD]
      have ht : (st ++ [(⟨((m + 1 : Nat) : Int) + 1, dep, pow, at_, last⟩ : S190)]).take ((st ++ [(⟨((m + 1 : Nat) : Int) + 1, dep, pow, at_, last⟩ : S190)]).length - 1) = st := by simp
      rw [hl, ht]
      simp only
      by_cases c2 : pow = true ∧ Op.bytesLess (s.extract at_.toNat e.toNat).toList last.toList = true
      · rw [if_pos c2, if_pos c2]
      · rw [if_neg c2, if_neg c2, if_pos (by omega), show ((m + 1 : Nat) : Int) + 1 - 1 = (m : Int) + 1 by omega]
    by_cases c2 : pow = true ∧ Op.bytesLess (s.extract at_.toNat e.toNat).toList last.toList = true
    · rw [if_pos c2]
      refine ⟨fun _ => hg.2 c1' 1 _ ?_, fun h => absurd h (by simp)⟩
      rw [hi, if_pos c2]
    · rw [if_neg c2]
      have hn := ih e (if dep < dp then dp else dep) (s.extract at_.toNat e.toNat) (by omega) (by split <;> omega) (by split <;> omega)
      refine ⟨fun h => ?_, fun h k R hR => ?_⟩
      · obtain ⟨k, hk⟩ := hn.1 h
        refine hg.2 c1' (k + 1) _ ?_
        rw [hi, if_neg c2]; exact hk
      · obtain ⟨k', hk'⟩ := hn.2 h k R hR
        refine hg.2 c1' (k' + 1) R ?_
        rw [hi, if_neg c2]; exact hk'
theorem endF_goes (s : ByteArray) : ∀ (d : Nat) (st : List S190) (at_ : Int), st.length + d = 400 → 0 ≤ at_ → Goes s st at_ (endF s d at_) st
  | 0, st, at_, hd, h0 => by
    refine ⟨fun _ => ⟨1, ?_⟩, fun h => absurd h (by simp [endF])⟩
    simp only [term_scan.o, endF]
    rw [if_pos (by omega)]
  | d + 1, st, at_, hd, h0 => by
    simp only [endF]
    by_cases c1 : (s.size : Int) ≤ at_
    · rw [if_pos c1]
      refine ⟨fun _ => ⟨1, ?_⟩, fun h => absurd h (by simp)⟩
      simp only [term_scan.o]
      rw [if_neg (by omega), if_pos c1]
    rw [if_neg c1]
    by_cases c2 : leafF (s.extract at_.toNat s.size) ≠ 0
    · rw [if_pos c2]
      refine ⟨fun h => absurd rfl h, fun _ k R hR => ⟨k + 1, ?_⟩⟩
      simp only [term_scan.o]
      rw [if_neg (by omega), if_neg c1, if_neg c2]
      exact hR
    rw [if_neg c2]
    have c2' : leafF (s.extract at_.toNat s.size) = 0 := by simpa using c2
    by_cases c3 : (beginF s at_).2.2.2.2.2.2 = true
    · rw [if_pos c3]
      have h4 := beginF_ok (s := s) (at_ := at_) h0 (by omega) (b1 := (beginF s at_).1) (b2 := (beginF s at_).2.1) (b3 := (beginF s at_).2.2.1) (b4 := (beginF s at_).2.2.2.1) (b5 := (beginF s at_).2.2.2.2.1) (b6 := (beginF s at_).2.2.2.2.2.1) (by rw [← c3])
      have ho : ∀ k, term_scan.o (k + 1) s st at_ = term_scan.o k s (st ++ [⟨(beginF s at_).1, (beginF s at_).2.1, (beginF s at_).2.2.1, (beginF s at_).2.2.2.1, (beginF s at_).2.2.2.2.1⟩]) (beginF s at_).2.2.2.2.2.1 := by
        intro k
        simp only [term_scan.o]
        rw [if_neg (by omega), if_neg c1, if_pos c2', if_pos c3]
      obtain ⟨m, hm⟩ : ∃ m : Nat, (beginF s at_).1 = (m : Int) + 1 := ⟨((beginF s at_).1 - 1).toNat, by omega⟩
      have hx : (⟨(beginF s at_).1, (beginF s at_).2.1, (beginF s at_).2.2.1, (beginF s at_).2.2.2.1, (beginF s at_).2.2.2.2.1⟩ : S190) = ⟨(m : Int) + 1, 0, (beginF s at_).2.2.1, (beginF s at_).2.2.2.2.2.1, ⟨#[]⟩⟩ := by
        rw [hm, h4.2.2.1, h4.2.2.2.1, h4.2.2.2.2.2.2]
      rw [hx] at ho
      have hn := partsF_goes s (endF s d) (beginF s at_).2.2.1 d (by omega) (by omega) (fun a ha hq => endF_ok d a ha hq) st (fun x a ha => endF_goes s d (st ++ [x]) a (by simp; omega) ha) m (beginF s at_).2.2.2.2.2.1 0 ⟨#[]⟩ (by omega) (by omega) (by omega)
      have hmt : (beginF s at_).1.toNat = m + 1 := by omega
      rw [hmt]
      refine ⟨fun h => ?_, fun h k R hR => ?_⟩
      · obtain ⟨k, hk⟩ := hn.1 h
        exact ⟨k + 1, by rw [ho]; exact hk⟩
      · obtain ⟨k, hk⟩ := hn.2 h k R hR
        exact ⟨k + 1, by rw [ho]; exact hk⟩
    · rw [if_neg c3]
      refine ⟨fun _ => ⟨1, ?_⟩, fun h => absurd h (by simp)⟩
      simp only [term_scan.o]
      rw [if_neg (by omega), if_neg c1, if_pos c2', if_neg c3]
/-- What a text begins with: where it ends, how deep it is, or what is wrong. -/
def scanF (s : ByteArray) : Int × Int × Int := if (endF s 400 0).2.2 = 0 then endF s 400 0 else (0, 0, (endF s 400 0).2.2)
theorem scanF_goes (s : ByteArray) : ∃ k, term_scan.o k s [] 0 = some (scanF s) := by
  have h := endF_goes s 400 [] 0 rfl (Int.le_refl _)
  unfold scanF
  by_cases c : (endF s 400 0).2.2 = 0
  · rw [if_pos c]
    refine h.2 c 1 _ ?_
    simp only [term_scan.i]
    rw [if_pos (show ([] : List S190).length = 0 from rfl)]
    exact congrArg some (Prod.ext rfl (Prod.ext rfl c.symm))
  · rw [if_neg c]
    exact h.1 c
def term_scan.f (s : ByteArray) : Option (Int × Int × Int) := if s.size < 9223372036854775000 then some (scanF s) else none
theorem term_scan.calls (a0 : ByteArray) (r1 : Int) (r2 : Int) (r3 : Int) (w : World) (h : term_scan.f a0 = some (r1, r2, r3)) :
    Calls Try.prog 131 #[.string a0] w fun e w' => e = .returned (.tuple #[.int .i64 r1, .int .i64 r2, .int .i64 r3]) ∧ Below w.heap.size w w' := by
  unfold term_scan.f at h
  split at h
  · rename_i hs
    obtain ⟨k, hk⟩ := scanF_goes a0
    exact term_scan.callsk k a0 r1 r2 r3 w (by rw [term_scan.fk, if_pos hs, hk]; exact h)
  · cases h

end Go.Proofs.Ytpfpmjdifnoeoaa.F
