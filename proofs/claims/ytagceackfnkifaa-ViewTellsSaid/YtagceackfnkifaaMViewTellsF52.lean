import Derived.Test.YtagceackfnkifaaMViewTellsF0
import Derived.Test.YtagceackfnkifaaMViewTellsF46
import Derived.Test.YtagceackfnkifaaMViewTellsF69
import Derived.Test.YtagceackfnkifaaMViewTellsF82
import Derived.WalkSpells
import Derived.Shelf.Abstract
import Derived.Lib.SliceRun
namespace Go.Proofs.Ytagceackfnkifaa.F
open Go.RowKit Go.Proofs.YtagceackfnkifaaW.PrintWords Go.Proofs.YtagceackfnkifaaW.PrintLast Go.Proofs.YtagceackfnkifaaW.PrintMore
attribute [local go_sem] max2_int min2_int max_two min_two max_three min_three max_four min_four
set_option linter.unusedVariables false
set_option linter.unusedSimpArgs false
def view_Without.idxI (p : Int → Bool) : List Int → Int → Int
  | [], _ => -1
  | x :: xs, i => if p x then i else view_Without.idxI p xs (i + 1)
theorem view_Without.idxI_none {p : Int → Bool} : ∀ (xs : List Int) (i : Int), (∀ x ∈ xs, p x = false) → view_Without.idxI p xs i = -1
  | [], _, _ => rfl
  | x :: xs, i, h => by
    simp only [view_Without.idxI, h x (List.mem_cons_self ..)]; exact view_Without.idxI_none xs _ fun y hy => h y (List.mem_cons_of_mem _ hy)
theorem view_Without.idxI_at {p : Int → Bool} : ∀ (xs : List Int) (i : Int) (j : Nat), j < xs.length → p (xs.getD j 0) = true → (∀ m, m < j → p (xs.getD m 0) = false) → view_Without.idxI p xs i = i + j
  | [], _, j, hj, _, _ => by simp at hj
  | x :: xs, i, 0, _, h, _ => by
    simp only [List.getD_cons_zero] at h; simp [view_Without.idxI, h]
  | x :: xs, i, j + 1, hj, h, hm => by
    have h0 := hm 0 (by omega)
    simp only [List.getD_cons_zero] at h0; simp only [view_Without.idxI, h0]; have := view_Without.idxI_at xs (i + 1) j (by simpa using hj) (by simpa using h) (fun m hmj => by simpa using hm (m + 1) (by omega))
    rw [if_neg (by simp), this]
    omega
set_option maxHeartbeats 400000 in
set_option maxRecDepth 10000 in
theorem view_Without.idx_calls (p : Int → Bool) (cap : Array Value) (A0 : Option Addr) (c0 : Nat) (l0 : List Int) (w : World) (hr0 : Kd.C (Kd.int .i64) w A0 l0.length l0)
    (hp : ∀ (x : Int) (W : World), Drawn0 w W → Calls Try.prog 86 (#[.int .i64 x] ++ cap) W fun e w' => e = .returned (.bool (p x)) ∧ Drawn0 W w') :
    Calls Try.prog 118 #[.slice A0 l0.length c0, .func (.func 86) #[] cap] w fun e w' => e = .returned (.int .i64 (view_Without.idxI p l0 0)) ∧ Drawn0 w w' := by
  have eg := enters_of Try.func86 (by kernel_rfl) rfl
  have HR0 := Aside0.mk hr0
  have HP := Aside0.mk hp
  have hlen : l0.length ≤ 9223372036854775807 := hr0.2.1
  clear hr0 hp; go_enter Try.func118, Try.ntmps118
  go_wp2; go_loopw [8] (fun i wr => ∃ k : Nat, k ≤ l0.length ∧ i = .int .i64 k ∧ Aside0 (∀ m, m < k → p (l0.getD m 0) = false) ∧ Drawn0 w wr) (fun i _ => l0.length - (intOf i).toNat)
  case atStart => exact ⟨0, Nat.zero_le _, rfl, ⟨fun m hm => by omega⟩, Drawn0.refl _⟩
  case round =>
    obtain ⟨k, hk, rfl, hall, ⟨m1, rfl⟩⟩ := hrel
    by_cases hlt : k < l0.length
    · obtain ⟨ad, e, hx⟩ := Kd.at_int HR0.out (k : Int) (by omega) (by omega)
      cases e
      have hrd : rd l0 (k : Int) = l0.getD k 0 := by simp [rd]
      rw [hrd, Int.toNat_natCast] at hx
      obtain ⟨y, hy⟩ : ∃ y, y = l0.getD k 0 := ⟨_, rfl⟩
      rw [← hy] at hx
      have HY := Aside0.mk hy
      clear hrd hy; by_cases hpx : p y = true
      · go_wp2_with (go_at_call 86; go_loud (refine (HP.out _ _ (Drawn0.step (Drawn0.refl _) _)).mono ?_; rintro e w' ⟨rfl, ⟨nd, rfl⟩⟩))
        go_ret
        refine ⟨?_, by repeat (first | exact Drawn0.refl _ | apply Drawn0.step)⟩
        rw [view_Without.idxI_at l0 0 k hlt (by rw [← HY.out]; exact hpx) hall.out]
        simp
      · have hpf : p y = false := by simpa using hpx
        clear hpx; go_wp2_with (go_at_call 86; go_loud (refine (HP.out _ _ (Drawn0.step (Drawn0.refl _) _)).mono ?_; rintro e w' ⟨rfl, ⟨nd, rfl⟩⟩))
        go_roundw
        case rel => exact ⟨k + 1, by omega, by go_num, ⟨fun m hm => by
          rcases Nat.lt_or_ge m k with h | h
          · exact hall.out m h
          · obtain rfl : m = k := by omega
            rw [← HY.out]; exact hpf⟩, by repeat (first | exact Drawn0.refl _ | apply Drawn0.step)⟩
        case measure => simp [intOf]; omega
    · obtain rfl : k = l0.length := by omega
      go_wp2; go_ret
      refine ⟨?_, by repeat (first | exact Drawn0.refl _ | apply Drawn0.step)⟩
      have hn := view_Without.idxI_none (p := p) l0 0 (fun x hx => by
        obtain ⟨i, hi, rfl⟩ := List.getElem_of_mem hx; have := hall.out i hi
        simpa [List.getD_eq_getElem?_getD, hi] using this)
      rw [hn]
      rfl
theorem view_Without.take_set_ {α : Type} (xs : List α) (o : Nat) (y : α) : (xs.set o y).take o = xs.take o := by
  apply List.ext_getElem
  · simp
  · intro i h1 h2; simp only [List.length_take, List.length_set] at h1; rw [List.getElem_take, List.getElem_take, List.getElem_set_ne (by omega)]
theorem view_Without.below_setCells {B : Nat} {a : World} {b : Nat} (hb : B ≤ b) : ∀ (vs : List Value) (o : Nat) {w : World}, Below B a w → Below B a (w.setCells b o vs)
  | [], _, _, h => h
  | v :: r, o, _, h => view_Without.below_setCells hb r (o + 1) (h.setCell hb _)
theorem view_Without.R_setCells {α : Type} {enc : α → Value} {h1 : ∀ x, (enc x).oneCell' = true} {e base g n cap : Nat} {ok : Nat → Prop} (y : α) : ∀ (m o : Nat) {W : World} {xs : List α},
    (Kd.scalar enc h1).R e W base ok (.slice (some ⟨g, 0, none⟩) n cap) xs → o + m ≤ n →
    ∃ ys, ys.length = n ∧ ys.take o = xs.take o ∧ (Kd.scalar enc h1).R e (W.setCells g o (List.replicate m (enc y))) base ok (.slice (some ⟨g, 0, none⟩) n cap) ys
  | 0, o, W, xs, h, _ => ⟨xs, by have := (Kd.R_own h).choose_spec.1; exact (Kd.R_reads' h).1.symm, rfl, h⟩
  | m + 1, o, W, xs, h, hm => by
    have h2 := Kd.R_putn h (o : Int) y
    rw [Int.toNat_natCast] at h2
    obtain ⟨ys, hl, ht, hr⟩ := view_Without.R_setCells y m (o + 1) h2 (by omega)
    refine ⟨ys, hl, ?_, hr⟩
    have h3 := congrArg (List.take o) ht
    rw [List.take_take, List.take_take, Nat.min_eq_left (by omega)] at h3
    rw [h3]
    exact view_Without.take_set_ xs o y
theorem view_Without.take_filter_snoc {p : Int → Bool} (l : List Int) (k : Nat) (h : k < l.length) : (l.take (k + 1)).filter p = (l.take k).filter p ++ (if p (l.getD k 0) then [l.getD k 0] else []) := by
  rw [List.take_succ_eq_append_getElem h, List.filter_append]
  have : l.getD k 0 = l[k] := by simp [List.getD_eq_getElem?_getD, h]
  rw [this]
  congr 1
  by_cases hp : p l[k] <;> simp [hp]
theorem view_Without.idxI_cases (p : Int → Bool) (xs : List Int) : ∀ i : Int, (view_Without.idxI p xs i = -1 ∧ ∀ x ∈ xs, p x = false) ∨ ∃ j : Nat, j < xs.length ∧ view_Without.idxI p xs i = i + j ∧ p (xs.getD j 0) = true ∧ ∀ m, m < j → p (xs.getD m 0) = false := by
  induction xs with
  | nil => exact fun i => .inl ⟨rfl, by simp⟩
  | cons x xs ih =>
    intro i; by_cases hx : p x
    · exact .inr ⟨0, by simp, by simp [view_Without.idxI, hx], by simpa using hx, fun m hm => by omega⟩
    · rcases ih (i + 1) with ⟨h1, h2⟩ | ⟨j, h1, h2, h3, h4⟩
      · refine .inl ⟨by simp [view_Without.idxI, hx, h1], fun y hy => ?_⟩
        rcases List.mem_cons.1 hy with rfl | hy
        · simpa using hx
        · exact h2 y hy
      · refine .inr ⟨j + 1, by simpa using h1, by simp [view_Without.idxI, hx, h2]; omega, by simpa using h3, fun m hm => ?_⟩
        rcases m with _ | m
        · simpa using hx
        · simpa using h4 m (by omega)
theorem view_Without.filter_take_none {p : Int → Bool} (l : List Int) (j : Nat) (h : ∀ m, m < j → p (l.getD m 0) = false) (hj : j ≤ l.length) : (l.take j).filter (fun x => !p x) = l.take j := by
  rw [List.filter_eq_self]
  intro x hx; obtain ⟨i, hi, rfl⟩ := List.getElem_of_mem hx; rw [List.length_take] at hi
  have := h i (by omega)
  rw [List.getElem_take]
  simpa [List.getD_eq_getElem?_getD, show i < l.length by omega] using this
set_option maxHeartbeats 400000 in
set_option maxRecDepth 10000 in
theorem view_Without.del_calls (p : Int → Bool) (cap : Array Value) (B : Nat) (w0 : World) (v : Value) (l0 : List Int) (ok : Nat → Prop) (w : World) (hr0 : (Kd.int .i64).R 3 w B ok v l0) (hb0 : Below B w0 w) (hB : B ≤ w.heap.size)
    (hp : ∀ (x : Int) (W : World), Below B w0 W → Calls Try.prog 86 (#[.int .i64 x] ++ cap) W fun e w' => e = .returned (.bool (p x)) ∧ Drawn0 W w') :
    Calls Try.prog 84 #[v, .func (.func 86) #[] cap] w fun e w' => ∃ v', e = .returned v' ∧ (Kd.int .i64).R 3 w' B ok v' (l0.filter fun x => !p x) ∧ Below B w0 w' := by
  have eg := enters_of Try.func86 (by kernel_rfl) rfl
  obtain ⟨A0, c0, rfl, hc0, hC⟩ := Kd.R_reads hr0; have HX := Aside0.mk (view_Without.idx_calls p cap A0 c0 l0 w hC fun x W hd => hp x W (below_then hb0 hB hd.below))
  have HR0 := Aside0.mk hr0
  have HB0 := Aside0.mk hb0
  have HP := Aside0.mk hp
  have hlen : l0.length ≤ 9223372036854775807 := hC.2.1
  clear hr0 hp hC hb0; rcases view_Without.idxI_cases p l0 0 with ⟨hi, hall⟩ | ⟨j, hj, hi, hpj, hbef⟩
  · have hl : l0.filter (fun x => !p x) = l0 := by
      rw [List.filter_eq_self]
      intro x hx; simp [hall x hx]
    rw [hl]
    rw [hi] at HX
    clear hall hi hl; go_enter Try.func84, Try.ntmps84
    go_wp2_with (go_at_call 118; go_loud (refine (HX.out).mono ?_; rintro e w' ⟨rfl, ⟨nd, rfl⟩⟩))
    go_ret
    exact ⟨_, rfl, Kd.R_drewN HR0.out _, pw_below_drewN HB0.out _⟩
  · simp only [Int.zero_add] at hi; rw [hi] at HX
    have HBEF := Aside0.mk hbef
    have hjne : ((j : Int) == -1) = false := by rw [beq_eq_false_iff_ne]; omega
    obtain ⟨g, cap0, hv, hg, hgw, _⟩ := Kd.R_form HR0.out (by omega)
    injection hv with hA _ hcc
    subst hA hcc
    have HPJ := Aside0.mk hpj
    clear hbef hi hpj; go_enter Try.func84, Try.ntmps84
    go_wp2_with (go_at_call 118; go_loud (refine (HX.out).mono ?_; rintro e w' ⟨rfl, ⟨nd, rfl⟩⟩))
    go_loopw [5, 6] (fun i k wr => ∃ (ii kk : Nat) (cur : List Int), i = .int .i64 ii ∧ k = .int .i64 kk ∧ ii < kk ∧ kk ≤ l0.length ∧ Aside0 (cur.length = l0.length ∧ cur.take ii = (l0.take kk).filter (fun x => !p x) ∧ cur.drop kk = l0.drop kk) ∧ Aside0 ((Kd.int .i64).R 3 wr B ok (.slice (some ⟨g, 0, none⟩) l0.length c0) cur) ∧ Aside0 (Below B w0 wr)) (fun _ k _ => l0.length - (intOf k).toNat)
    case atStart => 
      refine ⟨j, j + 1, l0, rfl, by go_num, by omega, by omega, ⟨rfl, ?_, rfl⟩, ⟨Kd.R_drewN HR0.out _⟩, ⟨pw_below_drewN HB0.out _⟩⟩
      rw [view_Without.take_filter_snoc l0 j hj, view_Without.filter_take_none l0 j HBEF.out (by omega), HPJ.out]
      simp
    case round =>
      obtain ⟨ii, kk, cur, rfl, rfl, hik, hkl, hc, HRc, HBc⟩ := hrel; have hcl := hc.out.1; by_cases hlt : kk < l0.length
      · have HCc := (Kd.R_reads' HRc.out).2.2
        obtain ⟨ad, e, hx⟩ := Kd.at_int HCc (kk : Int) (by omega) (by omega)
        cases e
        have hrd : rd cur (kk : Int) = l0.getD kk 0 := by
          have h1 := congrArg (fun l => l.getD 0 0) hc.out.2.2
          simp only [List.getD_eq_getElem?_getD, List.getElem?_drop, Nat.add_zero] at h1; simp only [rd, Int.toNat_natCast, List.getD_eq_getElem?_getD]; exact h1
        rw [hrd, Int.toNat_natCast, add_plain] at hx
        obtain ⟨y, hy⟩ : ∃ y, y = l0.getD kk 0 := ⟨_, rfl⟩
        rw [← hy] at hx
        have HY := Aside0.mk hy
        clear hrd hy HCc; by_cases hpx : p y = true
        · go_wp2_with (go_at_call 86; go_loud (refine (HP.out _ _ HBc.out).mono ?_; rintro e w' ⟨rfl, ⟨nd, rfl⟩⟩))
          go_roundw
          case rel =>
            refine ⟨ii, kk + 1, cur, rfl, by go_num, by omega, by omega, ⟨hcl, ?_, ?_⟩, ⟨Kd.R_drewN HRc.out _⟩, ⟨pw_below_drewN HBc.out _⟩⟩
            · rw [view_Without.take_filter_snoc l0 kk hlt, ← HY.out, hpx, hc.out.2.1]
              simp
            · have h1 := congrArg (List.drop 1) hc.out.2.2
              simpa [List.drop_drop] using h1
          case measure => simp [intOf]; omega
        · have hpf : p y = false := by simpa using hpx
          clear hpx; have hii : ii < l0.length := by omega
          obtain ⟨ad, e, hxi⟩ := Kd.at_int (Kd.R_reads' HRc.out).2.2 (ii : Int) (by omega) (by omega)
          cases e
          rw [Int.toNat_natCast, add_plain] at hxi
          have hfz : wr.frozen? ⟨g, ii, none⟩ = false := by
            obtain ⟨g', cap', hv', _, _, cells, hcells⟩ := Kd.R_form HRc.out (by omega)
            injection hv' with hA' _ _
            injection hA' with hA'
            injection hA' with hA' _ _
            subst hA'; exact blk_frozen hcells _
          go_wp2_with (go_at_call 86; go_loud (refine (HP.out _ _ HBc.out).mono ?_; rintro e w' ⟨rfl, ⟨nd, rfl⟩⟩))
          go_roundw
          case rel =>
            have hput := Kd.R_putn (Kd.R_drewN HRc.out nd) (ii : Int) y
            rw [Int.toNat_natCast] at hput
            refine ⟨ii + 1, kk + 1, cur.set ii y, by go_num, by go_num, by omega, by omega, ⟨by simp [hcl], ?_, ?_⟩, ⟨hput⟩, ⟨(pw_below_drewN HBc.out _).setCell hg _⟩⟩
            · rw [view_Without.take_filter_snoc l0 kk hlt, ← HY.out, hpf, ← hc.out.2.1, List.take_succ_eq_append_getElem (by simp [hcl]; omega), view_Without.take_set_]
              simp
            · have h1 := congrArg (List.drop 1) hc.out.2.2
              rw [List.drop_set_of_lt (by omega)]
              simpa [List.drop_drop] using h1
          case measure => simp [intOf]; omega
      · obtain rfl : kk = l0.length := by omega
        have hcl2 : ii + (l0.length - ii) ≤ l0.length := by omega
        obtain ⟨ys, hyl, hyt, hyr⟩ := view_Without.R_setCells (0 : Int) (l0.length - ii) ii HRc.out hcl2
        have hcs : ∀ j, j < l0.length - ii → (wr.cell? ⟨g, ii + j, none⟩).isSome = true := by
          intro j hj; obtain ⟨ad, e, hxi⟩ := Kd.at_int (Kd.R_reads' HRc.out).2.2 ((ii + j : Nat) : Int) (by omega) (by omega)
          cases e
          rw [Int.toNat_natCast, add_plain] at hxi
          rw [hxi]; rfl
        have hfz : ∀ j, j < l0.length - ii → wr.frozen? ⟨g, ii + j, none⟩ = false := by
          intro j hj; obtain ⟨g', cap', hv', _, _, cells, hcells⟩ := Kd.R_form HRc.out (by omega)
          injection hv' with hA' _ _
          injection hA' with hA'
          injection hA' with hA' _ _
          subst hA'; exact blk_frozen hcells _
        have hclr := fun ty => Lib.run_clear_slice wr 22 3 ty (.int .i64 0) Try.underlying22 (fun _ => rfl) rfl rfl g ii (l0.length - ii) (c0 - ii) (by omega) hcs hfz
        clear hcs hfz; go_wp2; go_ret
        have hfin := Kd.R_take hyr (m := ii) (by omega)
        rw [hyt, hc.out.2.1, List.take_length] at hfin
        exact ⟨_, rfl, hfin, view_Without.below_setCells hg _ _ HBc.out⟩
set_option maxHeartbeats 400000 in
set_option maxRecDepth 10000 in
theorem view_Without.lit_calls (B : Nat) (A1 : Option Addr) (c1 : Nat) (l1 : List Int) (x : Int) (W : World) (hc : W.cell? ⟨B, 0, none⟩ = some (.slice A1 l1.length c1)) (hr : Kd.C (Kd.int .i64) W A1 l1.length l1) (hc1 : l1.length ≤ c1) :
    Calls Try.prog 86 #[.int .i64 x, .pointer (some ⟨B, 0, none⟩)] W fun e w' => e = .returned (.bool (l1.contains x)) ∧ Drawn0 W w' := by
  have HC := Aside0.mk (view_Has.calls A1 c1 l1 x _ W hr hc1 (by unfold view_Has.f slices_Contains_int_int.f; rfl))
  obtain ⟨q, hq⟩ : ∃ q, q = l1.contains x := ⟨_, rfl⟩
  rw [← hq] at HC ⊢
  clear hq hr; go_enter Try.func86, Try.ntmps86
  go_wp2_with (go_at_call 46; refine (HC.out).mono ?_; rintro e w' ⟨rfl, ⟨nd, rfl⟩⟩)
  go_ret
  exact ⟨rfl, ⟨_, rfl⟩⟩
def view_Without.f (l0 l1 : List Int) : Option (List Int) := if l0.length < 8796093022208 then some (l0.filter fun x => !l1.contains x) else none
set_option maxHeartbeats 400000 in
set_option maxRecDepth 10000 in
theorem view_Without.calls (A0 : Option Addr) (c0 : Nat) (l0 : List Int) (A1 : Option Addr) (c1 : Nat) (l1 : List Int) (r : List Int) (w : World) (hr0 : Kd.C (Kd.int .i64) w A0 l0.length l0) (hc0 : l0.length ≤ c0) (hr1 : Kd.C (Kd.int .i64) w A1 l1.length l1) (hc1 : l1.length ≤ c1) (h : view_Without.f l0 l1 = some r) :
    Calls Try.prog 52 #[.slice A0 l0.length c0, .slice A1 l1.length c1] w fun e w' => ∃ v0_ : Value, e = .returned (v0_) ∧ Kd.R (Kd.int .i64) 3 w' w.heap.size (fun _ => True) v0_ r ∧ Below w.heap.size w w' := by
  have hlim : l0.length < 8796093022208 := by
    unfold view_Without.f at h
    split at h
    · assumption
    · cases h
  have hr : r = l0.filter fun x => !l1.contains x := by
    unfold view_Without.f at h
    rw [if_pos hlim] at h
    exact (Option.some.inj h).symm
  have HH := Aside0.mk hr
  have HR0 := Aside0.mk hr0
  have HR1 := Aside0.mk hr1
  have HL := Aside0.mk hlim
  have HB := Aside0.mk (Below.refl w.heap.size w)
  clear hr0 hr1 hlim h hr; go_enter Try.func52, Try.ntmps52
  go_wp2_with (first | (go_at_call 69; refine (slices_Clone_int_int.calls A0 c0 l0 l0 _ (Kd.C_alloc HR0.out _) hc0 (by unfold slices_Clone_int_int.f; rw [if_pos HL.out])).mono ?_; rintro e w1 ⟨v, rfl, ho, hb⟩; have HO := Aside0.mk ho; have HB1 := Aside0.mk hb; clear ho hb) | (go_at_call 84; refine (view_Without.del_calls (fun x => l1.contains x) _ _ _ v l0 _ w1 HO.out HB1.out HB1.out.size ?hp).mono ?_; (case hp => exact fun x W hW => view_Without.lit_calls _ A1 c1 l1 x W ((hW.cell (p := ⟨w.heap.size, 0, none⟩) (by simp)).trans (by simp)) (Kd.C_below (Kd.C_alloc HR1.out _) hW) hc1); rintro e w' ⟨v', rfl, ho, hb⟩; have HO2 := Aside0.mk ho; have HB2 := Aside0.mk hb; clear ho hb))
  go_ret
  refine ⟨_, rfl, ?_, ?_⟩
  · rw [HH.out]
    have := HO2.out
    exact Kd.R_mono (Kd.R_lower this (by simp)) (fun _ _ => trivial)
  · exact below_then (below_alloc HB.out _) (by simp) HB2.out
end Go.Proofs.Ytagceackfnkifaa.F
