-- Laid by mk.py (a program of this session) over the seat's translation.
import Derived.Test.YtppimpadfgldjaaF0
import Derived.Test.YtppimpadfgldjaaB1
import Derived.Test.YtppimpadfgldjaaF124
import Derived.Test.YtppimpadfgldjaaF70
import Derived.Test.YtppimpadfgldjaaF71
import Derived.Test.YtppimpadfgldjaaF72
import Derived.Test.YtppimpadfgldjaaF73
import Derived.Test.YtppimpadfgldjaaB3
import Derived.Test.YtppimpadfgldjaaB2
import Derived.Test.YtppimpadfgldjaaF76
import Derived.Laws.Cover1
import Derived.RegionTactic
import Derived.BigRegion
import Derived.StillTailTactics
import Derived.StillTactics
import Derived.Deep.LoopGhost
import Derived.Deep.CutBlock
import Derived.Test.YtppimpadfgldjaaLLaw2
import Derived.Test.YtppimpadfgldjaaLAllK
namespace Go.Proofs.Ytppimpadfgldjaa.F
open Go.RowKit Go.Proofs.YtppimpadfgldjaaW.PrintWords Go.Proofs.YtppimpadfgldjaaW.PrintLast Go.Proofs.YtppimpadfgldjaaW.PrintMore
attribute [local go_sem] max2_int min2_int max_two min_two max_three min_three max_four min_four
set_option linter.unusedVariables false
set_option linter.unusedSimpArgs false

/-! ### gemotlaw2_PartsAll: function 14 -/
open Go.Maps Go.Proofs.Ytppimpadfgldjaa.Pure
theorem allF_small : ∀ (n : Nat) (t : ByteArray), t.size ≤ n → rightB t = true → ∀ x ∈ allF t, rightB x = true ∧ x.size ≤ t.size ∧ depF x ≤ depF t ∧ (x = t ∨ x.size < t.size)
  | n, t, hn, hr, x, hx => by
    rw [allF_eq hr, List.mem_cons, List.mem_flatMap] at hx
    rcases hx with rfl | ⟨y, hy, hx⟩
    · exact ⟨hr, Nat.le_refl _, Int.le_refl _, .inl rfl⟩
    · have h1 := kids_right hr y hy
      match n, hn with
      | 0, hn => exact absurd h1.2.1 (by omega)
      | n + 1, hn =>
        have h2 := allF_small n y (by omega) h1.1 x hx
        exact ⟨h2.1, by omega, by omega, .inr (by omega)⟩
theorem one_len {l : List ByteArray} {a : ByteArray} (hn : l.Nodup) (ha : a ∈ l) : l.length = 1 ↔ ∀ x ∈ l, x = a := by
  constructor
  · intro h x hx; match l, h, ha, hx with
    | [y], _, ha, hx => rw [List.mem_singleton.mp ha, List.mem_singleton.mp hx]
  · intro h; match l, hn, ha, h with
    | [], _, ha, _ => cases ha
    | [x], _, _, _ => rfl
    | x :: y :: r, hn, _, h =>
      have h1 := h x List.mem_cons_self
      have h2 := h y (List.mem_cons_of_mem _ List.mem_cons_self)
      rw [List.nodup_cons] at hn
      exact absurd (by rw [h1, h2]; exact List.mem_cons_self) hn.1

/-- What a term's row of all that stands in it bears. -/
structure AllS (a : ByteArray) (K own : List ByteArray) : Prop where
  right : rightB a = true
  size : a.size ≤ 20000
  srt : Srt K
  has_all : parts_All.f a = some K
  has_own : parts_Of.f a = some own
  small : ∀ x ∈ K, x.size ≤ a.size ∧ depthF x ≤ depthF a
  self : a ∈ K
  part : ∀ x ∈ K, x = a ∨ ∃ y ∈ own, x ∈ allK y
  sub : ∀ y ∈ own, y ∈ K
  kid : ∀ y ∈ own, parts_All.f y = some (allK y)
  few : K.length ≤ 20000 ∧ own.length ≤ 20000
  ends : ((own.length : Int) == 0) = ((K.length : Int) == 1)
theorem rdB_eq {l : List ByteArray} {k : Nat} (h : k < l.length) : rdOf ByteArray.empty l (k : Int) = l[k] := by
  unfold rdOf
  simp [List.getD_eq_getElem?_getD, List.getElem?_eq_getElem h]
theorem rdB_mem {l : List ByteArray} {k : Nat} (h : k < l.length) : rdOf ByteArray.empty l (k : Int) ∈ l := by
  rw [rdB_eq h]
  exact List.getElem_mem h
theorem srt_lt {l : List ByteArray} (hs : Srt l) (k : Nat) (h0 : 0 < k) (hk : k < l.length) : bl (rdOf ByteArray.empty l ((k - 1 : Nat) : Int)) < bl (rdOf ByteArray.empty l (k : Int)) := by
  rw [rdB_eq (by omega), rdB_eq hk]
  exact List.pairwise_iff_getElem.mp hs _ _ _ _ (by omega)
def cntA (a : ByteArray) (l : List ByteArray) : Int := if (l.any fun x => decide (x = a)) = true then 1 else 0
theorem cnt_in {a : ByteArray} {l : List ByteArray} (h : a ∈ l) : cntA a l = 1 := if_pos (List.any_eq_true.mpr ⟨a, h, decide_eq_true rfl⟩)
theorem cnt_out {a : ByteArray} {l : List ByteArray} (h : ¬ a ∈ l) : cntA a l = 0 := if_neg (fun q => by
  obtain ⟨x, hx, e⟩ := List.any_eq_true.mp q; exact h (of_decide_eq_true e ▸ hx))
theorem cnt_step {K : List ByteArray} (hs : Srt K) (a : ByteArray) (k : Nat) (hk : k < K.length) : (K[k] = a → cntA a (K.take k) = 0 ∧ cntA a (K.take (k + 1)) = 1) ∧ (K[k] ≠ a → cntA a (K.take (k + 1)) = cntA a (K.take k)) := by
  have e : K.take (k + 1) = K.take k ++ [K[k]] := by rw [List.take_add_one, List.getElem?_eq_getElem hk]; rfl
  rw [e]
  refine ⟨fun h => ⟨cnt_out fun hm => ?_, cnt_in (by rw [h]; simp)⟩, fun h => ?_⟩
  · obtain ⟨j, hj, q⟩ := List.mem_take_iff_getElem.mp hm; have := List.pairwise_iff_getElem.mp hs j k (by omega) hk (by omega)
    rw [q, h] at this
    exact List.lt_irrefl _ this
  · rcases Classical.em (a ∈ K.take k) with hm | hm
    · rw [cnt_in hm, cnt_in (List.mem_append_left _ hm)]
    · rw [cnt_out hm, cnt_out (fun q => by
        rcases List.mem_append.mp q with r | r
        · exact hm r
        · exact h (List.mem_singleton.mp r).symm)]
theorem allS_of {out : List ByteArray} {q : Int} (hr : rightB (atF out q) = true) (hs : (atF out q).size ≤ 600) : AllS (atF out q) (allK (atF out q)) (kidsF (atF out q)) := by
  have hR : true = ((((kidsF (atF out q)).length : Int) == 0) == (((allK (atF out q)).length : Int) == 1)) := by
    have hnd : (allK (atF out q)).Nodup := (allK_srt (atF out q)).imp fun {x y} h => bl_ne h
    have hself : atF out q ∈ allK (atF out q) := (allK_mem _ _).mpr (by rw [allF_eq hr]; exact List.mem_cons_self)
    have h1 := one_len hnd hself
    by_cases hk : kidsF (atF out q) = []
    · have h2 : (allK (atF out q)).length = 1 := h1.mpr fun x hx => by
        have := (allK_mem _ _).mp hx
        rw [allF_eq hr, hk] at this
        simpa using this
      rw [hk, h2]
      rfl
    · have h2 : (allK (atF out q)).length ≠ 1 := fun h => by
        obtain ⟨y, ys, e⟩ := List.exists_cons_of_ne_nil hk; have hy : y ∈ kidsF (atF out q) := by rw [e]; exact List.mem_cons_self
        have h3 := h1.mp h y ((allK_mem _ _).mpr (by rw [allF_eq hr, List.mem_cons, List.mem_flatMap]; exact .inr ⟨y, hy, by rw [allF_eq (kids_right hr y hy).1]; exact List.mem_cons_self⟩))
        have h4 := (kids_right hr y hy).2.1
        rw [h3] at h4
        omega
      have h3 : (kidsF (atF out q)).length ≠ 0 := fun h => hk (List.length_eq_zero_iff.mp h)
      rw [show ((((kidsF (atF out q)).length : Int) == 0)) = false by rw [beq_eq_false_iff_ne]; omega, show ((((allK (atF out q)).length : Int) == 1)) = false by rw [beq_eq_false_iff_ne]; omega]
      rfl
  have hkl : (kidsF (atF out q)).length ≤ 20000 := by
    have h2 : (kidsF (atF out q)).length ≤ 20000 := Nat.le_trans (tkF_len _) (Nat.le_trans (bodyF_size _) (by omega))
    exact h2
  refine ⟨hr, by omega, allK_srt _, by unfold parts_All.f; rw [if_pos (by omega), if_pos hr], by unfold parts_Of.f; rw [if_pos (by omega)]; unfold kidsP; rw [if_pos hr], fun x hx => ?_, (allK_mem _ _).mpr (by rw [allF_eq hr]; exact List.mem_cons_self), fun x hx => ?_, fun y hy => ?_, fun y hy => ?_, ⟨allK_len hr, hkl⟩, ?_⟩
  · have := allF_small _ _ (Nat.le_refl _) hr x ((allK_mem _ _).mp hx)
    exact ⟨this.2.1, by rw [depth_right this.1, depth_right hr]; exact this.2.2.1⟩
  · have := (allK_mem _ _).mp hx
    rw [allF_eq hr, List.mem_cons, List.mem_flatMap] at this
    rcases this with h | ⟨y, hy, h⟩
    · exact .inl h
    · exact .inr ⟨y, hy, (allK_mem _ _).mpr h⟩
  · refine (allK_mem _ _).mpr ?_
    rw [allF_eq hr, List.mem_cons, List.mem_flatMap]
    exact .inr ⟨y, hy, by rw [allF_eq (kids_right hr y hy).1]; exact List.mem_cons_self⟩
  · have := kids_right hr y hy
    unfold parts_All.f
    rw [if_pos (by omega), if_pos this.1]
  · exact (beq_iff_eq.mp hR.symm)
theorem HH.run {K own : List ByteArray} {a : ByteArray} (h : AllS a K own) (x : ByteArray) (hx : x ∈ K) (W : World) : Calls Try.prog 75 #[.string x] W fun e w' => e = .returned (.int .i64 (depthF x)) ∧ Below W.heap.size W w' :=
  term_Depth.calls x (depthF x) W (by unfold term_Depth.f; rw [if_pos (by have := (h.small x hx).1; have := h.size; omega)])
set_option maxHeartbeats 8000000 in
set_option maxRecDepth 100000 in
theorem gemotlaw2_PartsAll.good (A0 : Option Addr) (c0 : Nat) (l0 : List S186) (a1 : Int) (out : List ByteArray) (q : Int) (a : ByteArray) (K own : List ByteArray) (w : World) (hr0 : Kd.C k186 w A0 l0.length l0) (hc0 : l0.length ≤ c0) (hm : gemotlaw2_made.f l0 = some out) (hp : gemotlaw2_pick.f a1 out.length = some q) (h0 : 0 ≤ q) (h1 : q < out.length) (hx : rdOf ByteArray.empty out q = a) (h : AllS a K own) :
    Calls Try.prog 14 #[.slice A0 l0.length c0, .int .i64 a1] w fun e w' => e = .returned (.bool true) ∧ Below w.heap.size w w' := by
  have HSh := Aside0.mk (fun W => gemotlaw2_shown.calls true W rfl)
  have HM := Aside0.mk (fun W (hb : Below w.heap.size w W) => gemotlaw2_made.calls A0 c0 l0 out W (Kd.C_below hr0 hb) hc0 hm)
  have HP := Aside0.mk (fun W => gemotlaw2_pick.calls a1 out.length q W hp)
  have HAa := Aside0.mk (fun W => parts_All.calls a K W h.has_all)
  have HOf := Aside0.mk (fun W => parts_Of.calls a own W h.has_own)
  have HX := Aside0.mk hx
  have H := Aside0.mk h
  have H01 := Aside0.mk (And.intro h0 h1)
  have p0 := eq_true h0
  have p1 := eq_true h1
  clear hr0 hc0 hm hp hx h h0 h1; go_enter Try.func14, Try.ntmps14
  go_upto_region 8 with (first
    | (go_at_call 70; go_loud (refine (HSh.out _).mono ?_; rintro e w1 ⟨rfl, hb⟩; have HB1 := Aside0.mk hb; clear hb))
    | (go_at_call 71; go_loud (refine (HM.out _ HB1.out).mono ?_; rintro e w2 ⟨v2, rfl, ho, hb⟩; obtain ⟨A2, c2, rfl⟩ := Kd.R_slice ho; have HC2 := Aside0.mk (Kd.R_reads' ho).2.2; have HB2 := Aside0.mk (below_step HB1.out hb); clear ho hb))
    | (go_at_call 72; (with_reducible refine (HP.out _).mono ?_); rintro e w' ⟨rfl, ⟨nd, rfl⟩⟩; obtain ⟨ad2, e2, hy2⟩ := Kd.at_string (Kd.C_drewN HC2.out nd) q H01.out.1 H01.out.2; cases e2; rw [HX.out] at hy2; have HB3 := Aside0.mk (pw_below_drewN HB2.out nd))
    | (go_at_call 73; go_loud (refine (HAa.out _).mono ?_; rintro e w4 ⟨v4, rfl, ho, hb⟩; obtain ⟨A4, c4, rfl⟩ := Kd.R_slice ho; have HC4 := Aside0.mk (Kd.R_reads' ho).2; have HB4 := Aside0.mk (below_step HB3.out hb); clear ho hb))
    | (go_at_call 74; go_loud (refine (HOf.out _).mono ?_; rintro e wS ⟨v5, rfl, ho, hb⟩; obtain ⟨A5, c5, rfl⟩ := Kd.R_slice ho; have HO := Aside0.mk (Kd.R_reads' ho).2; have HKc := Aside0.mk (show K.length ≤ c4 ∧ Kd.C Kd.string wS A4 K.length K from ⟨HC4.out.1, Kd.C_below HC4.out.2 hb⟩); have HBS := Aside0.mk (below_step HB4.out hb); clear ho hb)))
  clear HSh HM HP HAa HOf HX H01 p0 p1 HB1 HB2 HB3 HB4 HC2 HC4; try clear hy2
  go_wp2; go_loopg [10, 11] K.length (fun kq v10 v11 w' => ∃ (k : Nat), v11 = .int .i64 (k : Int) ∧ Aside0 (k + kq = K.length) ∧ v10 = .int .i64 (cntA a (K.take k)) ∧ Aside0 (Below wS.heap.size wS w'))
  case atStart => exact ⟨0, rfl, ⟨Nat.zero_add _⟩, rfl, ⟨Below.refl _ _⟩⟩
  case round =>
    obtain ⟨k, rfl, HK, rfl, HB⟩ := hrel; by_cases ck : k < K.length
    · obtain ⟨k1, rfl⟩ : ∃ k1, gk = k1 + 1 := ⟨gk - 1, by have := HK.out; omega⟩
      have cb : decide ((k : Int) < (K.length : Int)) = true := decide_eq_true (by omega)
      have cb2 : decide (k < K.length) = true := decide_eq_true ck
      have hw1 : IntKind.i64.wrap ((k : Int) + 1) = ((k + 1 : Nat) : Int) := by rw [i64_w]; unfold wrap64; have := H.out.few.1; omega
      obtain ⟨ad4, e4, hy⟩ := Kd.at_string (Kd.C_below HKc.out.2 HB.out) (k : Int) (by omega) (by omega)
      cases e4
      have hXm := rdB_mem ck
      have hcs := cnt_step H.out.srt a k ck
      have hXe := rdB_eq ck
      have hsl := fun h0 => srt_lt H.out.srt k h0 ck
      rw [← hXe] at hcs
      generalize rdOf ByteArray.empty K (k : Int) = X at hy hXm hcs hXe hsl
      have hsm := H.out.small X hXm
      have HDX := Aside0.mk (fun W => HH.run H.out X hXm W)
      have HDA := Aside0.mk (fun W => HH.run H.out a H.out.self W)
      have s1 : decide ((a.size : Int) < (X.size : Int)) = false := decide_eq_false (by omega)
      have s2 : decide (a.size < X.size) = false := decide_eq_false (by omega)
      have s3 : decide (depthF a < depthF X) = false := decide_eq_false (by omega)
      simp only [Int.toNat_natCast] at hy; have HY := Aside0.mk hy
      have HXm := Aside0.mk hXm
      have HCS := Aside0.mk hcs
      have HCK := Aside0.mk ck
      clear hsm hcs hXm hXe; go_upto_region 12 with (fail)
      go_cut [70] from 31 to 106 (fun v70 w' => v70 = .bool false ∧ Aside0 (Below wr.heap.size wr w'))
      case first =>
        by_cases c0k : k = 0
        case' pos =>
          have z0 : decide ((0 : Int) < (k : Int)) = false := decide_eq_false (by omega)
          have z1 : decide (0 < k) = false := decide_eq_false (by omega)
          clear c0k hsl; refine start_ (n := 34) (S := fun w' => Below wr.heap.size wr w') (ds := []) #[false, false, false, false, false, false, false, false, false, false, false, false, false, false, false, false, false, false, false, false, false, false, false, false, false, false, false, false, false, false, false, false, false, false] (by kernel_rfl) rfl rfl (below_drew1 (Below.refl _ _)) (fun hHeld => ?_)
          generalize hWd : wr.drew = Wd at hHeld ⊢
          clear hWd; refine pure_ (i := 0) (N := some 37) (v := ?_) (a' := ?_) #[true, false, false, false, false, false, false, false, false, false, false, false, false, false, false, false, false, false, false, false, false, false, false, false, false, false, false, false, false, false, false, false, false, false] rfl rfl (by kernel_rfl) (fun _ _ _ h => h) (Or.inl ⟨by rfl, ?_⟩) ?_ ?_
          rotate_left
          · intro w'; go_simp; with_reducible rfl
          rotate_left; · (simp only [Act.put, List.setIfInBounds_toArray, List.set_cons_zero, List.set_cons_succ, i64_w, i32_w]; rfl)
          refine pure_ (i := 1) (N := some 38) (v := ?_) (a' := ?_) #[true, true, false, false, false, false, false, false, false, false, false, false, false, false, false, false, false, false, false, false, false, false, false, false, false, false, false, false, false, false, false, false, false, false] rfl rfl (by kernel_rfl) (fun _ _ _ h => h) (Or.inl ⟨by rfl, ?_⟩) ?_ ?_
          rotate_left
          · intro w'; go_simp; with_reducible rfl
          rotate_left; · (simp only [Act.put, List.setIfInBounds_toArray, List.set_cons_zero, List.set_cons_succ, i64_w, i32_w]; rfl)
          refine pure_ (i := 2) (N := some 39) (v := ?_) (a' := ?_) #[true, true, true, false, false, false, false, false, false, false, false, false, false, false, false, false, false, false, false, false, false, false, false, false, false, false, false, false, false, false, false, false, false, false] rfl rfl (by kernel_rfl) (fun _ _ _ h => h) (Or.inl ⟨by rfl, ?_⟩) ?_ ?_
          rotate_left
          · intro w'; go_simp; with_reducible rfl
          rotate_left; · (simp only [Act.put, List.setIfInBounds_toArray, List.set_cons_zero, List.set_cons_succ, i64_w, i32_w]; rfl)
          refine pure_ (i := 3) (N := some 40) (v := undef) (a' := ?_) #[true, true, true, true, false, false, false, false, false, false, false, false, false, false, false, false, false, false, false, false, false, false, false, false, false, false, false, false, false, false, false, false, false, false] rfl rfl (by kernel_rfl) (fun _ _ _ h => h) (Or.inr ⟨by rfl, rfl⟩) ?_ ?_
          rotate_left; · (simp only [Act.put, List.setIfInBounds_toArray, List.set_cons_zero, List.set_cons_succ, i64_w, i32_w]; rfl)
          refine pure_ (i := 4) (N := some 41) (v := undef) (a' := ?_) #[true, true, true, true, true, false, false, false, false, false, false, false, false, false, false, false, false, false, false, false, false, false, false, false, false, false, false, false, false, false, false, false, false, false] rfl rfl (by kernel_rfl) (fun _ _ _ h => h) (Or.inr ⟨by rfl, rfl⟩) ?_ ?_
          rotate_left; · (simp only [Act.put, List.setIfInBounds_toArray, List.set_cons_zero, List.set_cons_succ, i64_w, i32_w]; rfl)
          refine pure_ (i := 5) (N := some 42) (v := undef) (a' := ?_) #[true, true, true, true, true, true, false, false, false, false, false, false, false, false, false, false, false, false, false, false, false, false, false, false, false, false, false, false, false, false, false, false, false, false] rfl rfl (by kernel_rfl) (fun _ _ _ h => h) (Or.inr ⟨by rfl, rfl⟩) ?_ ?_
          rotate_left; · (simp only [Act.put, List.setIfInBounds_toArray, List.set_cons_zero, List.set_cons_succ, i64_w, i32_w]; rfl)
          refine pure_ (i := 6) (N := some 43) (v := undef) (a' := ?_) #[true, true, true, true, true, true, true, false, false, false, false, false, false, false, false, false, false, false, false, false, false, false, false, false, false, false, false, false, false, false, false, false, false, false] rfl rfl (by kernel_rfl) (fun _ _ _ h => h) (Or.inr ⟨by rfl, rfl⟩) ?_ ?_
          rotate_left; · (simp only [Act.put, List.setIfInBounds_toArray, List.set_cons_zero, List.set_cons_succ, i64_w, i32_w]; rfl)
          refine pure_ (i := 7) (N := some 44) (v := undef) (a' := ?_) #[true, true, true, true, true, true, true, true, false, false, false, false, false, false, false, false, false, false, false, false, false, false, false, false, false, false, false, false, false, false, false, false, false, false] rfl rfl (by kernel_rfl) (fun _ _ _ h => h) (Or.inr ⟨by rfl, rfl⟩) ?_ ?_
          rotate_left; · (simp only [Act.put, List.setIfInBounds_toArray, List.set_cons_zero, List.set_cons_succ, i64_w, i32_w]; rfl)
          refine pure_ (i := 8) (N := some 45) (v := undef) (a' := ?_) #[true, true, true, true, true, true, true, true, true, false, false, false, false, false, false, false, false, false, false, false, false, false, false, false, false, false, false, false, false, false, false, false, false, false] rfl rfl (by kernel_rfl) (fun _ _ _ h => h) (Or.inr ⟨by rfl, rfl⟩) ?_ ?_
          rotate_left; · (simp only [Act.put, List.setIfInBounds_toArray, List.set_cons_zero, List.set_cons_succ, i64_w, i32_w]; rfl)
          refine pure_ (i := 9) (N := some 46) (v := undef) (a' := ?_) #[true, true, true, true, true, true, true, true, true, true, false, false, false, false, false, false, false, false, false, false, false, false, false, false, false, false, false, false, false, false, false, false, false, false] rfl rfl (by kernel_rfl) (fun _ _ _ h => h) (Or.inr ⟨by rfl, rfl⟩) ?_ ?_
          rotate_left; · (simp only [Act.put, List.setIfInBounds_toArray, List.set_cons_zero, List.set_cons_succ, i64_w, i32_w]; rfl)
          refine pure_ (i := 10) (N := some 47) (v := undef) (a' := ?_) #[true, true, true, true, true, true, true, true, true, true, true, false, false, false, false, false, false, false, false, false, false, false, false, false, false, false, false, false, false, false, false, false, false, false] rfl rfl (by kernel_rfl) (fun _ _ _ h => h) (Or.inr ⟨by rfl, rfl⟩) ?_ ?_
          rotate_left; · (simp only [Act.put, List.setIfInBounds_toArray, List.set_cons_zero, List.set_cons_succ, i64_w, i32_w]; rfl)
          refine pure_ (i := 11) (N := some 48) (v := undef) (a' := ?_) #[true, true, true, true, true, true, true, true, true, true, true, true, false, false, false, false, false, false, false, false, false, false, false, false, false, false, false, false, false, false, false, false, false, false] rfl rfl (by kernel_rfl) (fun _ _ _ h => h) (Or.inr ⟨by rfl, rfl⟩) ?_ ?_
          rotate_left; · (simp only [Act.put, List.setIfInBounds_toArray, List.set_cons_zero, List.set_cons_succ, i64_w, i32_w]; rfl)
          refine pure_ (i := 12) (N := some 49) (v := undef) (a' := ?_) #[true, true, true, true, true, true, true, true, true, true, true, true, true, false, false, false, false, false, false, false, false, false, false, false, false, false, false, false, false, false, false, false, false, false] rfl rfl (by kernel_rfl) (fun _ _ _ h => h) (Or.inr ⟨by rfl, rfl⟩) ?_ ?_
          rotate_left; · (simp only [Act.put, List.setIfInBounds_toArray, List.set_cons_zero, List.set_cons_succ, i64_w, i32_w]; rfl)
          refine pure_ (i := 13) (N := some 50) (v := ?_) (a' := ?_) #[true, true, true, true, true, true, true, true, true, true, true, true, true, true, false, false, false, false, false, false, false, false, false, false, false, false, false, false, false, false, false, false, false, false] rfl rfl (by kernel_rfl) (fun _ _ _ h => h) (Or.inl ⟨by rfl, ?_⟩) ?_ ?_
          rotate_left
          · intro w'; go_simp; with_reducible rfl
          rotate_left; · (simp only [Act.put, List.setIfInBounds_toArray, List.set_cons_zero, List.set_cons_succ, i64_w, i32_w]; rfl)
          refine pure_ (i := 14) (N := some 51) (v := ?_) (a' := ?_) #[true, true, true, true, true, true, true, true, true, true, true, true, true, true, true, false, false, false, false, false, false, false, false, false, false, false, false, false, false, false, false, false, false, false] rfl rfl (by kernel_rfl) (fun _ _ _ h => h) (Or.inl ⟨by rfl, ?_⟩) ?_ ?_
          rotate_left
          · intro w'; go_simp; with_reducible rfl
          rotate_left; · (simp only [Act.put, List.setIfInBounds_toArray, List.set_cons_zero, List.set_cons_succ, i64_w, i32_w]; rfl)
          refine pure_ (i := 15) (N := some 52) (v := ?_) (a' := ?_) #[true, true, true, true, true, true, true, true, true, true, true, true, true, true, true, true, false, false, false, false, false, false, false, false, false, false, false, false, false, false, false, false, false, false] rfl rfl (by kernel_rfl) (fun _ _ _ h => h) (Or.inl ⟨by rfl, ?_⟩) ?_ ?_
          rotate_left
          · intro w'; go_simp; with_reducible rfl
          rotate_left; · (simp only [Act.put, List.setIfInBounds_toArray, List.set_cons_zero, List.set_cons_succ, i64_w, i32_w]; rfl)
          refine pure_ (i := 16) (N := some 53) (v := ?_) (a' := ?_) #[true, true, true, true, true, true, true, true, true, true, true, true, true, true, true, true, true, false, false, false, false, false, false, false, false, false, false, false, false, false, false, false, false, false] rfl rfl (by kernel_rfl) (fun _ _ _ h => h) (Or.inl ⟨by rfl, ?_⟩) ?_ ?_
          rotate_left
          · intro w'; go_simp; with_reducible rfl
          rotate_left; · (simp only [Act.put, List.setIfInBounds_toArray, List.set_cons_zero, List.set_cons_succ, i64_w, i32_w]; rfl)
          refine pure_ (i := 17) (N := some 54) (v := ?_) (a' := ?_) #[true, true, true, true, true, true, true, true, true, true, true, true, true, true, true, true, true, true, false, false, false, false, false, false, false, false, false, false, false, false, false, false, false, false] rfl rfl (by kernel_rfl) (fun _ _ _ h => h) (Or.inl ⟨by rfl, ?_⟩) ?_ ?_
          rotate_left
          · intro w'; go_simp; with_reducible rfl
          rotate_left; · (simp only [Act.put, List.setIfInBounds_toArray, List.set_cons_zero, List.set_cons_succ, i64_w, i32_w]; rfl)
          refine take_ (i := 18) (N := some 55) (v := ?_) (a' := ?_) #[true, true, true, true, true, true, true, true, true, true, true, true, true, true, true, true, true, true, true, false, false, false, false, false, false, false, false, false, false, false, false, false, false, false] rfl rfl (by kernel_rfl) (fun _ _ _ h => h) (Or.inl ⟨by rfl, ?_⟩) hHeld ?_ ?_
          rotate_left
          · intro w' hs_; have s0_ := pw_cell_below hs_ HY.out; clear hs_; go_simp; with_reducible rfl
          rotate_left; · (simp only [Act.put, List.setIfInBounds_toArray, List.set_cons_zero, List.set_cons_succ, i64_w, i32_w]; rfl)
          refine pure_ (i := 19) (N := some 56) (v := ?_) (a' := ?_) #[true, true, true, true, true, true, true, true, true, true, true, true, true, true, true, true, true, true, true, true, false, false, false, false, false, false, false, false, false, false, false, false, false, false] rfl rfl (by kernel_rfl) (fun _ _ _ h => h) (Or.inl ⟨by rfl, ?_⟩) ?_ ?_
          rotate_left
          · intro w'; go_simp; with_reducible rfl
          rotate_left; · (simp only [Act.put, List.setIfInBounds_toArray, List.set_cons_zero, List.set_cons_succ, i64_w, i32_w]; rfl)
          refine pure_ (i := 20) (N := some 57) (v := ?_) (a' := ?_) #[true, true, true, true, true, true, true, true, true, true, true, true, true, true, true, true, true, true, true, true, true, false, false, false, false, false, false, false, false, false, false, false, false, false] rfl rfl (by kernel_rfl) (fun _ _ _ h => h) (Or.inl ⟨by rfl, ?_⟩) ?_ ?_
          rotate_left
          · intro w'; go_simp; with_reducible rfl
          rotate_left; · (simp only [Act.put, List.setIfInBounds_toArray, List.set_cons_zero, List.set_cons_succ, i64_w, i32_w]; rfl)
          refine pure_ (i := 21) (N := some 58) (v := ?_) (a' := ?_) #[true, true, true, true, true, true, true, true, true, true, true, true, true, true, true, true, true, true, true, true, true, true, false, false, false, false, false, false, false, false, false, false, false, false] rfl rfl (by kernel_rfl) (fun _ _ _ h => h) (Or.inl ⟨by rfl, ?_⟩) ?_ ?_
          rotate_left
          · intro w'; go_simp; with_reducible rfl
          rotate_left; · (simp only [Act.put, List.setIfInBounds_toArray, List.set_cons_zero, List.set_cons_succ, i64_w, i32_w]; rfl)
          refine pure_ (i := 22) (N := some 59) (v := ?_) (a' := ?_) #[true, true, true, true, true, true, true, true, true, true, true, true, true, true, true, true, true, true, true, true, true, true, true, false, false, false, false, false, false, false, false, false, false, false] rfl rfl (by kernel_rfl) (fun _ _ _ h => h) (Or.inl ⟨by rfl, ?_⟩) ?_ ?_
          rotate_left
          · intro w'; go_simp; with_reducible rfl
          rotate_left; · (simp only [Act.put, List.setIfInBounds_toArray, List.set_cons_zero, List.set_cons_succ, i64_w, i32_w]; rfl)
          refine pure_ (i := 23) (N := some 60) (v := ?_) (a' := ?_) #[true, true, true, true, true, true, true, true, true, true, true, true, true, true, true, true, true, true, true, true, true, true, true, true, false, false, false, false, false, false, false, false, false, false] rfl rfl (by kernel_rfl) (fun _ _ _ h => h) (Or.inl ⟨by rfl, ?_⟩) ?_ ?_
          rotate_left
          · intro w'; go_simp; with_reducible rfl
          rotate_left; · (simp only [Act.put, List.setIfInBounds_toArray, List.set_cons_zero, List.set_cons_succ, i64_w, i32_w]; rfl)
          refine pure_ (i := 24) (N := some 61) (v := ?_) (a' := ?_) #[true, true, true, true, true, true, true, true, true, true, true, true, true, true, true, true, true, true, true, true, true, true, true, true, true, false, false, false, false, false, false, false, false, false] rfl rfl (by kernel_rfl) (fun _ _ _ h => h) (Or.inl ⟨by rfl, ?_⟩) ?_ ?_
          rotate_left
          · intro w'; go_simp; with_reducible rfl
          rotate_left; · (simp only [Act.put, List.setIfInBounds_toArray, List.set_cons_zero, List.set_cons_succ, i64_w, i32_w]; rfl)
          refine pure_ (i := 25) (N := some 62) (v := ?_) (a' := ?_) #[true, true, true, true, true, true, true, true, true, true, true, true, true, true, true, true, true, true, true, true, true, true, true, true, true, true, false, false, false, false, false, false, false, false] rfl rfl (by kernel_rfl) (fun _ _ _ h => h) (Or.inl ⟨by rfl, ?_⟩) ?_ ?_
          rotate_left
          · intro w'; go_simp; with_reducible rfl
          rotate_left; · (simp only [Act.put, List.setIfInBounds_toArray, List.set_cons_zero, List.set_cons_succ, i64_w, i32_w]; rfl)
          refine pure_ (i := 26) (N := some 63) (v := ?_) (a' := ?_) #[true, true, true, true, true, true, true, true, true, true, true, true, true, true, true, true, true, true, true, true, true, true, true, true, true, true, true, false, false, false, false, false, false, false] rfl rfl (by kernel_rfl) (fun _ _ _ h => h) (Or.inl ⟨by rfl, ?_⟩) ?_ ?_
          rotate_left
          · intro w'; go_simp; with_reducible rfl
          rotate_left; · (simp only [Act.put, List.setIfInBounds_toArray, List.set_cons_zero, List.set_cons_succ, i64_w, i32_w]; rfl)
          refine pure_ (i := 27) (N := some 64) (v := ?_) (a' := ?_) #[true, true, true, true, true, true, true, true, true, true, true, true, true, true, true, true, true, true, true, true, true, true, true, true, true, true, true, true, false, false, false, false, false, false] rfl rfl (by kernel_rfl) (fun _ _ _ h => h) (Or.inl ⟨by rfl, ?_⟩) ?_ ?_
          rotate_left
          · intro w'; go_simp; with_reducible rfl
          rotate_left; · (simp only [Act.put, List.setIfInBounds_toArray, List.set_cons_zero, List.set_cons_succ, i64_w, i32_w]; rfl)
          refine take_ (i := 28) (N := some 65) (v := ?_) (a' := ?_) #[true, true, true, true, true, true, true, true, true, true, true, true, true, true, true, true, true, true, true, true, true, true, true, true, true, true, true, true, true, false, false, false, false, false] rfl rfl (by kernel_rfl) (fun _ _ _ h => h) (Or.inl ⟨by rfl, ?_⟩) hHeld ?_ ?_
          rotate_left
          · intro w' hs_; have s0_ := pw_cell_below hs_ HY.out; clear hs_; go_simp; with_reducible rfl
          rotate_left; · (simp only [Act.put, List.setIfInBounds_toArray, List.set_cons_zero, List.set_cons_succ, i64_w, i32_w]; rfl)
          refine pure_ (i := 30) (N := some 67) (v := ?_) (a' := ?_) #[true, true, true, true, true, true, true, true, true, true, true, true, true, true, true, true, true, true, true, true, true, true, true, true, true, true, true, true, true, false, true, false, false, false] rfl rfl (by kernel_rfl) (fun _ _ _ h => h) (Or.inl ⟨by rfl, ?_⟩) ?_ ?_
          rotate_left
          · intro w'; go_simp; with_reducible rfl
          rotate_left; · (simp only [Act.put, List.setIfInBounds_toArray, List.set_cons_zero, List.set_cons_succ, i64_w, i32_w]; rfl)
          refine one_ (i := 29) (N := some 66) #[true, true, true, true, true, true, true, true, true, true, true, true, true, true, true, true, true, true, true, true, true, true, true, true, true, true, true, true, true, true, true, false, false, false] rfl rfl (by kernel_rfl) (by decide) (fun K hK => ?_)
          refine goes_ Try.func75 (by kernel_rfl) rfl #[.string X] (by rfl) rfl rfl (by (try simp only [List.map_toArray, List.map_cons, List.map_nil]); first | done | rfl) ?_
          with_reducible refine (HDX.out _).mono ?_
          rintro e wq_29 ⟨rfl, hb⟩; refine ⟨_, rfl, ?_⟩
          refine hK.out _ _ (below_step hHeld hb) (fun hHeld => ?_)
          clear hK K; refine norm_ (a' := ?_) ?_ ?_
          rotate_left
          · show Act.put _ (some 66) _ = _
            (simp only [Act.put, List.setIfInBounds_toArray, List.set_cons_zero, List.set_cons_succ, i64_w, i32_w]; rfl)
          refine one_ (i := 31) (N := some 68) #[true, true, true, true, true, true, true, true, true, true, true, true, true, true, true, true, true, true, true, true, true, true, true, true, true, true, true, true, true, true, true, true, false, false] rfl rfl (by kernel_rfl) (by decide) (fun K hK => ?_)
          refine goes_ Try.func75 (by kernel_rfl) rfl #[.string a] (by rfl) rfl rfl (by (try simp only [List.map_toArray, List.map_cons, List.map_nil]); first | done | rfl) ?_
          with_reducible refine (HDA.out _).mono ?_
          rintro e wq_31 ⟨rfl, hb⟩; refine ⟨_, rfl, ?_⟩
          refine hK.out _ _ (below_step hHeld hb) (fun hHeld => ?_)
          clear hK K; refine norm_ (a' := ?_) ?_ ?_
          rotate_left
          · show Act.put _ (some 68) _ = _
            (simp only [Act.put, List.setIfInBounds_toArray, List.set_cons_zero, List.set_cons_succ, i64_w, i32_w]; rfl)
          refine pure_ (i := 32) (N := some 69) (v := ?_) (a' := ?_) #[true, true, true, true, true, true, true, true, true, true, true, true, true, true, true, true, true, true, true, true, true, true, true, true, true, true, true, true, true, true, true, true, true, false] rfl rfl (by kernel_rfl) (fun _ _ _ h => h) (Or.inl ⟨by rfl, ?_⟩) ?_ ?_
          rotate_left
          · intro w'; go_simp; with_reducible rfl
          rotate_left; · (simp only [Act.put, List.setIfInBounds_toArray, List.set_cons_zero, List.set_cons_succ, i64_w, i32_w]; rfl)
          refine pure_ (i := 33) (N := some 70) (v := ?_) (a' := ?_) #[true, true, true, true, true, true, true, true, true, true, true, true, true, true, true, true, true, true, true, true, true, true, true, true, true, true, true, true, true, true, true, true, true, true] rfl rfl (by kernel_rfl) (fun _ _ _ h => h) (Or.inl ⟨by rfl, ?_⟩) ?_ ?_
          rotate_left
          · intro w'; go_simp; with_reducible rfl
          rotate_left; · (simp only [Act.put, List.setIfInBounds_toArray, List.set_cons_zero, List.set_cons_succ, i64_w, i32_w]; rfl)
          refine done_ (by kernel_rfl) ?_
        case' neg =>
          have z0 : decide ((0 : Int) < (k : Int)) = true := decide_eq_true (by omega)
          have z1 : decide (0 < k) = true := decide_eq_true (by omega)
          obtain ⟨ad8, e8, hz⟩ := Kd.at_string (Kd.C_below HKc.out.2 HB.out) ((k - 1 : Nat) : Int) (by omega) (by omega)
          cases e8
          simp only [Int.toNat_natCast] at hz; have hk1 : k - 1 < K.length := by omega
          have hw5 : IntKind.i64.wrap ((k : Int) - 1) = ((k - 1 : Nat) : Int) := by rw [i64_w]; unfold wrap64; have := H.out.few.1; omega
          have hlt := hsl (by omega)
          generalize rdOf ByteArray.empty K ((k - 1 : Nat) : Int) = Z at hz hlt
          have hlf : Op.bytesLess X.toList Z.toList = false := (less_not _ _).mpr (fun h => List.lt_irrefl _ (List.lt_trans hlt h))
          have hle : (X.toList == Z.toList) = false := beq_eq_false_iff_ne.mpr (fun h => by rw [toList_ne.mp h] at hlt; exact List.lt_irrefl _ hlt)
          have HZ := Aside0.mk hz
          clear hlt c0k hz hsl; refine start_ (n := 34) (S := fun w' => Below wr.heap.size wr w') (ds := []) #[false, false, false, false, false, false, false, false, false, false, false, false, false, false, false, false, false, false, false, false, false, false, false, false, false, false, false, false, false, false, false, false, false, false] (by kernel_rfl) rfl rfl (below_drew1 (Below.refl _ _)) (fun hHeld => ?_)
          generalize hWd : wr.drew = Wd at hHeld ⊢
          clear hWd; refine pure_ (i := 0) (N := some 37) (v := ?_) (a' := ?_) #[true, false, false, false, false, false, false, false, false, false, false, false, false, false, false, false, false, false, false, false, false, false, false, false, false, false, false, false, false, false, false, false, false, false] rfl rfl (by kernel_rfl) (fun _ _ _ h => h) (Or.inl ⟨by rfl, ?_⟩) ?_ ?_
          rotate_left
          · intro w'; go_simp; with_reducible rfl
          rotate_left; · (simp only [Act.put, List.setIfInBounds_toArray, List.set_cons_zero, List.set_cons_succ, i64_w, i32_w]; rfl)
          refine pure_ (i := 1) (N := some 38) (v := ?_) (a' := ?_) #[true, true, false, false, false, false, false, false, false, false, false, false, false, false, false, false, false, false, false, false, false, false, false, false, false, false, false, false, false, false, false, false, false, false] rfl rfl (by kernel_rfl) (fun _ _ _ h => h) (Or.inl ⟨by rfl, ?_⟩) ?_ ?_
          rotate_left
          · intro w'; go_simp; with_reducible rfl
          rotate_left; · (simp only [Act.put, List.setIfInBounds_toArray, List.set_cons_zero, List.set_cons_succ, i64_w, i32_w]; rfl)
          refine pure_ (i := 2) (N := some 39) (v := ?_) (a' := ?_) #[true, true, true, false, false, false, false, false, false, false, false, false, false, false, false, false, false, false, false, false, false, false, false, false, false, false, false, false, false, false, false, false, false, false] rfl rfl (by kernel_rfl) (fun _ _ _ h => h) (Or.inl ⟨by rfl, ?_⟩) ?_ ?_
          rotate_left
          · intro w'; go_simp; with_reducible rfl
          rotate_left; · (simp only [Act.put, List.setIfInBounds_toArray, List.set_cons_zero, List.set_cons_succ, i64_w, i32_w]; rfl)
          refine pure_ (i := 3) (N := some 40) (v := ?_) (a' := ?_) #[true, true, true, true, false, false, false, false, false, false, false, false, false, false, false, false, false, false, false, false, false, false, false, false, false, false, false, false, false, false, false, false, false, false] rfl rfl (by kernel_rfl) (fun _ _ _ h => h) (Or.inl ⟨by rfl, ?_⟩) ?_ ?_
          rotate_left
          · intro w'; go_simp; with_reducible rfl
          rotate_left; · (simp only [Act.put, List.setIfInBounds_toArray, List.set_cons_zero, List.set_cons_succ, i64_w, i32_w]; rfl)
          refine pure_ (i := 4) (N := some 41) (v := ?_) (a' := ?_) #[true, true, true, true, true, false, false, false, false, false, false, false, false, false, false, false, false, false, false, false, false, false, false, false, false, false, false, false, false, false, false, false, false, false] rfl rfl (by kernel_rfl) (fun _ _ _ h => h) (Or.inl ⟨by rfl, ?_⟩) ?_ ?_
          rotate_left
          · intro w'; go_simp; with_reducible rfl
          rotate_left; · (simp only [Act.put, List.setIfInBounds_toArray, List.set_cons_zero, List.set_cons_succ, i64_w, i32_w]; rfl)
          refine pure_ (i := 5) (N := some 42) (v := ?_) (a' := ?_) #[true, true, true, true, true, true, false, false, false, false, false, false, false, false, false, false, false, false, false, false, false, false, false, false, false, false, false, false, false, false, false, false, false, false] rfl rfl (by kernel_rfl) (fun _ _ _ h => h) (Or.inl ⟨by rfl, ?_⟩) ?_ ?_
          rotate_left
          · intro w'; go_simp; with_reducible rfl
          rotate_left; · (simp only [Act.put, List.setIfInBounds_toArray, List.set_cons_zero, List.set_cons_succ, i64_w, i32_w]; rfl)
          refine take_ (i := 6) (N := some 43) (v := ?_) (a' := ?_) #[true, true, true, true, true, true, true, false, false, false, false, false, false, false, false, false, false, false, false, false, false, false, false, false, false, false, false, false, false, false, false, false, false, false] rfl rfl (by kernel_rfl) (fun _ _ _ h => h) (Or.inl ⟨by rfl, ?_⟩) hHeld ?_ ?_
          rotate_left
          · intro w' hs_; have s0_ := pw_cell_below hs_ HY.out; clear hs_; go_simp; with_reducible rfl
          rotate_left; · (simp only [Act.put, List.setIfInBounds_toArray, List.set_cons_zero, List.set_cons_succ, i64_w, i32_w]; rfl)
          refine pure_ (i := 7) (N := some 44) (v := ?_) (a' := ?_) #[true, true, true, true, true, true, true, true, false, false, false, false, false, false, false, false, false, false, false, false, false, false, false, false, false, false, false, false, false, false, false, false, false, false] rfl rfl (by kernel_rfl) (fun _ _ _ h => h) (Or.inl ⟨by rfl, ?_⟩) ?_ ?_
          rotate_left
          · intro w'; go_simp; with_reducible rfl
          rotate_left; · (simp only [Act.put, List.setIfInBounds_toArray, List.set_cons_zero, List.set_cons_succ, i64_w, i32_w]; rfl)
          refine pure_ (i := 8) (N := some 45) (v := ?_) (a' := ?_) #[true, true, true, true, true, true, true, true, true, false, false, false, false, false, false, false, false, false, false, false, false, false, false, false, false, false, false, false, false, false, false, false, false, false] rfl rfl (by kernel_rfl) (fun _ _ _ h => h) (Or.inl ⟨by rfl, ?_⟩) ?_ ?_
          rotate_left
          · intro w'; go_simp; with_reducible rfl
          rotate_left; · (simp only [Act.put, List.setIfInBounds_toArray, List.set_cons_zero, List.set_cons_succ, i64_w, i32_w]; rfl)
          refine pure_ (i := 9) (N := some 46) (v := ?_) (a' := ?_) #[true, true, true, true, true, true, true, true, true, true, false, false, false, false, false, false, false, false, false, false, false, false, false, false, false, false, false, false, false, false, false, false, false, false] rfl rfl (by kernel_rfl) (fun _ _ _ h => h) (Or.inl ⟨by rfl, ?_⟩) ?_ ?_
          rotate_left
          · intro w'; go_simp; with_reducible rfl
          rotate_left; · (simp only [Act.put, List.setIfInBounds_toArray, List.set_cons_zero, List.set_cons_succ, i64_w, i32_w]; rfl)
          refine pure_ (i := 10) (N := some 47) (v := ?_) (a' := ?_) #[true, true, true, true, true, true, true, true, true, true, true, false, false, false, false, false, false, false, false, false, false, false, false, false, false, false, false, false, false, false, false, false, false, false] rfl rfl (by kernel_rfl) (fun _ _ _ h => h) (Or.inl ⟨by rfl, ?_⟩) ?_ ?_
          rotate_left
          · intro w'; go_simp; with_reducible rfl
          rotate_left; · (simp only [Act.put, List.setIfInBounds_toArray, List.set_cons_zero, List.set_cons_succ, i64_w, i32_w]; rfl)
          refine take_ (i := 11) (N := some 48) (v := ?_) (a' := ?_) #[true, true, true, true, true, true, true, true, true, true, true, true, false, false, false, false, false, false, false, false, false, false, false, false, false, false, false, false, false, false, false, false, false, false] rfl rfl (by kernel_rfl) (fun _ _ _ h => h) (Or.inl ⟨by rfl, ?_⟩) hHeld ?_ ?_
          rotate_left
          · intro w' hs_; have s0_ := pw_cell_below hs_ HZ.out; clear hs_; go_simp; with_reducible rfl
          rotate_left; · (simp only [Act.put, List.setIfInBounds_toArray, List.set_cons_zero, List.set_cons_succ, i64_w, i32_w]; rfl)
          refine pure_ (i := 12) (N := some 49) (v := ?_) (a' := ?_) #[true, true, true, true, true, true, true, true, true, true, true, true, true, false, false, false, false, false, false, false, false, false, false, false, false, false, false, false, false, false, false, false, false, false] rfl rfl (by kernel_rfl) (fun _ _ _ h => h) (Or.inl ⟨by rfl, ?_⟩) ?_ ?_
          rotate_left
          · intro w'; go_simp; with_reducible rfl
          rotate_left; · (simp only [Act.put, List.setIfInBounds_toArray, List.set_cons_zero, List.set_cons_succ, i64_w, i32_w]; rfl)
          refine pure_ (i := 13) (N := some 50) (v := ?_) (a' := ?_) #[true, true, true, true, true, true, true, true, true, true, true, true, true, true, false, false, false, false, false, false, false, false, false, false, false, false, false, false, false, false, false, false, false, false] rfl rfl (by kernel_rfl) (fun _ _ _ h => h) (Or.inl ⟨by rfl, ?_⟩) ?_ ?_
          rotate_left
          · intro w'; go_simp; with_reducible rfl
          rotate_left; · (simp only [Act.put, List.setIfInBounds_toArray, List.set_cons_zero, List.set_cons_succ, i64_w, i32_w]; rfl)
          refine pure_ (i := 14) (N := some 51) (v := ?_) (a' := ?_) #[true, true, true, true, true, true, true, true, true, true, true, true, true, true, true, false, false, false, false, false, false, false, false, false, false, false, false, false, false, false, false, false, false, false] rfl rfl (by kernel_rfl) (fun _ _ _ h => h) (Or.inl ⟨by rfl, ?_⟩) ?_ ?_
          rotate_left
          · intro w'; go_simp; with_reducible rfl
          rotate_left; · (simp only [Act.put, List.setIfInBounds_toArray, List.set_cons_zero, List.set_cons_succ, i64_w, i32_w]; rfl)
          refine pure_ (i := 15) (N := some 52) (v := ?_) (a' := ?_) #[true, true, true, true, true, true, true, true, true, true, true, true, true, true, true, true, false, false, false, false, false, false, false, false, false, false, false, false, false, false, false, false, false, false] rfl rfl (by kernel_rfl) (fun _ _ _ h => h) (Or.inl ⟨by rfl, ?_⟩) ?_ ?_
          rotate_left
          · intro w'; go_simp; with_reducible rfl
          rotate_left; · (simp only [Act.put, List.setIfInBounds_toArray, List.set_cons_zero, List.set_cons_succ, i64_w, i32_w]; rfl)
          refine pure_ (i := 16) (N := some 53) (v := ?_) (a' := ?_) #[true, true, true, true, true, true, true, true, true, true, true, true, true, true, true, true, true, false, false, false, false, false, false, false, false, false, false, false, false, false, false, false, false, false] rfl rfl (by kernel_rfl) (fun _ _ _ h => h) (Or.inl ⟨by rfl, ?_⟩) ?_ ?_
          rotate_left
          · intro w'; go_simp; with_reducible rfl
          rotate_left; · (simp only [Act.put, List.setIfInBounds_toArray, List.set_cons_zero, List.set_cons_succ, i64_w, i32_w]; rfl)
          refine pure_ (i := 17) (N := some 54) (v := ?_) (a' := ?_) #[true, true, true, true, true, true, true, true, true, true, true, true, true, true, true, true, true, true, false, false, false, false, false, false, false, false, false, false, false, false, false, false, false, false] rfl rfl (by kernel_rfl) (fun _ _ _ h => h) (Or.inl ⟨by rfl, ?_⟩) ?_ ?_
          rotate_left
          · intro w'; go_simp; with_reducible rfl
          rotate_left; · (simp only [Act.put, List.setIfInBounds_toArray, List.set_cons_zero, List.set_cons_succ, i64_w, i32_w]; rfl)
          refine take_ (i := 18) (N := some 55) (v := ?_) (a' := ?_) #[true, true, true, true, true, true, true, true, true, true, true, true, true, true, true, true, true, true, true, false, false, false, false, false, false, false, false, false, false, false, false, false, false, false] rfl rfl (by kernel_rfl) (fun _ _ _ h => h) (Or.inl ⟨by rfl, ?_⟩) hHeld ?_ ?_
          rotate_left
          · intro w' hs_; have s0_ := pw_cell_below hs_ HY.out; clear hs_; go_simp; with_reducible rfl
          rotate_left; · (simp only [Act.put, List.setIfInBounds_toArray, List.set_cons_zero, List.set_cons_succ, i64_w, i32_w]; rfl)
          refine pure_ (i := 19) (N := some 56) (v := ?_) (a' := ?_) #[true, true, true, true, true, true, true, true, true, true, true, true, true, true, true, true, true, true, true, true, false, false, false, false, false, false, false, false, false, false, false, false, false, false] rfl rfl (by kernel_rfl) (fun _ _ _ h => h) (Or.inl ⟨by rfl, ?_⟩) ?_ ?_
          rotate_left
          · intro w'; go_simp; with_reducible rfl
          rotate_left; · (simp only [Act.put, List.setIfInBounds_toArray, List.set_cons_zero, List.set_cons_succ, i64_w, i32_w]; rfl)
          refine pure_ (i := 20) (N := some 57) (v := ?_) (a' := ?_) #[true, true, true, true, true, true, true, true, true, true, true, true, true, true, true, true, true, true, true, true, true, false, false, false, false, false, false, false, false, false, false, false, false, false] rfl rfl (by kernel_rfl) (fun _ _ _ h => h) (Or.inl ⟨by rfl, ?_⟩) ?_ ?_
          rotate_left
          · intro w'; go_simp; with_reducible rfl
          rotate_left; · (simp only [Act.put, List.setIfInBounds_toArray, List.set_cons_zero, List.set_cons_succ, i64_w, i32_w]; rfl)
          refine pure_ (i := 21) (N := some 58) (v := ?_) (a' := ?_) #[true, true, true, true, true, true, true, true, true, true, true, true, true, true, true, true, true, true, true, true, true, true, false, false, false, false, false, false, false, false, false, false, false, false] rfl rfl (by kernel_rfl) (fun _ _ _ h => h) (Or.inl ⟨by rfl, ?_⟩) ?_ ?_
          rotate_left
          · intro w'; go_simp; with_reducible rfl
          rotate_left; · (simp only [Act.put, List.setIfInBounds_toArray, List.set_cons_zero, List.set_cons_succ, i64_w, i32_w]; rfl)
          refine pure_ (i := 22) (N := some 59) (v := ?_) (a' := ?_) #[true, true, true, true, true, true, true, true, true, true, true, true, true, true, true, true, true, true, true, true, true, true, true, false, false, false, false, false, false, false, false, false, false, false] rfl rfl (by kernel_rfl) (fun _ _ _ h => h) (Or.inl ⟨by rfl, ?_⟩) ?_ ?_
          rotate_left
          · intro w'; go_simp; with_reducible rfl
          rotate_left; · (simp only [Act.put, List.setIfInBounds_toArray, List.set_cons_zero, List.set_cons_succ, i64_w, i32_w]; rfl)
          refine pure_ (i := 23) (N := some 60) (v := ?_) (a' := ?_) #[true, true, true, true, true, true, true, true, true, true, true, true, true, true, true, true, true, true, true, true, true, true, true, true, false, false, false, false, false, false, false, false, false, false] rfl rfl (by kernel_rfl) (fun _ _ _ h => h) (Or.inl ⟨by rfl, ?_⟩) ?_ ?_
          rotate_left
          · intro w'; go_simp; with_reducible rfl
          rotate_left; · (simp only [Act.put, List.setIfInBounds_toArray, List.set_cons_zero, List.set_cons_succ, i64_w, i32_w]; rfl)
          refine pure_ (i := 24) (N := some 61) (v := ?_) (a' := ?_) #[true, true, true, true, true, true, true, true, true, true, true, true, true, true, true, true, true, true, true, true, true, true, true, true, true, false, false, false, false, false, false, false, false, false] rfl rfl (by kernel_rfl) (fun _ _ _ h => h) (Or.inl ⟨by rfl, ?_⟩) ?_ ?_
          rotate_left
          · intro w'; go_simp; with_reducible rfl
          rotate_left; · (simp only [Act.put, List.setIfInBounds_toArray, List.set_cons_zero, List.set_cons_succ, i64_w, i32_w]; rfl)
          refine pure_ (i := 25) (N := some 62) (v := ?_) (a' := ?_) #[true, true, true, true, true, true, true, true, true, true, true, true, true, true, true, true, true, true, true, true, true, true, true, true, true, true, false, false, false, false, false, false, false, false] rfl rfl (by kernel_rfl) (fun _ _ _ h => h) (Or.inl ⟨by rfl, ?_⟩) ?_ ?_
          rotate_left
          · intro w'; go_simp; with_reducible rfl
          rotate_left; · (simp only [Act.put, List.setIfInBounds_toArray, List.set_cons_zero, List.set_cons_succ, i64_w, i32_w]; rfl)
          refine pure_ (i := 26) (N := some 63) (v := ?_) (a' := ?_) #[true, true, true, true, true, true, true, true, true, true, true, true, true, true, true, true, true, true, true, true, true, true, true, true, true, true, true, false, false, false, false, false, false, false] rfl rfl (by kernel_rfl) (fun _ _ _ h => h) (Or.inl ⟨by rfl, ?_⟩) ?_ ?_
          rotate_left
          · intro w'; go_simp; with_reducible rfl
          rotate_left; · (simp only [Act.put, List.setIfInBounds_toArray, List.set_cons_zero, List.set_cons_succ, i64_w, i32_w]; rfl)
          refine pure_ (i := 27) (N := some 64) (v := ?_) (a' := ?_) #[true, true, true, true, true, true, true, true, true, true, true, true, true, true, true, true, true, true, true, true, true, true, true, true, true, true, true, true, false, false, false, false, false, false] rfl rfl (by kernel_rfl) (fun _ _ _ h => h) (Or.inl ⟨by rfl, ?_⟩) ?_ ?_
          rotate_left
          · intro w'; go_simp; with_reducible rfl
          rotate_left; · (simp only [Act.put, List.setIfInBounds_toArray, List.set_cons_zero, List.set_cons_succ, i64_w, i32_w]; rfl)
          refine take_ (i := 28) (N := some 65) (v := ?_) (a' := ?_) #[true, true, true, true, true, true, true, true, true, true, true, true, true, true, true, true, true, true, true, true, true, true, true, true, true, true, true, true, true, false, false, false, false, false] rfl rfl (by kernel_rfl) (fun _ _ _ h => h) (Or.inl ⟨by rfl, ?_⟩) hHeld ?_ ?_
          rotate_left
          · intro w' hs_; have s0_ := pw_cell_below hs_ HY.out; clear hs_; go_simp; with_reducible rfl
          rotate_left; · (simp only [Act.put, List.setIfInBounds_toArray, List.set_cons_zero, List.set_cons_succ, i64_w, i32_w]; rfl)
          refine pure_ (i := 30) (N := some 67) (v := ?_) (a' := ?_) #[true, true, true, true, true, true, true, true, true, true, true, true, true, true, true, true, true, true, true, true, true, true, true, true, true, true, true, true, true, false, true, false, false, false] rfl rfl (by kernel_rfl) (fun _ _ _ h => h) (Or.inl ⟨by rfl, ?_⟩) ?_ ?_
          rotate_left
          · intro w'; go_simp; with_reducible rfl
          rotate_left; · (simp only [Act.put, List.setIfInBounds_toArray, List.set_cons_zero, List.set_cons_succ, i64_w, i32_w]; rfl)
          refine one_ (i := 29) (N := some 66) #[true, true, true, true, true, true, true, true, true, true, true, true, true, true, true, true, true, true, true, true, true, true, true, true, true, true, true, true, true, true, true, false, false, false] rfl rfl (by kernel_rfl) (by decide) (fun K hK => ?_)
          refine goes_ Try.func75 (by kernel_rfl) rfl #[.string X] (by rfl) rfl rfl (by (try simp only [List.map_toArray, List.map_cons, List.map_nil]); first | done | rfl) ?_
          with_reducible refine (HDX.out _).mono ?_
          rintro e wq_29 ⟨rfl, hb⟩; refine ⟨_, rfl, ?_⟩
          refine hK.out _ _ (below_step hHeld hb) (fun hHeld => ?_)
          clear hK K; refine norm_ (a' := ?_) ?_ ?_
          rotate_left
          · show Act.put _ (some 66) _ = _
            (simp only [Act.put, List.setIfInBounds_toArray, List.set_cons_zero, List.set_cons_succ, i64_w, i32_w]; rfl)
          refine one_ (i := 31) (N := some 68) #[true, true, true, true, true, true, true, true, true, true, true, true, true, true, true, true, true, true, true, true, true, true, true, true, true, true, true, true, true, true, true, true, false, false] rfl rfl (by kernel_rfl) (by decide) (fun K hK => ?_)
          refine goes_ Try.func75 (by kernel_rfl) rfl #[.string a] (by rfl) rfl rfl (by (try simp only [List.map_toArray, List.map_cons, List.map_nil]); first | done | rfl) ?_
          with_reducible refine (HDA.out _).mono ?_
          rintro e wq_31 ⟨rfl, hb⟩; refine ⟨_, rfl, ?_⟩
          refine hK.out _ _ (below_step hHeld hb) (fun hHeld => ?_)
          clear hK K; refine norm_ (a' := ?_) ?_ ?_
          rotate_left
          · show Act.put _ (some 68) _ = _
            (simp only [Act.put, List.setIfInBounds_toArray, List.set_cons_zero, List.set_cons_succ, i64_w, i32_w]; rfl)
          refine pure_ (i := 32) (N := some 69) (v := ?_) (a' := ?_) #[true, true, true, true, true, true, true, true, true, true, true, true, true, true, true, true, true, true, true, true, true, true, true, true, true, true, true, true, true, true, true, true, true, false] rfl rfl (by kernel_rfl) (fun _ _ _ h => h) (Or.inl ⟨by rfl, ?_⟩) ?_ ?_
          rotate_left
          · intro w'; go_simp; with_reducible rfl
          rotate_left; · (simp only [Act.put, List.setIfInBounds_toArray, List.set_cons_zero, List.set_cons_succ, i64_w, i32_w]; rfl)
          refine pure_ (i := 33) (N := some 70) (v := ?_) (a' := ?_) #[true, true, true, true, true, true, true, true, true, true, true, true, true, true, true, true, true, true, true, true, true, true, true, true, true, true, true, true, true, true, true, true, true, true] rfl rfl (by kernel_rfl) (fun _ _ _ h => h) (Or.inl ⟨by rfl, ?_⟩) ?_ ?_
          rotate_left
          · intro w'; go_simp; with_reducible rfl
          rotate_left; · (simp only [Act.put, List.setIfInBounds_toArray, List.set_cons_zero, List.set_cons_succ, i64_w, i32_w]; rfl)
          refine done_ (by kernel_rfl) ?_
        all_goals
          go_wp2; go_meet
          case rel => exact ⟨rfl, ⟨hHeld⟩⟩
      case rest =>
        obtain ⟨rfl, HBc⟩ := hcut; clear hsl HDX HDA s1 s2 s3; have hy := pw_cell_below HBc.out HY.out
        obtain ⟨bx, hbx⟩ : ∃ b, (X.toList == a.toList) = b := ⟨_, rfl⟩
        have HBX := Aside0.mk (show bx = true → X = a from fun e => toList_ne.mp (beq_iff_eq.mp (hbx.trans e)))
        have HBN := Aside0.mk (show bx = false → X ≠ a from fun e f => by rw [f, beq_self_eq_true] at hbx; rw [← hbx] at e; cases e)
        go_upto_block 2 with (fail)
        go_cut [12] from 31 to 106 (fun v12 w' => v12 = .bool true ∧ Aside0 (Below wr.heap.size wr w'))
        case first =>
          clear hy; go_wp2; go_loopg [12, 13] own.length (fun kq v12 v13 w' => ∃ (j : Nat) (b : Bool), v13 = .int .i64 (j : Int) ∧ v12 = .bool b ∧ Aside0 (j + kq = own.length) ∧ Aside0 (b = true ∨ ∃ y ∈ own.drop j, X ∈ allK y) ∧ Aside0 (Below wr.heap.size wr w'))
          case atStart =>
            refine ⟨0, bx, rfl, rfl, ⟨Nat.zero_add _⟩, ⟨?_⟩, HBc⟩
            cases hb : bx with
            | true => exact .inl rfl
            | false =>
              rcases H.out.part X HXm.out with e | e
              · exact absurd e (HBN.out hb)
              · exact .inr e
          case round =>
            clear HBc; obtain ⟨j, b, rfl, rfl, HJ, HS, HBj⟩ := hrel; cases b with
            | true =>
              by_cases cj : j < own.length
              case' pos =>
                have d1 : decide ((j : Int) < (own.length : Int)) = true := decide_eq_true (by omega)
                have d2 : decide (j < own.length) = true := decide_eq_true cj
              case' neg =>
                have d1 : decide ((j : Int) < (own.length : Int)) = false := decide_eq_false (by omega)
                have d2 : decide (j < own.length) = false := decide_eq_false cj
              all_goals
                clear cj; go_wp2; go_meet
                case rel => exact ⟨rfl, HBj⟩
            | false =>
              obtain ⟨y, hym, hyX⟩ := HS.out.resolve_left (by decide)
              have cj : j < own.length := by
                rcases Nat.lt_or_ge j own.length with c | c
                · exact c
                · rw [List.drop_eq_nil_of_le c] at hym
                  cases hym
              obtain ⟨k2, rfl⟩ : ∃ k2, gk = k2 + 1 := ⟨gk - 1, by have := HJ.out; omega⟩
              have d1 : decide ((j : Int) < (own.length : Int)) = true := decide_eq_true (by omega)
              have d2 : decide (j < own.length) = true := decide_eq_true cj
              have hw6 : IntKind.i64.wrap ((j : Int) + 1) = ((j + 1 : Nat) : Int) := by rw [i64_w]; unfold wrap64; have := H.out.few.2; omega
              obtain ⟨ad5, e5, hyo⟩ := Kd.at_string (Kd.C_below (Kd.C_below HO.out.2 HB.out) HBj.out) (j : Int) (by omega) (by omega)
              cases e5
              have hYm := rdB_mem cj
              have hYe := rdB_eq cj
              have hdr : own.drop j = own[j] :: own.drop (j + 1) := List.drop_eq_getElem_cons cj
              rw [← hYe] at hdr
              generalize rdOf ByteArray.empty own (j : Int) = Y at hyo hYm hYe hdr
              rw [hdr] at hym
              have HAl := Aside0.mk (fun W => parts_All.calls Y (allK Y) W (H.out.kid Y hYm))
              obtain ⟨bj, hbj⟩ : ∃ b, ((allK Y).any fun x => decide (x = X)) = b := ⟨_, rfl⟩
              have HHa := Aside0.mk (fun W (AA : Option Addr) (cA : Nat) (h : Kd.C Kd.string W AA (allK Y).length (allK Y)) (hc : (allK Y).length ≤ cA) => gemotlaw2_has.calls AA cA (allK Y) X bj W h hc (congrArg some hbj))
              have HNX := Aside0.mk (show bj = true ∨ ∃ y ∈ own.drop (j + 1), X ∈ allK y from by
                cases hb : bj with
                | true => exact .inl rfl
                | false =>
                  rcases List.mem_cons.mp hym with e | e
                  · rw [hb, List.any_eq_false] at hbj
                    rw [← e] at hbj
                    exact absurd (decide_eq_true rfl) (hbj X hyX)
                  · exact .inr ⟨y, e, hyX⟩)
              simp only [Int.toNat_natCast] at hyo; have HYo := Aside0.mk hyo
              replace HY := Aside0.mk (pw_cell_below HBj.out HY.out)
              have HCJ := Aside0.mk cj
              clear hym hyX hdr hYm hYe hbj hyo; go_upto_region 18 with (fail)
              clear d1 d2 cb cb2; refine start_ (n := 11) (S := fun w' => Below wr.heap.size wr w') (ds := []) #[false, false, false, false, false, false, false, false, false, false, false] (by kernel_rfl) rfl rfl (below_drew1 (Below.refl _ _)) (fun hHeld => ?_)
              generalize hWd : wr.drew = Wd at hHeld ⊢
              clear hWd; refine pure_ (i := 0) (N := some 87) (v := ?_) (a' := ?_) #[true, false, false, false, false, false, false, false, false, false, false] rfl rfl (by kernel_rfl) (fun _ _ _ h => h) (Or.inl ⟨by rfl, ?_⟩) ?_ ?_
              rotate_left
              · intro w'; go_simp; with_reducible rfl
              rotate_left; · (simp only [Act.put, List.setIfInBounds_toArray, List.set_cons_zero, List.set_cons_succ, i64_w, i32_w]; rfl)
              refine pure_ (i := 1) (N := some 88) (v := ?_) (a' := ?_) #[true, true, false, false, false, false, false, false, false, false, false] rfl rfl (by kernel_rfl) (fun _ _ _ h => h) (Or.inl ⟨by rfl, ?_⟩) ?_ ?_
              rotate_left
              · intro w'; go_simp; with_reducible rfl
              rotate_left; · (simp only [Act.put, List.setIfInBounds_toArray, List.set_cons_zero, List.set_cons_succ, i64_w, i32_w]; rfl)
              refine pure_ (i := 2) (N := some 89) (v := ?_) (a' := ?_) #[true, true, true, false, false, false, false, false, false, false, false] rfl rfl (by kernel_rfl) (fun _ _ _ h => h) (Or.inl ⟨by rfl, ?_⟩) ?_ ?_
              rotate_left
              · intro w'; go_simp; with_reducible rfl
              rotate_left; · (simp only [Act.put, List.setIfInBounds_toArray, List.set_cons_zero, List.set_cons_succ, i64_w, i32_w]; rfl)
              refine take_ (i := 3) (N := some 90) (v := ?_) (a' := ?_) #[true, true, true, true, false, false, false, false, false, false, false] rfl rfl (by kernel_rfl) (fun _ _ _ h => h) (Or.inl ⟨by rfl, ?_⟩) hHeld ?_ ?_
              rotate_left
              · intro w' hs_; have s0_ := pw_cell_below hs_ HYo.out; clear hs_; go_simp; with_reducible rfl
              rotate_left; · (simp only [Act.put, List.setIfInBounds_toArray, List.set_cons_zero, List.set_cons_succ, i64_w, i32_w]; rfl)
              refine pure_ (i := 5) (N := some 92) (v := ?_) (a' := ?_) #[true, true, true, true, false, true, false, false, false, false, false] rfl rfl (by kernel_rfl) (fun _ _ _ h => h) (Or.inl ⟨by rfl, ?_⟩) ?_ ?_
              rotate_left
              · intro w'; go_simp; with_reducible rfl
              rotate_left; · (simp only [Act.put, List.setIfInBounds_toArray, List.set_cons_zero, List.set_cons_succ, i64_w, i32_w]; rfl)
              refine pure_ (i := 6) (N := some 93) (v := ?_) (a' := ?_) #[true, true, true, true, false, true, true, false, false, false, false] rfl rfl (by kernel_rfl) (fun _ _ _ h => h) (Or.inl ⟨by rfl, ?_⟩) ?_ ?_
              rotate_left
              · intro w'; go_simp; with_reducible rfl
              rotate_left; · (simp only [Act.put, List.setIfInBounds_toArray, List.set_cons_zero, List.set_cons_succ, i64_w, i32_w]; rfl)
              refine pure_ (i := 7) (N := some 94) (v := ?_) (a' := ?_) #[true, true, true, true, false, true, true, true, false, false, false] rfl rfl (by kernel_rfl) (fun _ _ _ h => h) (Or.inl ⟨by rfl, ?_⟩) ?_ ?_
              rotate_left
              · intro w'; go_simp; with_reducible rfl
              rotate_left; · (simp only [Act.put, List.setIfInBounds_toArray, List.set_cons_zero, List.set_cons_succ, i64_w, i32_w]; rfl)
              refine take_ (i := 8) (N := some 95) (v := ?_) (a' := ?_) #[true, true, true, true, false, true, true, true, true, false, false] rfl rfl (by kernel_rfl) (fun _ _ _ h => h) (Or.inl ⟨by rfl, ?_⟩) hHeld ?_ ?_
              rotate_left
              · intro w' hs_; have s0_ := pw_cell_below hs_ HY.out; clear hs_; go_simp; with_reducible rfl
              rotate_left; · (simp only [Act.put, List.setIfInBounds_toArray, List.set_cons_zero, List.set_cons_succ, i64_w, i32_w]; rfl)
              refine one_ (i := 4) (N := some 91) #[true, true, true, true, true, true, true, true, true, false, false] rfl rfl (by kernel_rfl) (by decide) (fun K hK => ?_)
              refine goes_ Try.func73 (by kernel_rfl) rfl #[.string Y] (by rfl) rfl rfl (by (try simp only [List.map_toArray, List.map_cons, List.map_nil]); first | done | rfl) ?_
              with_reducible refine (HAl.out _).mono ?_
              rintro e wA ⟨vA, rfl, hl, hb⟩; obtain ⟨AA, cA, rfl⟩ := Kd.R_slice hl; have HLA := Aside0.mk (Kd.R_reads' hl).2; clear hl
              refine ⟨_, rfl, ?_⟩
              refine hK.out _ _ (below_step hHeld hb) (fun hHeld => ?_)
              clear hK K; refine norm_ (a' := ?_) ?_ ?_
              rotate_left
              · show Act.put _ (some 91) _ = _
                (simp only [Act.put, List.setIfInBounds_toArray, List.set_cons_zero, List.set_cons_succ, i64_w, i32_w]; rfl)
              refine one_ (i := 9) (N := some 96) #[true, true, true, true, true, true, true, true, true, true, false] rfl rfl (by kernel_rfl) (by decide) (fun K hK => ?_)
              refine goes_ Try.func76 (by kernel_rfl) rfl #[.slice AA (allK Y).length cA, .string X] (by rfl) rfl rfl (by (try simp only [List.map_toArray, List.map_cons, List.map_nil]); first | done | rfl) ?_
              with_reducible refine (HHa.out _ AA cA HLA.out.2 HLA.out.1).mono ?_
              rintro e w' ⟨rfl, ⟨nd_, rfl⟩⟩; refine ⟨_, rfl, ?_⟩
              refine hK.out _ _ (pw_below_drewN hHeld nd_) (fun hHeld => ?_)
              clear hK K; refine norm_ (a' := ?_) ?_ ?_
              rotate_left
              · show Act.put _ (some 96) _ = _
                (simp only [Act.put, List.setIfInBounds_toArray, List.set_cons_zero, List.set_cons_succ, i64_w, i32_w]; rfl)
              refine pure_ (i := 10) (N := some 12) (v := ?_) (a' := ?_) #[true, true, true, true, true, true, true, true, true, true, true] rfl rfl (by kernel_rfl) (fun _ _ _ h => h) (Or.inl ⟨by rfl, ?_⟩) ?_ ?_
              rotate_left
              · intro w'; go_simp; with_reducible rfl
              rotate_left; · (simp only [Act.put, List.setIfInBounds_toArray, List.set_cons_zero, List.set_cons_succ, i64_w, i32_w]; rfl)
              refine done_ (by kernel_rfl) ?_
              go_wp2; go_roundg k2
              case measure => omega
              case rel => exact ⟨j + 1, bj, rfl, rfl, ⟨by have := HJ.out; omega⟩, HNX, ⟨below_step HBj.out hHeld⟩⟩
        case rest =>
          obtain ⟨rfl, HBe⟩ := hcut; clear HBc hy; have hy := pw_cell_below HBe.out HY.out
          cases bx with
          | true =>
            have hc := HCS.out.1 (HBX.out rfl)
            have hw7 : IntKind.i64.wrap (0 + 1) = 1 := by decide
            rw [hc.1]
            have HC1 := Aside0.mk hc.2
            clear hc; go_wp2; go_roundg k1
            case measure => omega
            case rel => exact ⟨k + 1, rfl, ⟨by have := HK.out; omega⟩, by rw [HC1.out], ⟨below_step HB.out HBe.out⟩⟩
          | false =>
            have HC1 := Aside0.mk (HCS.out.2 (HBN.out rfl))
            go_wp2; go_roundg k1
            case measure => omega
            case rel => exact ⟨k + 1, rfl, ⟨by have := HK.out; omega⟩, by rw [HC1.out], ⟨below_step HB.out HBe.out⟩⟩
    · have cb : decide ((k : Int) < (K.length : Int)) = false := decide_eq_false (by omega)
      have cb2 : decide (k < K.length) = false := decide_eq_false ck
      have hk : k = K.length := by have := HK.out; omega
      have hc1 : cntA a (K.take k) = 1 := by rw [hk, List.take_length]; exact cnt_in H.out.self
      rw [hc1]
      clear ck hk hc1 HK; go_wp2; go_loopg [14] own.length (fun kq v14 w' => ∃ (j : Nat), v14 = .int .i64 (j : Int) ∧ Aside0 (j + kq = own.length) ∧ Aside0 (Below wS.heap.size wS w'))
      case atStart => exact ⟨0, rfl, ⟨Nat.zero_add _⟩, HB⟩
      case round =>
        clear HB cb cb2; obtain ⟨j, rfl, HJ, HB⟩ := hrel; by_cases cj : j < own.length
        · obtain ⟨k2, rfl⟩ : ∃ k2, gk = k2 + 1 := ⟨gk - 1, by have := HJ.out; omega⟩
          have d1 : decide ((j : Int) < (own.length : Int)) = true := decide_eq_true (by omega)
          have d2 : decide (j < own.length) = true := decide_eq_true cj
          have hw6 : IntKind.i64.wrap ((j : Int) + 1) = ((j + 1 : Nat) : Int) := by rw [i64_w]; unfold wrap64; have := H.out.few.2; omega
          obtain ⟨ad5, e5, hyo⟩ := Kd.at_string (Kd.C_below HO.out.2 HB.out) (j : Int) (by omega) (by omega)
          cases e5
          have hYm := H.out.sub _ (rdB_mem cj)
          generalize rdOf ByteArray.empty own (j : Int) = Y at hyo hYm
          simp only [Int.toNat_natCast] at hyo; have HHa := Aside0.mk (fun W (h : Kd.C Kd.string W A4 K.length K) => gemotlaw2_has.calls A4 c4 K Y true W h HKc.out.1 (congrArg some (List.any_eq_true.mpr ⟨Y, hYm, decide_eq_true rfl⟩)))
          have HKw := Aside0.mk (Kd.C_below HKc.out.2 HB.out)
          clear hYm; go_wp2_with (go_at_call 76; (with_reducible refine (HHa.out _ HKw.out).mono ?_); rintro e w' ⟨rfl, ⟨nd, rfl⟩⟩; have HBn := Aside0.mk (pw_below_drewN HB.out nd))
          go_roundg k2
          case measure => omega
          case rel => exact ⟨j + 1, rfl, ⟨by have := HJ.out; omega⟩, HBn⟩
        · have d1 : decide ((j : Int) < (own.length : Int)) = false := decide_eq_false (by omega)
          have d2 : decide (j < own.length) = false := decide_eq_false cj
          have he := H.out.ends; obtain ⟨be, hbe⟩ : ∃ b, ((K.length : Int) == 1) = b := ⟨_, rfl⟩
          rw [hbe] at he
          have hbb : (be == be) = true := beq_self_eq_true be
          clear cj HJ; go_wp2; go_ret
          exact ⟨rfl, below_step HBS.out HB.out⟩
def gemotlaw2_PartsAll.f (l0 : List S186) (a1 : Int) : Option (Bool) := if (∀ y ∈ l0, (Lit.int .i64 y.f0).wf = true ∧ (Lit.int .i64 y.f1).wf = true ∧ (Lit.int .i64 y.f2).wf = true ∧ (Lit.int .i64 y.f3).wf = true) ∧ (Lit.int .i64 a1).wf = true then some true else none
theorem gemotlaw2_PartsAll.calls (A0 : Option Addr) (c0 : Nat) (l0 : List S186) (a1 : Int) (r : Bool) (w : World) (hr0 : Kd.C k186 w A0 l0.length l0) (hc0 : l0.length ≤ c0) (h : gemotlaw2_PartsAll.f l0 a1 = some r) :
    Calls Try.prog 14 #[.slice A0 l0.length c0, .int .i64 a1] w fun e w' => e = .returned (.bool r) ∧ Below w.heap.size w w' := by
  unfold gemotlaw2_PartsAll.f at h
  split at h
  case isFalse => cases h
  rename_i hs
  cases h
  obtain ⟨hl, h1⟩ := hs; obtain ⟨out, ho, hm, hlen⟩ := made2 l0 hl
  have h20 := hm.two; have hpos : (0 : Int) < (out.length : Int) := by omega
  have r1 := pickF_range a1 hpos
  have ha := hm.at_ hlen a1
  have hp := pick2 h1 hpos (by omega)
  have hx : rdOf ByteArray.empty out (pickF a1 out.length) = atF out (pickF a1 out.length) := rfl
  generalize pickF a1 out.length = q at r1 ha hp hx
  exact gemotlaw2_PartsAll.good A0 c0 l0 a1 out q _ _ _ w hr0 hc0 ho hp r1.1 r1.2 hx (allS_of ha.1.right ha.2)

end Go.Proofs.Ytppimpadfgldjaa.F
