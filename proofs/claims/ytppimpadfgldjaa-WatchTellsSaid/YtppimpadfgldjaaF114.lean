-- Laid by mk.py (a program of this session) over the seat's translation.
import Derived.Test.YtppimpadfgldjaaF0
import Derived.Test.YtppimpadfgldjaaF115
import Derived.Test.YtppimpadfgldjaaF57
import Derived.Deep.LoopGhost
import Derived.Deep.RegionLaw
import Derived.RegionTactic
import Derived.BigRegion
import Derived.Laws.IdiomCopy
import Derived.Lib.SliceRun
import Derived.Test.YtppimpadfgldjaaF118
namespace Go.Proofs.Ytppimpadfgldjaa.F
open Go.RowKit Go.Proofs.YtppimpadfgldjaaW.PrintWords Go.Proofs.YtppimpadfgldjaaW.PrintLast Go.Proofs.YtppimpadfgldjaaW.PrintMore
attribute [local go_sem] max2_int min2_int max_two min_two max_three min_three max_four min_four
set_option linter.unusedVariables false
set_option linter.unusedSimpArgs false

/-! ### net_Datagram_114: function 114 -/
open Go.Deep
/-- Cells that are laid into a row, from a place on. -/
def setC (cur : Array Value) : Nat → List Value → Array Value
  | _, [] => cur
  | o, v :: vs => setC (cur.setIfInBounds o v) (o + 1) vs
theorem setC_size : ∀ (vs : List Value) (cur : Array Value) (o : Nat), (setC cur o vs).size = cur.size
  | [], _, _ => rfl
  | v :: vs, cur, o => by rw [setC, setC_size vs]; simp
theorem setC_get : ∀ (vs : List Value) (cur : Array Value) (o j : Nat), o + vs.length ≤ cur.size → (setC cur o vs)[j]? = if o ≤ j ∧ j < o + vs.length then vs[j - o]? else cur[j]?
  | [], cur, o, j, h => by rw [setC, if_neg (by rw [List.length_nil]; omega)]
  | v :: vs, cur, o, j, h => by
    rw [List.length_cons] at h
    rw [setC, setC_get vs _ (o + 1) j (by simp; omega), List.length_cons]
    by_cases c : o + 1 ≤ j ∧ j < o + 1 + vs.length
    · rw [if_pos c, if_pos (by omega), show j - o = (j - (o + 1)) + 1 by omega, List.getElem?_cons_succ]
    · rw [if_neg c]
      by_cases e : j = o
      · subst e
        rw [if_pos (by omega), Nat.sub_self, List.getElem?_cons_zero, Array.getElem?_setIfInBounds_self_of_lt (by omega)]
      · rw [if_neg (by omega), Array.getElem?_setIfInBounds_ne (Ne.symm e)]
theorem blk_setCells {g t : Nat} : ∀ (vs : List Value) (o : Nat) {w : World} {cur : Array Value}, w.heap[g]? = some (.cells cur t (0, 0)) → (w.setCells g o vs).heap[g]? = some (.cells (setC cur o vs) t (0, 0))
  | [], _, _, _, h => h
  | v :: vs, o, w, cur, h => by
    rw [World.setCells, setC]
    exact blk_setCells vs (o + 1) (blk_put h o v rfl)
theorem near_setCells {F : Nat → Prop} {w : World} {g : Nat} (hg : F g) : ∀ (vs : List Value) (o : Nat) {W : World}, Near F w W → Near F w (W.setCells g o vs)
  | [], _, _, h => h
  | v :: vs, o, W, h => by
    rw [World.setCells]
    exact near_setCells hg vs (o + 1) (h.set (.inl hg) v)
theorem run_clear_one {P : Program} (w : World) (t e ty : TypeId) (z : Value) (cs : List Value) (ht : P.underlying t = some (.slice e)) (hv : ∀ w, (zeroValue e).run P w = .ok z w) (hz : (Builtin.zeroCells z.cells 1).toList = cs) (h1 : ∀ v ∈ cs, v.oneCell' = true) (b o c : Nat)
    (hc : ∀ j, j < cs.length → (w.cell? ⟨b, o + j, none⟩).isSome = true) (hf : ∀ j, j < cs.length → w.frozen? ⟨b, o + j, none⟩ = false) :
    (Builtin.clear_ #[t] ty #[.slice (some ⟨b, o, none⟩) 1 c]).run P w = .ok (.tuple #[]) (w.setCells b o cs) := by
  have hst := run_storeCells_cells (P := P) b o cs 0 w (by simpa using hc) (by simpa using hf) h1
  simp only [Nat.add_zero] at hst
  simp [Builtin.clear_, run_underlying ht, hv, hz, hst]
theorem reps_cut {R : S114 → List Value → Prop} {l : List S114} {cs : List Value} (h : Reps R 3 l cs) (i : Nat) (hi : i < l.length) : Reps R 3 (l.eraseIdx i) (cs.take (3 * i) ++ cs.drop (3 * i + 3)) := by
  have hl := h.1
  refine ⟨?_, fun j p hj => ?_⟩
  · rw [List.length_append, List.length_take, List.length_drop, List.length_eraseIdx, if_pos hi]; omega
  · have hj' := (List.getElem?_eq_some_iff.mp hj).1
    rw [List.length_eraseIdx, if_pos hi] at hj'
    rw [List.getElem?_eraseIdx] at hj
    by_cases c : j < i
    · rw [if_pos c] at hj
      have h2 := h.2 j p hj
      have e : ((cs.take (3 * i) ++ cs.drop (3 * i + 3)).drop (j * 3)).take 3 = (cs.drop (j * 3)).take 3 := by
        apply List.ext_getElem?
        intro q
        rw [List.getElem?_take, List.getElem?_take]
        split
        · rw [List.getElem?_drop, List.getElem?_drop, List.getElem?_append_left (by rw [List.length_take]; omega), List.getElem?_take, if_pos (by omega)]
        · rfl
      rw [e]; exact h2
    · rw [if_neg c] at hj
      have h2 := h.2 (j + 1) p hj
      have e : ((cs.take (3 * i) ++ cs.drop (3 * i + 3)).drop (j * 3)).take 3 = (cs.drop ((j + 1) * 3)).take 3 := by
        apply List.ext_getElem?
        intro q
        rw [List.getElem?_take, List.getElem?_take]
        split
        · have h3 : (cs.take (3 * i)).length = 3 * i := by rw [List.length_take]; omega
          rw [List.getElem?_drop, List.getElem?_drop, List.getElem?_append_right (by omega), h3, List.getElem?_drop]
          congr 1
          omega
        · rfl
      rw [e]; exact h2
theorem dg_reps {w w' : World} {base base' : Nat} {ok ok' : Nat → Prop} {l : List S114} {cs : List Value} (h : Reps (k114.M w base ok) 3 l cs) : Reps (k114.M w' base' ok') 3 l cs :=
  ⟨h.1, fun j p hj => by rw [k114_openM (h.2 j p hj)]; exact k114_mkM _ _ _ p⟩
/-- The row behind the cells moved, and those behind it made empty. -/
theorem cut_row {cur : Array Value} {n cap i : Nat} (hs : cur.size = cap * 3) (hn : n ≤ cap) (hi : i < n) (z : List Value) (hz : z.length = 3) :
    (setC (setC cur (3 * i) ((cur.toList.take (n * 3)).drop (3 * i + 3))) ((n - 1) * 3) z).toList.take ((n - 1) * 3) = (cur.toList.take (n * 3)).take (3 * i) ++ (cur.toList.take (n * 3)).drop (3 * i + 3) := by
  have hl : (cur.toList.take (n * 3)).length = n * 3 := by rw [List.length_take]; simp; omega
  have hl2 : ((cur.toList.take (n * 3)).drop (3 * i + 3)).length = n * 3 - (3 * i + 3) := by rw [List.length_drop, hl]
  apply List.ext_getElem?
  intro j
  rw [List.getElem?_take]
  by_cases c : j < (n - 1) * 3
  · rw [if_pos c, Array.getElem?_toList, setC_get _ _ _ _ (by rw [setC_size, hz]; omega), if_neg (by omega), setC_get _ _ _ _ (by rw [hl2]; omega), hl2]
    by_cases d : j < 3 * i
    · rw [if_neg (by omega), List.getElem?_append_left (by rw [List.length_take, hl]; omega), List.getElem?_take, if_pos d, List.getElem?_take, if_pos (by omega), Array.getElem?_toList]
    · have h3 : ((cur.toList.take (n * 3)).take (3 * i)).length = 3 * i := by rw [List.length_take, hl]; omega
      rw [if_pos (by omega), List.getElem?_append_right (by omega), h3]
  · rw [if_neg c, List.getElem?_eq_none (by rw [List.length_append, List.length_take, hl, hl2]; omega)]
theorem dg_zero : ∀ w, (zeroValue 114).run Try.prog w = .ok (.agg #[.int .i64 0, .int .i64 0, .string ⟨#[]⟩]) w := by
  intro w
  go_simp
theorem dg_size : ∀ w, (Go.sizeOf 114).run Try.prog w = .ok 3 w := by
  intro w
  go_simp
set_option maxHeartbeats 4000000 in
set_option maxRecDepth 1000000 in
theorem deleteDg.calls (base : Nat) (ok : Nat → Prop) (A : Option Addr) (n c : Nat) (l : List S114) (i : Nat) (w : World) (h : Kd.R k114 114 w base ok (.slice A n c) l) (hi : i < l.length) (hl : l.length ≤ 400) :
    Calls Try.prog 114 #[.slice A n c, .int .i64 i, .int .i64 ((i + 1 : Nat) : Int)] w fun e w' => ∃ v', e = .returned v' ∧ Kd.R k114 114 w' base ok v' (l.eraseIdx i) ∧ Near ok w w' := by
  obtain ⟨hok, inner, ⟨hlen, hrow⟩, hreps⟩ := h
  rcases hrow with ⟨hv, hn0⟩ | ⟨g, cap, cur, hv, hb, hh, h1, h2, h3, h4⟩
  · exact absurd hi (by omega)
  injection hv with e1 e2 e3
  subst e1 e2 e3
  have hg : ok g := hok g rfl
  have h3 : cur.size = c * 3 := h3
  have h4 : cur.toList.take (l.length * 3) = inner := h4
  have hlen : inner.length = l.length * 3 := hlen
  have hreps : Reps _ 3 l inner := hreps
  have hic : i ≤ c := by omega
  have hjc : i + 1 ≤ c := by omega
  obtain ⟨news, hnews⟩ : ∃ news, news = inner.drop (3 * i + 3) := ⟨_, rfl⟩
  have hnl : news.length = (l.length - (i + 1)) * 3 := by rw [hnews, List.length_drop, hlen]; omega
  have hng : ∀ j u, news[j]? = some u → cur[(i + 1) * 3 + j]? = some u := by
    intro j u hu
    have hj : j < news.length := (List.getElem?_eq_some_iff.mp hu).1
    rw [hnews, List.getElem?_drop, ← h4, List.getElem?_take, if_pos (by omega), Array.getElem?_toList] at hu
    rw [← hu]; congr 1; omega
  have hn1 : Hid (∀ u ∈ news, u.oneCell' = true) := by
    intro u hu
    rw [hnews] at hu
    have hu2 := List.mem_of_mem_drop hu
    obtain ⟨q, hq, e⟩ := List.mem_iff_getElem.mp hu2
    have hqp : q / 3 < l.length := by omega
    have h5 := k114_openM (hreps.2 (q / 3) l[q / 3] (List.getElem?_eq_getElem hqp))
    have h6 : ((inner.drop (q / 3 * 3)).take 3)[q % 3]? = some u := by
      rw [List.getElem?_take, if_pos (by omega), List.getElem?_drop, show q / 3 * 3 + q % 3 = q by omega, List.getElem?_eq_getElem hq, e]
    rw [h5] at h6
    have h7 := List.mem_of_getElem? h6
    simp only [List.mem_cons, List.not_mem_nil, or_false] at h7
    rcases h7 with rfl | rfl | rfl <;> rfl
  obtain ⟨A, hA, hsrc⟩ : ∃ A : Addr, (if c = i + 1 then some (⟨g, 0, none⟩ : Addr) else some ⟨g, (i + 1) * 3, none⟩) = some A ∧ Hid (∀ t u, news[t]? = some u → w.drew.cell? (A.add t) = some u) := by
    by_cases q : c = i + 1
    · refine ⟨⟨g, 0, none⟩, by simp [q], fun t u hu => ?_⟩
      have : news.length = 0 := by rw [hnl]; omega
      rw [List.length_eq_zero_iff.1 this] at hu
      simp at hu
    · refine ⟨⟨g, (i + 1) * 3, none⟩, by simp [q], fun t u hu => ?_⟩
      rw [Addr.add_lit]
      exact (blk_cell (blk_drew hh) _).trans (hng t u hu)
  obtain ⟨W1, hW1⟩ : ∃ W1, W1 = w.drew.setCells g (0 + i * 3) news := ⟨_, rfl⟩
  have hb1 : W1.heap[g]? = some (.cells (setC cur (0 + i * 3) news) 114 (0, 0)) := by rw [hW1]; exact blk_setCells news _ (blk_drew hh)
  have hcl : ∀ ty, (Builtin.clear_ #[124] ty #[.slice (some ⟨g, (i + (l.length - (i + 1))) * 3, none⟩) (l.length - (i + (l.length - (i + 1)))) (c - (i + (l.length - (i + 1))))]).run Try.prog W1 = .ok (.tuple #[]) (W1.setCells g ((i + (l.length - (i + 1))) * 3) [.int .i64 0, .int .i64 0, .string ⟨#[]⟩]) := fun ty => by
    rw [show l.length - (i + (l.length - (i + 1))) = 1 by omega]
    exact run_clear_one W1 _ _ ty _ _ Try.underlying124 dg_zero (by kernel_rfl) (by intro v hv; simp at hv; rcases hv with rfl | rfl | rfl <;> rfl) g _ _ (by
      intro j hj
      have hj3 : j < 3 := hj
      rw [blk_cell hb1, Array.getElem?_eq_getElem (by rw [setC_size, h3]; omega)]; rfl) (fun j _ => blk_frozen hb1 _)
  have s3 : Hid (∀ t, t < news.length → (w.drew.cell? ⟨g, 0 + i * 3 + t, none⟩).isSome = true ∧ w.drew.frozen? ⟨g, 0 + i * 3 + t, none⟩ = false) := by
    intro t ht
    refine ⟨?_, blk_frozen (blk_drew hh) _⟩
    rw [blk_cell (blk_drew hh), Array.getElem?_eq_getElem (by rw [h3]; omega)]; rfl
  have hW : Hid (W1 = w.drew.setCells g (0 + i * 3) news) := hW1
  obtain ⟨i0, hi0, hzz⟩ := Option.map_eq_some_iff.1 dg_info
  have hz1 : i0.size = 3 := by simp only [Prod.mk.injEq] at hzz; exact hzz.2.1
  have HNL := Aside0.mk hnl
  have HB1 := Aside0.mk hb1
  have HRP := Aside0.mk hreps
  have H4 := Aside0.mk h4
  have H3 := Aside0.mk h3
  have HNW := Aside0.mk hnews
  have HOK := Aside0.mk hok
  have p0 : (0 ≤ (i : Int) + 1) = True := eq_true (by omega)
  have p1 : ((i : Int) + 1 ≤ (l.length : Int)) = True := eq_true (by omega)
  have qe : ((i : Int) == (i : Int) + 1) = false := beq_eq_false_iff_ne.mpr (by omega)
  clear hh hok hreps hlen hnews hb1 hng hnl h4 h3 hW1 hzz
  go_enter Try.func114, Try.ntmps114
  go_upto_region 5 with fail
  go_region_law (refine step_append_room rfl (.tmp 22) (.tmp 25) 124 rfl 114 i0 3 Try.underlying124 hi0 hz1 g 0 i c (by simp [Act.eval, Act.put]) A (l.length - (i + 1)) (c - (i + 1)) news (by simp [Act.eval, Act.put, hA]) HNL.out hsrc.out hn1.out (by omega) s3.out ?_; rw [← hW.out])
  go_wp2
  go_ret
  have he : (l.eraseIdx i).length = l.length - 1 := by rw [List.length_eraseIdx, if_pos hi]
  have e3 : 0 + i * 3 = 3 * i := by omega
  have hcut := cut_row H3.out h1 hi [.int .i64 0, .int .i64 0, .string ⟨#[]⟩] rfl
  rw [H4.out, ← HNW.out] at hcut
  have hlen : inner.length = l.length * 3 := HRP.out.1
  rw [show i + (l.length - (i + 1)) = l.length - 1 by omega]
  refine ⟨_, rfl, ⟨fun k hk => HOK.out k hk, inner.take (3 * i) ++ inner.drop (3 * i + 3), ?_, dg_reps (reps_cut HRP.out i hi)⟩, near_setCells hg _ _ (by rw [hW.out]; exact near_setCells hg news _ (Near.refl ok w).drew)⟩
  rw [he]
  refine ⟨by rw [List.length_append, List.length_take, List.length_drop, hlen]; show _ = (l.length - 1) * 3; omega, .inr ⟨g, c, _, rfl, hb, blk_setCells _ _ HB1.out, by omega, h2, by rw [setC_size, setC_size]; exact H3.out, ?_⟩⟩
  rw [e3, ← HNW.out]
  exact hcut

end Go.Proofs.Ytppimpadfgldjaa.F
