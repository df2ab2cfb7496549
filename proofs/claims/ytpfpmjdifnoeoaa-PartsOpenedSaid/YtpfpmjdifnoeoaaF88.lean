-- Laid by mk.py (a program of this session) over the seat's translation.
import Derived.Test.YtpfpmjdifnoeoaaF0
import Derived.Test.YtpfpmjdifnoeoaaF131
import Derived.Test.YtpfpmjdifnoeoaaF132
import Derived.Test.YtpfpmjdifnoeoaaF133
import Derived.Test.YtpfpmjdifnoeoaaF135
import Derived.Test.YtpfpmjdifnoeoaaF162
import Derived.Test.YtpfpmjdifnoeoaaF163
import Derived.Test.YtpfpmjdifnoeoaaF66
import Derived.Test.YtpfpmjdifnoeoaaF99
import Derived.Deep.RegionWith
import Derived.Test.YtpfpmjdifnoeoaaShelf
import Derived.Sort.OwnSorted
import Derived.Lib.OwnBridge
import Derived.Test.YtpfpmjdifnoeoaaF133
import Derived.Test.YtpfpmjdifnoeoaaF132
import Derived.Test.YtpfpmjdifnoeoaaF135
import Derived.Test.YtpfpmjdifnoeoaaF66
namespace Go.Proofs.Ytpfpmjdifnoeoaa.F
open Go.RowKit Go.Proofs.YtpfpmjdifnoeoaaW.PrintWords Go.Proofs.YtpfpmjdifnoeoaaW.PrintLast Go.Proofs.YtpfpmjdifnoeoaaW.PrintMore
attribute [local go_sem] max2_int min2_int max_two min_two max_three min_three max_four min_four
set_option linter.unusedVariables false
set_option linter.unusedSimpArgs false

/-! ### term_Power: function 88 -/
/-- Texts, by bytes. -/
def sortB (l : List ByteArray) : List ByteArray := ((l.map (·.data.toList)).mergeSort fun x y => decide (x ≤ y)).map fun x => ⟨x.toArray⟩
/-- Texts one behind the other, as the library joins them. -/
def joinB (l : List ByteArray) : ByteArray := ⟨(Lib.join (l.map (·.data.toList)) (⟨#[]⟩ : ByteArray).data.toList).toArray⟩
theorem sortB_length (l : List ByteArray) : (sortB l).length = l.length := by simp [sortB]
theorem sort_mem (l : List ByteArray) : ∀ x ∈ sortB l, x ∈ l := by
  intro x hx
  unfold sortB at hx
  obtain ⟨y, hy, rfl⟩ := List.mem_map.mp hx
  obtain ⟨z, hz, rfl⟩ := List.mem_map.mp (List.mem_mergeSort.mp hy)
  exact hz
theorem joinB_size (m : Nat) : ∀ (l : List ByteArray), (∀ x ∈ l, x.size ≤ m) → (Lib.join (l.map (·.data.toList)) []).length ≤ l.length * m
  | [], _ => by simp [Lib.join_nil]
  | x :: l, h => by
    rw [List.map_cons, Lib.join_cons, List.length_append]
    have h1 := h x List.mem_cons_self
    have h2 : ∀ l : List ByteArray, (∀ x ∈ l, x.size ≤ m) → (Lib.joinTail [] (l.map (·.data.toList))).length ≤ l.length * m := by
      intro l
      induction l with
      | nil => intro _; simp [Lib.joinTail]
      | cons y l ih =>
        intro h
        have h3 := h y List.mem_cons_self
        have h4 := ih (fun z hz => h z (List.mem_cons_of_mem _ hz))
        have e : Lib.joinTail [] ((y :: l).map (·.data.toList)) = y.data.toList ++ Lib.joinTail [] (l.map (·.data.toList)) := by simp [Lib.joinTail]
        rw [e, List.length_append, List.length_cons, Nat.succ_mul]
        have : y.data.toList.length = y.size := by simp [← ByteArray.size_data]
        omega
    have h3 := h2 l (fun z hz => h z (List.mem_cons_of_mem _ hz))
    have : x.data.toList.length = x.size := by simp [← ByteArray.size_data]
    rw [List.length_cons, Nat.succ_mul]
    omega
/-- slices.Sort over a row of the call's own. -/
theorem sort_own {W : World} {base : Nat} {A : Option Addr} {c n : Nat} {l : List ByteArray} (ho : Kd.R Kd.string 9 W base (fun _ => True) (.slice A n c) l) (hl : l.length ≤ 8796093022208) :
    Calls Try.prog 134 #[.slice A n c] W fun e w' => e = .returned (.tuple #[]) ∧ Kd.R Kd.string 9 w' base (fun _ => True) (.slice A n c) (sortB l) ∧ ∃ row, W.grownBy w' row ∧ ∀ k, row = some k → base ≤ k := by
  have hn : n = l.length := (Kd.R_reads' ho).1
  subst hn
  have hown := Kd.own_of_R ho
  unfold encs at hown
  rw [← Lib.map_encStr] at hown
  rcases hown.2 with ⟨h0, h1⟩ | ⟨g, cap, cur, hv, hbase, hb, h1, h2, h3, h4⟩
  · injection h0 with hA hn hc
    have : l = [] := List.eq_nil_of_length_eq_zero (by omega)
    subst this
    refine (Try.slices_Sort_string_none A c W).mono ?_
    rintro e w' ⟨rfl, rfl⟩
    exact ⟨rfl, by have e : sortB [] = [] := by simp [sortB]
                   rw [e]; exact ho, none, ⟨rfl, rfl, rfl, Nat.le_refl _, fun _ _ _ => rfl⟩, fun k hk => by cases hk⟩
  · cases hv
    have hsz : (l.map (·.data.toList)).length = l.length := by simp
    have hH := holds_of_block (ss := l.map (·.data.toList)) hb (by rw [hsz]; simpa using h4)
    have hlt : g < W.heap.size := (Array.getElem?_eq_some_iff.1 hb).1
    have hc := Try.slices_Sort_string g 0 c (l.map (·.data.toList)) W hH hlt (by rw [hsz]; omega)
    rw [hsz] at hc
    refine hc.mono ?_
    rintro e w' ⟨rfl, n, os, rfl⟩
    have hs := ownsRow_sorted (n := n) (os := os) (ss := l.map (·.data.toList)) (ts := (l.map (·.data.toList)).mergeSort fun x y => decide (x ≤ y)) (by simp) hbase hb (by rw [hsz]; exact h1) h2 (by simpa using h3)
    rw [hsz] at hs
    refine ⟨rfl, Kd.R_of_own ?_ (fun _ _ => trivial), some g, Go.grownBy_sorted _, fun k hk => by cases hk; exact hbase⟩
    rw [sortB_length]
    have e : encs Value.string (sortB l) = ((l.map (·.data.toList)).mergeSort fun x y => decide (x ≤ y)).map Go.Proofs.encStr := by
      unfold encs sortB
      rw [List.map_map]
      apply List.map_congr_left
      intro x _
      simp [Go.Proofs.encStr]
    rw [e]
    exact hs
/-- strings.Join over a row of the call's own. -/
theorem join_own {W : World} {base : Nat} {A : Option Addr} {c n : Nat} {l : List ByteArray} (ho : Kd.R Kd.string 9 W base (fun _ => True) (.slice A n c) l) (hl : l.length ≤ 32) (hs : ∀ x ∈ l, x.size ≤ 1000000) :
    Calls Try.prog 136 #[.slice A n c, .string ⟨#[]⟩] W fun e w' => e = .returned (.string (joinB l)) ∧ Below W.heap.size W w' := by
  have hn : n = l.length := (Kd.R_reads' ho).1
  subst hn
  have hown := Kd.own_of_R ho
  rcases hown.2 with ⟨h0, h1⟩ | ⟨g, cap, cur, hv, hbase, hb, h1, h2, h3, h4⟩
  · injection h0 with hA hn hc
    have : l = [] := List.eq_nil_of_length_eq_zero (by omega)
    subst this
    refine (Try.strings_Join_none A c ⟨#[]⟩ W).mono ?_
    rintro e w' ⟨rfl, rfl⟩
    exact ⟨rfl, Below.refl _ _⟩
  · cases hv
    have hlt : g < W.heap.size := (Array.getElem?_eq_some_iff.1 hb).1
    have hj := joinB_size 1000000 l hs
    refine (Try.strings_Join g 0 c l ⟨#[]⟩ W ?_ hlt (by omega) h1 (by show (Lib.join _ []).length ≤ _; omega)).mono ?_
    · intro j x hx
      have hjl : j < l.length := by
        rcases Nat.lt_or_ge j l.length with h | h
        · exact h
        · rw [List.getElem?_eq_none h] at hx; cases hx
      have := Kd.R_cell ByteArray.empty ho (j : Int) (by omega) (by omega)
      rw [Int.toNat_natCast] at this
      rw [Nat.zero_add, this.1]
      simp [rdOf, List.getD_eq_getElem?_getD, hx]
    · rintro e w' ⟨rfl, hb⟩
      exact ⟨rfl, hb⟩
def powF (a b : ByteArray) : ByteArray × Int :=
  if elemB a = true then (if rightB b = true then (if 32 < (expsF a).length + 1 then (⟨#[]⟩, 3) else wholeF (strOfNums [101, ((expsF a).length + 1 : Nat)] ++ joinB (sortB (expsF a ++ [b])))) else (⟨#[]⟩, 1)) else (⟨#[]⟩, 1)
theorem splitF_size : ∀ (k : Nat) (s : ByteArray), ∀ x ∈ splitF k s, x.size ≤ s.size
  | 0, _, x, hx => by simp [splitF] at hx
  | k + 1, s, x, hx => by
    rw [splitF] at hx
    split at hx
    · simp at hx
    · rename_i c
      rcases List.mem_cons.mp hx with rfl | hx
      · unfold takeF
        split
        · exact Nat.zero_le _
        · split
          · exact Nat.zero_le _
          · simp only [ByteArray.size_extract]; omega
      · have := splitF_size k _ x hx
        have := takeF_less s (by omega)
        omega
theorem expsF_size (t : ByteArray) : ∀ x ∈ expsF t, x.size ≤ t.size := by
  intro x hx
  unfold expsF at hx
  split at hx
  · simp at hx
  · have := splitF_size _ _ x hx
    rw [ByteArray.size_extract] at this
    omega
theorem exps_ok {a : ByteArray} (h : elemB a = true) : term_exponents.f a = some (expsF a) := by
  unfold elemB at h
  rw [Bool.and_eq_true, Bool.or_eq_true, beq_iff_eq, beq_iff_eq] at h
  have hp := right_pos h.1
  unfold term_exponents.f
  rw [if_pos]
  rcases Nat.lt_or_ge a.size 2 with c | c
  · right
    refine ⟨by omega, ?_⟩
    rcases h.2 with h2 | h2
    · exact h2
    · exfalso
      have hr := h.1
      unfold rightB scanF at hr
      rw [decide_eq_true_eq] at hr
      have hn1 : a.size = 1 := by omega
      have e : (endF a 400 0).2.2 ≠ 0 := by
        have hl : leafF (a.extract 0 a.size) = 0 := by
          rw [extract_all]; unfold leafF; rw [h2]; rfl
        have hb : (beginF a 0).2.2.2.2.2.2 = false := by
          unfold beginF; rw [h2]
          simp only [show ¬ ((101 : Int) = 107) from by decide, show ¬ ((101 : Int) = 104) from by decide, show ¬ ((101 : Int) = 112 ∨ (101 : Int) = 120) from by decide, show ¬ ((101 : Int) = 115) from by decide, if_false, if_true]
          rw [if_neg (by omega)]
        rw [show (400 : Nat) = 399 + 1 from rfl, endF, if_neg (by omega), show (0 : Int).toNat = 0 from rfl, if_neg (fun q => q hl), if_neg (by rw [hb]; simp)]
        decide
      rw [if_neg e] at hr
      exact e hr.1
  · left; omega
def term_Power.f (a b : ByteArray) : Option (ByteArray × Int) := if a.size < 9223372036854775000 ∧ b.size < 9223372036854775000 then some (powF a b) else none
set_option maxHeartbeats 2000000 in
set_option maxRecDepth 100000 in
theorem term_Power.no1 (a b : ByteArray) (w : World) (ha : a.size < 9223372036854775000) (h : elemB a = false) :
    Calls Try.prog 88 #[.string a, .string b] w fun e w' => e = .returned (.tuple #[.string ⟨#[]⟩, .int .i64 1]) ∧ Below w.heap.size w w' := by
  have HE := Aside0.mk (fun W => term_element.calls a (elemB a) W (by rw [term_element.f, if_pos ha]))
  rw [h] at HE
  clear h ha
  go_enter Try.func88, Try.ntmps88
  go_wp2_with (go_at_call 132; refine (HE.out _).mono ?_; rintro e w1 ⟨rfl, hb1⟩)
  go_ret2
  exact ⟨rfl, hb1⟩
set_option maxHeartbeats 2000000 in
set_option maxRecDepth 100000 in
theorem term_Power.no2 (a b : ByteArray) (w : World) (ha : a.size < 9223372036854775000) (hb : b.size < 9223372036854775000) (h : elemB a = true) (h2 : rightB b = false) :
    Calls Try.prog 88 #[.string a, .string b] w fun e w' => e = .returned (.tuple #[.string ⟨#[]⟩, .int .i64 1]) ∧ Below w.heap.size w w' := by
  have HE := Aside0.mk (fun W => term_element.calls a (elemB a) W (by rw [term_element.f, if_pos ha]))
  rw [h] at HE
  have HR := Aside0.mk (fun W => term_Right.calls b (rightB b) W (by rw [term_Right.f, if_pos hb]))
  rw [h2] at HR
  clear h h2 ha hb
  go_enter Try.func88, Try.ntmps88
  go_wp2_with (first | (go_at_call 132; refine (HE.out _).mono ?_; rintro e w1 ⟨rfl, hb1⟩; have HB1 := Aside0.mk hb1; clear hb1) | (go_at_call 66; refine (HR.out _).mono ?_; rintro e w2 ⟨rfl, hb2⟩; have HB2 := Aside0.mk hb2; clear hb2))
  go_ret2
  exact ⟨rfl, below_then HB1.out HB1.out.size HB2.out⟩
set_option maxHeartbeats 4000000 in
set_option maxRecDepth 100000 in
theorem term_Power.yes (a b : ByteArray) (w : World) (ha : a.size < 9223372036854775000) (hb : b.size < 9223372036854775000) (h : elemB a = true) (h2 : rightB b = true) :
    Calls Try.prog 88 #[.string a, .string b] w fun e w' => e = .returned (.tuple #[.string (powF a b).1, .int .i64 (powF a b).2]) ∧ Below w.heap.size w w' := by
  have HE := Aside0.mk (fun W => term_element.calls a (elemB a) W (by rw [term_element.f, if_pos ha]))
  rw [h] at HE
  have HR := Aside0.mk (fun W => term_Right.calls b (rightB b) W (by rw [term_Right.f, if_pos hb]))
  rw [h2] at HR
  have HX := Aside0.mk (fun W => term_exponents.calls a (expsF a) W (exps_ok h))
  have hsz : ∀ x ∈ expsF a ++ [b], x.size ≤ 1000000 := by
    intro x hx
    rcases List.mem_append.mp hx with hx | hx
    · have := expsF_size a x hx
      unfold elemB at h
      rw [Bool.and_eq_true] at h
      have := right_pos h.1
      omega
    · obtain rfl := List.mem_singleton.mp hx
      have := right_pos h2
      omega
  have HSZ := Aside0.mk hsz
  have hp : powF a b = if 32 < (expsF a).length + 1 then (⟨#[]⟩, 3) else wholeF (strOfNums [101, ((expsF a).length + 1 : Nat)] ++ joinB (sortB (expsF a ++ [b]))) := by
    unfold powF; rw [if_pos h, if_pos h2]
  have hle : (expsF a).length < 8796093022208 := by
    have g : ∀ (k : Nat) (s : ByteArray), (splitF k s).length ≤ k := by
      intro k
      induction k with
      | zero => intro s; simp [splitF]
      | succ k ih =>
        intro s
        rw [splitF]
        split
        · simp
        · rw [List.length_cons]
          have := ih (takeF s).2.1
          omega
    unfold expsF
    split
    · simp
    · have := g a.size (a.extract 2 a.size)
      unfold elemB at h
      rw [Bool.and_eq_true] at h
      have := right_pos h.1
      omega
  have LM := Aside0.mk hle
  obtain ⟨y, hy⟩ : ∃ y, y = expsF a ++ [b] := ⟨_, rfl⟩
  obtain ⟨x, hx⟩ : ∃ x, x = expsF a := ⟨_, rfl⟩
  rw [← hy] at HSZ hp
  rw [← hx] at HX LM hy hp
  have hyl : y.length = x.length + 1 := by rw [hy]; simp
  rw [← hyl] at hp
  have NY := Aside0.mk hy
  rw [hp]
  have HB := Aside0.mk (Below.refl w.heap.size w)
  have hyp : 0 < y.length := by omega
  clear h h2 ha hb hsz hp hle hy hx hyl
  by_cases c : 32 < y.length
  · rw [if_pos c]
    have c0 : decide (32 < (y.length : Int)) = true := decide_eq_true (by omega)
    have c1 : decide (32 < y.length) = true := decide_eq_true c
    clear c
    go_enter Try.func88, Try.ntmps88
    go_wp2_with (first | (go_at_call 132; refine (HE.out _).mono ?_; rintro e w1 ⟨rfl, hb⟩; have n1_ := Aside0.mk (below_step HB.out hb); clear HB hb; have HB := n1_; clear n1_) | (go_at_call 66; refine (HR.out _).mono ?_; rintro e w2 ⟨rfl, hb⟩; have n1_ := Aside0.mk (below_step HB.out hb); clear HB hb; have HB := n1_; clear n1_) | ((with_reducible refine gate_callee (f := 133) rfl ?_); refine goesL_ (some 16) rfl rfl Try.func133 (by kernel_rfl) rfl #[.string a] rfl (by (try simp only [List.map_toArray, List.map_cons, List.map_nil]); first | done | rfl) ?_; (with_reducible refine (HX.out _).mono ?_); rintro e w3 ⟨v3, rfl, ho0, hb⟩; refine ⟨_, rfl, ?_⟩; have n0_ := Aside0.mk (Kd.R_lower ho0 (below_size HB.out)); have n1_ := Aside0.mk (below_step HB.out hb); clear HB hb ho0; have HO := n0_; have HB := n1_; clear n0_ n1_) | ((with_reducible refine gate_builtin (b := .append) (xs := #[.tmp 16, .tmp 18]) rfl ?_); at_builtin; refine Kd.R_append Kd.string (w0 := w) w.heap.size rfl (.tmp 16) (.tmp 18) 43 9 (.string ⟨#[]⟩) 16 rfl Try.underlying43 info9 rfl (by decide) (by omega) v3 x b [.string b] (fun _ => True) (fun _ => False) rfl rfl ?aP (fun _ hk => hk.elim) ?aF ?aO ?aB ?aS ?aL ?_; (case aP => exact rfl); (case aB => exact (by repeat (first | (with_reducible first | exact HB.out | apply below_alloc | apply pw_below_drewN | apply below_drew1) | exact HB.out))); (case aF => exact (fun _ _ => trivial)); (case aO => exact (by (with_reducible repeat (first | apply Kd.R_alloc | apply Kd.R_drewN | apply Kd.R_drew)); exact HO.out)); (case aS => exact (below_size (by repeat (first | (with_reducible first | exact HB.out | apply below_alloc | apply pw_below_drewN | apply below_drew1) | exact HB.out)))); (case aL => have := LM.out; omega); intro v4 w4 ho hb hg hat; rw [← NY.out] at ho; have n0_ := Aside0.mk (hb); have n1_ := Aside0.mk (ho); clear HB; clear HO; have HB := n0_; have HO := n1_; clear n0_ n1_; clear ho hb hg hat; obtain ⟨Ao, co, eo⟩ := Kd.R_slice HO.out; subst eo))
    go_ret2
    exact ⟨rfl, HB.out⟩
  · rw [if_neg c]
    have c0 : decide (32 < (y.length : Int)) = false := decide_eq_false (by omega)
    have c1 : decide (32 < y.length) = false := decide_eq_false c
    have HW := Aside0.mk (fun t W => term_whole.calls t (wholeF t).1 (wholeF t).2 W rfl)
    have CL := Aside0.mk c
    obtain ⟨z, hz⟩ : ∃ z, z = sortB y := ⟨_, rfl⟩
    have HZ := Aside0.mk hz
    have HZS := Aside0.mk (show ∀ q ∈ z, q.size ≤ 1000000 from fun q hq => HSZ.out q (sort_mem y q (by rw [← hz]; exact hq)))
    have HZL := Aside0.mk (show z.length = y.length by rw [hz, sortB_length])
    obtain ⟨j, hj⟩ : ∃ j, j = joinB z := ⟨_, rfl⟩
    have HJ := Aside0.mk hj
    have hjs : j.size ≤ 100000000 := by
      have h1 := joinB_size 1000000 z HZS.out
      have h2 : j.size = (Lib.join (z.map (·.data.toList)) []).length := by rw [hj]; rfl
      have := HZL.out
      omega
    rw [← hz, ← hj]
    obtain ⟨q, hq⟩ : ∃ q : List Int, q = [101, (y.length : Int)] := ⟨_, rfl⟩
    rw [← hq]
    have NQ := Aside0.mk hq
    have hqs : (strOfNums q).size = 2 := by rw [hq]; rfl
    have hyy : (y.length : Int) ≤ 32 := by omega
    obtain ⟨r, hr⟩ : ∃ r, r = strOfNums q ++ j := ⟨_, rfl⟩
    rw [← hr]
    have NR := Aside0.mk hr
    have hrs : (strOfNums q).size + j.size ≤ 9223372036854775807 := by omega
    have hrs1 := eq_true hrs
    have hrs2 : decide ((strOfNums q).size + j.size ≤ 9223372036854775807) = true := decide_eq_true hrs
    have hrs3 : (9223372036854775807 < (strOfNums q).size + j.size) = False := eq_false (Nat.not_lt.2 hrs)
    have hlit : ∀ W : World, (W.alloc (.cells #[.int .u8 101, .int .u8 y.length] 5)).ownsRow W.heap.size 5 1 (.slice (some ⟨W.heap.size, 0, none⟩) 2 2) 2 (nums .u8 q) := fun W => by
      rw [NQ.out]
      exact World.ownsRow_lit W _ 2 (Nat.le_refl _) (by simp [maxLen]) rfl
    have HLIT := Aside0.mk hlit
    have hcv : ∀ W : World, (convert 148 23 (.slice (some ⟨W.heap.size, 0, none⟩) 2 2)).run Try.prog (W.alloc (.cells #[.int .u8 101, .int .u8 y.length] 5)).drew = .ok (.string (strOfNums q)) (W.alloc (.cells #[.int .u8 101, .int .u8 y.length] 5)).drew :=
      fun W => own_string (w := (W.alloc (.cells #[.int .u8 101, .int .u8 y.length] 5)).drew) Try.underlying148 Try.underlying5 Try.underlying23 (HLIT.out W)
    have hcv2 : ∀ W : World, (convert 148 23 (.slice (some ⟨W.heap.size, 0, none⟩) 2 2)).run Try.prog (W.alloc (.cells #[.int .u8 101, .int .u8 y.length] 5)) = .ok (.string (strOfNums q)) (W.alloc (.cells #[.int .u8 101, .int .u8 y.length] 5)) :=
      fun W => own_string Try.underlying148 Try.underlying5 Try.underlying23 (HLIT.out W)
    have hwr : IntKind.u8.wrap (y.length : Int) = y.length := by
      have : IntKind.u8.wrap (y.length : Int) = (y.length : Int) % 256 := rfl
      omega
    clear c hz hj hq hqs hjs hr hrs hlit
    go_enter Try.func88, Try.ntmps88
    go_wp2_with (first
      | (go_at_call 132; refine (HE.out _).mono ?_; rintro e w1 ⟨rfl, hb⟩; have n1_ := Aside0.mk (below_step HB.out hb); clear HB hb; have HB := n1_; clear n1_) | (go_at_call 66; refine (HR.out _).mono ?_; rintro e w2 ⟨rfl, hb⟩; have n1_ := Aside0.mk (below_step HB.out hb); clear HB hb; have HB := n1_; clear n1_) | ((with_reducible refine gate_callee (f := 133) rfl ?_); refine goesL_ (some 16) rfl rfl Try.func133 (by kernel_rfl) rfl #[.string a] rfl (by (try simp only [List.map_toArray, List.map_cons, List.map_nil]); first | done | rfl) ?_; (with_reducible refine (HX.out _).mono ?_); rintro e w3 ⟨v3, rfl, ho0, hb⟩; refine ⟨_, rfl, ?_⟩; have n0_ := Aside0.mk (Kd.R_lower ho0 (below_size HB.out)); have n1_ := Aside0.mk (below_step HB.out hb); clear HB hb ho0; have HO := n0_; have HB := n1_; clear n0_ n1_) | ((with_reducible refine gate_builtin (b := .append) (xs := #[.tmp 16, .tmp 18]) rfl ?_); at_builtin; refine Kd.R_append Kd.string (w0 := w) w.heap.size rfl (.tmp 16) (.tmp 18) 43 9 (.string ⟨#[]⟩) 16 rfl Try.underlying43 info9 rfl (by decide) (by omega) v3 x b [.string b] (fun _ => True) (fun _ => False) rfl rfl ?aP (fun _ hk => hk.elim) ?aF ?aO ?aB ?aS ?aL ?_; (case aP => exact rfl); (case aB => exact (by repeat (first | (with_reducible first | exact HB.out | apply below_alloc | apply pw_below_drewN | apply below_drew1) | exact HB.out))); (case aF => exact (fun _ _ => trivial)); (case aO => exact (by (with_reducible repeat (first | apply Kd.R_alloc | apply Kd.R_drewN | apply Kd.R_drew)); exact HO.out)); (case aS => exact (below_size (by repeat (first | (with_reducible first | exact HB.out | apply below_alloc | apply pw_below_drewN | apply below_drew1) | exact HB.out)))); (case aL => have := LM.out; omega); intro v4 w4 ho hb hg hat; rw [← NY.out] at ho; have n0_ := Aside0.mk (hb); have n1_ := Aside0.mk (ho); clear HB; clear HO; have HB := n0_; have HO := n1_; clear n0_ n1_; clear ho hb hg hat; obtain ⟨Ao, co, eo⟩ := Kd.R_slice HO.out; subst eo)
      | (go_at_call 134; (with_reducible refine (sort_own HO.out (by have := CL.out; omega)).mono ?_); rintro e w5 ⟨rfl, ho, row, hg, hrow⟩; rw [← HZ.out] at ho; have n0_ := Aside0.mk (pw_below_grown HB.out row (below_size HB.out) hg hrow); have n1_ := Aside0.mk ho; clear HB HO ho hg hrow; have HB := n0_; have HO := n1_; clear n0_ n1_))
    go_region_with (first
      | (go_at_call 136; (with_reducible refine (join_own (l := z) (base := w.heap.size) (by (with_reducible repeat (first | apply Kd.R_alloc | apply Kd.R_drewN | apply Kd.R_drew)); exact HO.out) (by have := CL.out; have := HZL.out; omega) HZS.out).mono ?_); rw [← HJ.out]; rintro e w6 ⟨rfl, hb⟩; (try (have hcv6 := own_string (P := Try.prog) Try.underlying148 Try.underlying5 Try.underlying23 (pw_own_below (w := (w5.alloc (.cells #[.int .u8 101, .int .u8 y.length] 5)).drew) (HLIT.out w5) hb))); have n1_ := Aside0.mk (below_step (by repeat (first | (with_reducible first | exact HB.out | apply below_alloc | apply pw_below_drewN | apply below_drew1) | exact HB.out)) hb); clear HB hb; have HB := n1_; clear n1_)
      | (go_at_call 135; rw [← NR.out]; (with_reducible refine (HW.out _ _).mono ?_); rintro e w8 ⟨rfl, hb⟩; have n1_ := Aside0.mk (below_step (by repeat (first | (with_reducible first | exact HB.out | apply below_alloc | apply pw_below_drewN | apply below_drew1) | exact HB.out)) hb); clear HB hb; have HB := n1_; clear n1_))
    all_goals (go_wp2; go_ret2; exact ⟨rfl, HB.out⟩)
theorem term_Power.calls (a0 : ByteArray) (a1 : ByteArray) (r1 : ByteArray) (r2 : Int) (w : World) (h : term_Power.f a0 a1 = some (r1, r2)) :
    Calls Try.prog 88 #[.string a0, .string a1] w fun e w' => e = .returned (.tuple #[.string r1, .int .i64 r2]) ∧ Below w.heap.size w w' := by
  unfold term_Power.f at h
  split at h
  case isFalse => cases h
  rename_i hs
  replace h := Option.some.inj h
  by_cases h1 : elemB a0 = true
  · by_cases h2 : rightB a1 = true
    · have := term_Power.yes a0 a1 w hs.1 hs.2 h1 h2
      rw [h] at this
      exact this
    · unfold powF at h
      rw [if_pos h1, if_neg h2] at h
      obtain ⟨rfl, rfl⟩ := Prod.mk.inj h
      exact term_Power.no2 a0 a1 w hs.1 hs.2 h1 (by simpa using h2)
  · unfold powF at h
    rw [if_neg h1] at h
    obtain ⟨rfl, rfl⟩ := Prod.mk.inj h
    exact term_Power.no1 a0 a1 w hs.1 (by simpa using h1)

end Go.Proofs.Ytpfpmjdifnoeoaa.F
