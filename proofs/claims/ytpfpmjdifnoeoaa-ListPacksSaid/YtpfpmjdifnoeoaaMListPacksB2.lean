/- The program's functions that put terms together, and plain facts about these; no condition. -/
import Derived.Test.YtpfpmjdifnoeoaaMListPacksF0
import Derived.Test.YtpfpmjdifnoeoaaMListPacksB1
import Derived.Deep.RegionWith
import Derived.Test.YtpfpmjdifnoeoaaMListPacksShelf
import Derived.Sort.OwnSorted
import Derived.Lib.OwnBridge
import Derived.Sort.Walk0
namespace Go.Proofs.Ytpfpmjdifnoeoaa.F
open Go.RowKit Go.Proofs.YtpfpmjdifnoeoaaW.PrintWords Go.Proofs.YtpfpmjdifnoeoaaW.PrintLast Go.Proofs.YtpfpmjdifnoeoaaW.PrintMore
attribute [local go_sem] max2_int min2_int max_two min_two max_three min_three max_four min_four
set_option linter.unusedVariables false
set_option linter.unusedSimpArgs false
end Go.Proofs.Ytpfpmjdifnoeoaa.F
namespace Go.Proofs.Ytpfpmjdifnoeoaa.F
open Go.RowKit Go.Proofs.YtpfpmjdifnoeoaaW.PrintWords Go.Proofs.YtpfpmjdifnoeoaaW.PrintLast Go.Proofs.YtpfpmjdifnoeoaaW.PrintMore
attribute [local go_sem] max2_int min2_int max_two min_two max_three min_three max_four min_four
set_option linter.unusedVariables false
set_option linter.unusedSimpArgs false
end Go.Proofs.Ytpfpmjdifnoeoaa.F
namespace Go.Proofs.Ytpfpmjdifnoeoaa.F
open Go.RowKit Go.Proofs.YtpfpmjdifnoeoaaW.PrintWords Go.Proofs.YtpfpmjdifnoeoaaW.PrintLast Go.Proofs.YtpfpmjdifnoeoaaW.PrintMore
attribute [local go_sem] max2_int min2_int max_two min_two max_three min_three max_four min_four
set_option linter.unusedVariables false
set_option linter.unusedSimpArgs false
def wholeF (t : ByteArray) : ByteArray × Int := if 20000 < t.size then (⟨#[]⟩, 3) else if rightB t = true then (t, 0) else (⟨#[]⟩, 4)
end Go.Proofs.Ytpfpmjdifnoeoaa.F
namespace Go.Proofs.Ytpfpmjdifnoeoaa.F
open Go.RowKit Go.Proofs.YtpfpmjdifnoeoaaW.PrintWords Go.Proofs.YtpfpmjdifnoeoaaW.PrintLast Go.Proofs.YtpfpmjdifnoeoaaW.PrintMore
attribute [local go_sem] max2_int min2_int max_two min_two max_three min_three max_four min_four
set_option linter.unusedVariables false
set_option linter.unusedSimpArgs false
end Go.Proofs.Ytpfpmjdifnoeoaa.F
namespace Go.Proofs.Ytpfpmjdifnoeoaa.F
open Go.RowKit Go.Proofs.YtpfpmjdifnoeoaaW.PrintWords Go.Proofs.YtpfpmjdifnoeoaaW.PrintLast Go.Proofs.YtpfpmjdifnoeoaaW.PrintMore
attribute [local go_sem] max2_int min2_int max_two min_two max_three min_three max_four min_four
set_option linter.unusedVariables false
set_option linter.unusedSimpArgs false
end Go.Proofs.Ytpfpmjdifnoeoaa.F
namespace Go.Proofs.Ytpfpmjdifnoeoaa.F
open Go.RowKit Go.Proofs.YtpfpmjdifnoeoaaW.PrintWords Go.Proofs.YtpfpmjdifnoeoaaW.PrintLast Go.Proofs.YtpfpmjdifnoeoaaW.PrintMore
attribute [local go_sem] max2_int min2_int max_two min_two max_three min_three max_four min_four
set_option linter.unusedVariables false
set_option linter.unusedSimpArgs false
def addF (h : ByteArray) (l : List ByteArray) : ByteArray := l.foldl (· ++ ·) h
def ofF (h : ByteArray) (l : List ByteArray) : ByteArray × Int := if l.all rightB = true then wholeF (addF h l) else (⟨#[]⟩, 1)
end Go.Proofs.Ytpfpmjdifnoeoaa.F
namespace Go.Proofs.Ytpfpmjdifnoeoaa.F
open Go.RowKit Go.Proofs.YtpfpmjdifnoeoaaW.PrintWords Go.Proofs.YtpfpmjdifnoeoaaW.PrintLast Go.Proofs.YtpfpmjdifnoeoaaW.PrintMore
attribute [local go_sem] max2_int min2_int max_two min_two max_three min_three max_four min_four
set_option linter.unusedVariables false
set_option linter.unusedSimpArgs false
end Go.Proofs.Ytpfpmjdifnoeoaa.F
namespace Go.Proofs.Ytpfpmjdifnoeoaa.F
open Go.RowKit Go.Proofs.YtpfpmjdifnoeoaaW.PrintWords Go.Proofs.YtpfpmjdifnoeoaaW.PrintLast Go.Proofs.YtpfpmjdifnoeoaaW.PrintMore
attribute [local go_sem] max2_int min2_int max_two min_two max_three min_three max_four min_four
set_option linter.unusedVariables false
set_option linter.unusedSimpArgs false
def hashF (a0 : ByteArray) : ByteArray × Int := ofF ⟨#[104]⟩ [a0]
end Go.Proofs.Ytpfpmjdifnoeoaa.F
namespace Go.Proofs.Ytpfpmjdifnoeoaa.F
open Go.RowKit Go.Proofs.YtpfpmjdifnoeoaaW.PrintWords Go.Proofs.YtpfpmjdifnoeoaaW.PrintLast Go.Proofs.YtpfpmjdifnoeoaaW.PrintMore
attribute [local go_sem] max2_int min2_int max_two min_two max_three min_three max_four min_four
set_option linter.unusedVariables false
set_option linter.unusedSimpArgs false
end Go.Proofs.Ytpfpmjdifnoeoaa.F
namespace Go.Proofs.Ytpfpmjdifnoeoaa.F
open Go.RowKit Go.Proofs.YtpfpmjdifnoeoaaW.PrintWords Go.Proofs.YtpfpmjdifnoeoaaW.PrintLast Go.Proofs.YtpfpmjdifnoeoaaW.PrintMore
attribute [local go_sem] max2_int min2_int max_two min_two max_three min_three max_four min_four
set_option linter.unusedVariables false
set_option linter.unusedSimpArgs false
end Go.Proofs.Ytpfpmjdifnoeoaa.F
namespace Go.Proofs.Ytpfpmjdifnoeoaa.F
open Go.RowKit Go.Proofs.YtpfpmjdifnoeoaaW.PrintWords Go.Proofs.YtpfpmjdifnoeoaaW.PrintLast Go.Proofs.YtpfpmjdifnoeoaaW.PrintMore
attribute [local go_sem] max2_int min2_int max_two min_two max_three min_three max_four min_four
set_option linter.unusedVariables false
set_option linter.unusedSimpArgs false
end Go.Proofs.Ytpfpmjdifnoeoaa.F
namespace Go.Proofs.Ytpfpmjdifnoeoaa.Pure
set_option linter.unusedVariables false
set_option linter.unusedSimpArgs false
open Go.RowKit Go.Proofs.Ytpfpmjdifnoeoaa.F Go.Proofs.YtpfpmjdifnoeoaaW.PrintWords Go.Proofs.YtpfpmjdifnoeoaaW.PrintLast
def bl (s : ByteArray) : List UInt8 := s.data.toList
theorem bl_inj {a b : ByteArray} (h : bl a = bl b) : a = b := ByteArray.ext (Array.ext' h)
theorem bl_app (a b : ByteArray) : bl (a ++ b) = bl a ++ bl b := by simp [bl, ByteArray.data_append]
theorem deepest_le {m dep : Int} {ts : List ByteArray} (h : ∀ t ∈ ts, depF t ≤ m) (hd : dep ≤ m) : deepest dep ts ≤ m := by
  unfold deepest
  induction ts generalizing dep with
  | nil => exact hd
  | cons t ts ih =>
    rw [List.foldl_cons]
    exact ih (fun x hx => h x (List.mem_cons_of_mem _ hx)) (by have := h t List.mem_cons_self; unfold mx; split <;> omega)
theorem le_deepest {dep : Int} {ts : List ByteArray} : dep ≤ deepest dep ts ∧ ∀ t ∈ ts, depF t ≤ deepest dep ts := by
  unfold deepest
  induction ts generalizing dep with
  | nil => exact ⟨Int.le_refl _, by simp⟩
  | cons t ts ih =>
    rw [List.foldl_cons]
    have h1 := @ih (mx dep (depF t))
    have h2 : dep ≤ mx dep (depF t) ∧ depF t ≤ mx dep (depF t) := by unfold mx; split <;> omega
    refine ⟨by omega, fun x hx => ?_⟩
    rcases List.mem_cons.mp hx with rfl | hx
    · omega
    · exact h1.2 x hx
theorem cat_mem_size {t : ByteArray} : ∀ {ts : List ByteArray}, t ∈ ts → t.size ≤ (cat ts).size
  | x :: ts, h => by
    rw [cat, ByteArray.size_append]
    rcases List.mem_cons.mp h with rfl | h
    · omega
    · have := cat_mem_size h; omega
theorem bt_head {t h : ByteArray} {ts : List ByteArray} {pow : Bool} (n : Node t h ts pow) : bt t 0 = bt h 0 := by
  rw [n.eq]
  exact bt_left h (cat ts) 0 n.head.pos
theorem Node.body {t h : ByteArray} {ts : List ByteArray} {pow : Bool} (n : Node t h ts pow) : t.extract h.size t.size = cat ts := by
  have := (Lies.last h (cat ts)).whole
  rw [← n.eq, ← ByteArray.size_append, ← n.eq] at this
  exact this
theorem Node.small {t h : ByteArray} {ts : List ByteArray} {pow : Bool} (n : Node t h ts pow) (hs : t.size ≤ 20000) : ∀ x ∈ ts, Tm x ∧ x.size ≤ 20000 := by
  intro x hx
  have h1 := cat_mem_size hx
  have h2 : t.size = h.size + (cat ts).size := by rw [n.eq, ByteArray.size_append]
  exact ⟨(n.parts x hx).1, by omega⟩
theorem leaf_bytes {t : ByteArray} (h : Leaf t) : bt t 0 = 103 ∨ bt t 0 = 110 ∨ bt t 0 = 117 ∨ bt t 0 = 105 ∨ bt t 0 = 116 := by
  have := h.1
  unfold leafF at this
  repeat' split at this
  all_goals first | omega | (exact absurd rfl this)
theorem node_bytes {t h : ByteArray} {ts : List ByteArray} {pow : Bool} (n : Node t h ts pow) : bt t 0 = 107 ∨ bt t 0 = 104 ∨ bt t 0 = 112 ∨ bt t 0 = 120 ∨ bt t 0 = 115 ∨ (bt t 0 = 101 ∧ pow = true) := by
  rw [bt_head n]
  cases n.head
  · exact .inl rfl
  · exact .inr (.inl rfl)
  · exact .inr (.inr (.inl rfl))
  · exact .inr (.inr (.inr (.inl rfl)))
  · exact .inr (.inr (.inr (.inr (.inl rfl))))
  · exact .inr (.inr (.inr (.inr (.inr ⟨rfl, rfl⟩))))
theorem node_right {t h : ByteArray} {ts : List ByteArray} {pow : Bool} (n : Node t h ts pow) (hs : t.size ≤ 20000) : rightB t = true := (right_iff t).mpr ⟨n.tm.1, hs⟩
theorem addF_cat (h : ByteArray) (l : List ByteArray) : addF h l = h ++ cat l := by
  unfold addF
  induction l generalizing h with
  | nil => rw [List.foldl_nil, cat, app_nil]
  | cons x l ih => rw [List.foldl_cons, ih, cat, app_assoc]
theorem ofF_ok {h : ByteArray} {l : List ByteArray} (hl : ∀ x ∈ l, rightB x = true) : ofF h l = wholeF (h ++ cat l) := by
  unfold ofF
  rw [if_pos (List.all_eq_true.mpr hl), addF_cat]
end Go.Proofs.Ytpfpmjdifnoeoaa.Pure
namespace Go.Proofs.Ytpfpmjdifnoeoaa.Pure
set_option linter.unusedVariables false
set_option linter.unusedSimpArgs false
open Go.RowKit Go.Proofs.Ytpfpmjdifnoeoaa.F Go.Proofs.YtpfpmjdifnoeoaaW.PrintWords Go.Proofs.YtpfpmjdifnoeoaaW.PrintLast
theorem leaf_of {t : ByteArray} (h : leafF t = t.size) (h0 : 0 < t.size) : Leaf t := ⟨by omega, h⟩
theorem Leaf.right {t : ByteArray} (h : Leaf t) (hs : t.size ≤ 20000) : rightB t = true := (right_iff t).mpr ⟨h.tm.1, hs⟩
theorem num_leaf (n : Int) : Leaf (numF n) := by
  have b0 : bt (numF n) 0 = 117 := rfl
  have hz : (numF n).size = 9 := rfl
  exact leaf_of (by unfold leafF; rw [b0, hz]; rfl) (by omega)
theorem gen_leaf : Leaf ⟨#[103]⟩ := leaf_of (by unfold leafF; rfl) (by decide)
theorem mem2 {P : ByteArray → Prop} {a b : ByteArray} (ha : P a) (hb : P b) : ∀ x ∈ [a, b], P x := by
  intro x hx
  rcases List.mem_cons.mp hx with rfl | hx
  · exact ha
  · rw [List.mem_singleton.mp hx]; exact hb
theorem mem1 {P : ByteArray → Prop} {a : ByteArray} (ha : P a) : ∀ x ∈ [a], P x := by
  intro x hx
  rw [List.mem_singleton.mp hx]; exact ha
structure Part (m : Int) (t : ByteArray) : Prop where
  right : rightB t = true
  dep : depF t ≤ m
theorem Part.tm {m : Int} {t : ByteArray} (h : Part m t) : Tm t := ((right_iff t).mp h.right).1
theorem Part.size {m : Int} {t : ByteArray} (h : Part m t) : t.size ≤ 20000 := ((right_iff t).mp h.right).2
theorem Part.mono {m n : Int} {t : ByteArray} (h : Part m t) (hmn : m ≤ n) : Part n t := ⟨h.right, by have := h.dep; omega⟩
theorem Leaf.part {t : ByteArray} (h : Leaf t) (hs : t.size ≤ 20000) {m : Int} (hm : 1 ≤ m) : Part m t := ⟨h.right hs, by rw [h.tm.2]; exact hm⟩
theorem node_made {m : Int} (hm : m ≤ 399) {h : ByteArray} {ts : List ByteArray} {pow : Bool} (hh : HeadOf h ts pow) (hp : ∀ x ∈ ts, Part m x) (hr : pow = true → Rises ⟨#[]⟩ ts) (h0 : 0 ≤ m) :
    Node (h ++ cat ts) h ts pow ∧ depF (h ++ cat ts) ≤ m + 1 := by
  have n : Node (h ++ cat ts) h ts pow := ⟨rfl, hh, fun x hx => ⟨(hp x hx).tm, by have := (hp x hx).dep; omega⟩, hr⟩
  refine ⟨n, ?_⟩
  rw [n.tm.2]
  have := deepest_le (m := m) (dep := 0) (ts := ts) (fun t ht => (hp t ht).dep) h0
  omega
theorem ofF_made {m : Int} (hm : m ≤ 399) (h0 : 0 ≤ m) {h : ByteArray} {ts : List ByteArray} (hh : HeadOf h ts false) (hp : ∀ x ∈ ts, Part m x) :
    ofF h ts = (if 20000 < (h ++ cat ts).size then (⟨#[]⟩, 3) else (h ++ cat ts, 0)) ∧ ((h ++ cat ts).size ≤ 20000 → Part (m + 1) (h ++ cat ts)) := by
  obtain ⟨n, hd⟩ := node_made hm hh hp (fun h => absurd h (by simp)) h0
  rw [ofF_ok (fun x hx => (hp x hx).right)]
  refine ⟨?_, fun hs => ⟨node_right n hs, hd⟩⟩
  unfold wholeF
  split
  · rfl
  · rw [if_pos (node_right n (by omega))]
theorem cat1 (a : ByteArray) : cat [a] = a := by simp only [cat]; exact app_nil a
theorem cat2 (a b : ByteArray) : cat [a, b] = a ++ b := by rw [cat, cat1]
theorem hash_made {m : Int} (hm : m ≤ 399) (h0 : 0 ≤ m) {a : ByteArray} (ha : Part m a) (hs : a.size < 20000) : hashF a = ((⟨#[104]⟩ : ByteArray) ++ cat [a], 0) ∧ Part (m + 1) ((⟨#[104]⟩ : ByteArray) ++ cat [a]) := by
  have hz : ((⟨#[104]⟩ : ByteArray) ++ cat [a]).size = 1 + a.size := by rw [cat1, ByteArray.size_append]; rfl
  have := ofF_made hm h0 (HeadOf.hash a) (mem1 ha)
  exact ⟨by unfold hashF; rw [this.1, if_neg (by omega)], this.2 (by omega)⟩
def absF (c : Int) : Int := if c < 0 then -(c + 1) else c
def pickF (c n : Int) : Int := absF c % n
theorem pickF_range (c : Int) {n : Int} (h : 0 < n) : 0 ≤ pickF c n ∧ pickF c n < n := ⟨Int.emod_nonneg _ (by omega), Int.emod_lt_of_pos _ h⟩
def atF (l : List ByteArray) (i : Int) : ByteArray := rdOf ByteArray.empty l i
structure MadeOk (out : List ByteArray) : Prop where
  two : 2 ≤ out.length
  small : ∀ t ∈ out, t.size ≤ 600
  part : ∀ t ∈ out, Part out.length t
theorem atF_mem {l : List ByteArray} {i : Int} (h0 : 0 ≤ i) (h : i < l.length) : atF l i ∈ l := by
  unfold atF rdOf
  rw [List.getD_eq_getElem?_getD, List.getElem?_eq_getElem (by omega)]
  exact List.getElem_mem _
theorem MadeOk.at_ {out : List ByteArray} (h : MadeOk out) (hl : out.length ≤ 42) (c : Int) : Part 42 (atF out (pickF c out.length)) ∧ (atF out (pickF c out.length)).size ≤ 600 := by
  have h2 := h.two
  have hpos : (0 : Int) < (out.length : Int) := by omega
  have hm : atF out (pickF c out.length) ∈ out := atF_mem (pickF_range c hpos).1 (pickF_range c hpos).2
  exact ⟨(h.part _ hm).mono (by omega), h.small _ hm⟩
end Go.Proofs.Ytpfpmjdifnoeoaa.Pure
namespace Go.Proofs.Ytpfpmjdifnoeoaa.Pure
set_option linter.unusedVariables false
set_option linter.unusedSimpArgs false
open Go.RowKit Go.Proofs.Ytpfpmjdifnoeoaa.F Go.Proofs.YtpfpmjdifnoeoaaW.PrintWords Go.Proofs.YtpfpmjdifnoeoaaW.PrintLast Go.Proofs.YtpfpmjdifnoeoaaW.PrintMore
end Go.Proofs.Ytpfpmjdifnoeoaa.Pure
